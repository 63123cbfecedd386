/- WALKS written by gen.py (own program) out of specs. -/
import Derived.Test.YtaignhikdfpbbaaDoorL2
namespace Go.Proofs.YtaignhikdfpbbaaDoor
open Go.RowKit Go.Rx
set_option maxRecDepth 100000
set_option maxHeartbeats 4000000
set_option linter.unusedVariables false
set_option linter.unusedSimpArgs false

theorem zero_24L3 : ∀ w, (zeroValue 24).run Tryd.prog w = .ok (.agg ((List.replicate 256 (0 : Int)).map ei).toArray) w := fun _ => by kernel_rfl
theorem zero_25L3 : ∀ w, (zeroValue 25).run Tryd.prog w = .ok (.agg ((List.replicate 256 (0 : Int)).map ei).toArray) w := fun _ => by kernel_rfl
theorem law_SampleBits (d k0 c : Int) (w0 : World) (hG : Glob w0) :
    Calls Tryd.prog 8 #[ei d, ei k0, ei c] w0 fun e w' => e = .returned (.bool true) ∧ Below w0.heap.size w0 w' := by
  refine enter (args := [_, _, _]) Tryd.func8 rfl Tryd.ntmps8 rfl ?_
  intro a ha
  have hB := Below.refl w0.heap.size w0
  refine wp_seq_k fun K1 hK2 => ?_
  refine region ?_
  refine sv ha (r_assign ha rfl) rfl rfl rfl ?_; clear ha a; intro a ha
  refine hK2 _ _ ?_; clear hK2 K1
  refine wp_seq_k fun K3 hK4 => ?_
  refine region ?_
  refine sc ha (r_call ha [] rfl Tryd.call11) rfl rfl rfl (c_awake12  _ (glob_keep hG hB)) ?_
  clear ha a
  rintro e w5 ⟨rfl, hBc⟩
  have hg := grown_call hBc; clear hBc
  replace hB := keepB0 hg hB
  clear hg
  refine ⟨_, rfl, ?_⟩; intro a ha
  refine sv ha (r_assign ha rfl) rfl rfl rfl ?_; clear ha a; intro a ha
  refine hK4 _ _ ?_; clear hK4 K3
  refine wp_seq_k fun K6 hK7 => ?_
  refine wp_seq_k fun K8 hK9 => ?_
  refine region ?_
  refine sv ha (r_move ha rfl) rfl rfl rfl ?_; clear ha a; intro a ha
  refine sv ha (r_not ha true false rfl rfl) rfl rfl rfl ?_; clear ha a; intro a ha
  refine hK9 _ _ ?_; clear hK9 K8
  refine cond_f ha rfl ?_
  refine wp_skip ?_
  refine hK7 _ _ ?_; clear hK7 K6
  refine wp_seq_k fun K10 hK11 => ?_
  refine region ?_
  refine sv ha (r_move ha rfl) rfl rfl rfl ?_; clear ha a; intro a ha
  refine sv ha (r_mask ha k0 8 (by omega) (m := 255) rfl rfl rfl) rfl rfl rfl ?_; clear ha a; intro a ha
  refine sv ha (r_assign ha rfl) rfl rfl rfl ?_; clear ha a; intro a ha
  refine hK11 _ _ ?_; clear hK11 K10
  refine wp_seq_k fun K12 hK13 => ?_
  refine region ?_
  refine salloc ha zero_24L3 rfl ?_
  clear ha a; intro a w14 b15 ha hg hb15 hge15 hlt15
  have hz15 : w0.heap.size ≤ b15 := Nat.le_trans hB.size hge15
  replace hB := keepB0 hg hB
  clear hg hge15 hlt15
  refine hK13 _ _ ?_; clear hK13 K12
  refine wp_seq_k fun K16 hK17 => ?_
  refine region ?_
  refine sv ha (r_move ha rfl) rfl rfl rfl ?_; clear ha a; intro a ha
  refine sv ha (r_move ha rfl) rfl rfl rfl ?_; clear ha a; intro a ha
  refine sv ha (r_indexArr (i := (k0 % (2 ^ 8 : Nat)).toNat) ha ((k0 % (2 ^ 8 : Nat)).toNat) Tryd.runUnderlying24 Tryd.sizeOf3 rfl rfl (by omega) (by omega)) rfl rfl rfl ?_; clear ha a; intro a ha
  refine sstore ha (v := ei c) rfl rfl rfl rfl Tryd.sizeOf3 hb15 (by rw [List.length_map, List.length_replicate]; omega) ?_
  clear ha a; intro a w18 ha hg hb15'
  rw [set_map] at hb15'
  clear hb15; have hb15 := hb15'; clear hb15'
  replace hB := keepB1 hg (by omega) hB
  clear hg
  refine hK17 _ _ ?_; clear hK17 K16
  refine wp_seq_k fun K19 hK20 => ?_
  refine region ?_
  refine sv ha (r_move ha rfl) rfl rfl rfl ?_; clear ha a; intro a ha
  refine sv ha (r_loadR ha rfl Tryd.isAgg24 Tryd.sizeOf24 (C := ((List.replicate 256 (0 : Int)).set ((k0 % (2 ^ 8 : Nat)).toNat) c).map ei) (by rw [List.length_map, List.length_set, List.length_replicate]) (cells_all hb15)) rfl rfl rfl ?_; clear ha a; intro a ha
  refine sc ha (r_call ha [ei d, .agg ((((List.replicate 256 (0 : Int)).set ((k0 % (2 ^ 8 : Nat)).toNat) c)).map ei).toArray] rfl Tryd.call20) rfl rfl rfl (c_packZ d ((List.replicate 256 (0 : Int)).set ((k0 % (2 ^ 8 : Nat)).toNat) c) _ (by rw [List.length_set, List.length_replicate])) ?_
  clear ha a
  rintro e w21 ⟨u22, rfl, hBc, hs22, hd22⟩
  have hg := grown_call hBc; clear hBc
  have hnb_hs22_b15 : ∀ j, u22.ownBlock = some j → j ≠ b15 := fun j hj => by have h1 := hd22 j hj; have h2 := lt_of_block hb15; omega
  replace hd22 : ∀ j, u22.ownBlock = some j → w0.heap.size ≤ j := fun j hj => Nat.le_trans hB.size (hd22 j hj)
  replace hB := keepB0 hg hB
  replace hb15 := keepO0 hg hb15
  clear hg
  refine ⟨_, rfl, ?_⟩; intro a ha
  refine sv ha (r_assign ha rfl) rfl rfl rfl ?_; clear ha a; intro a ha
  refine hK20 _ _ ?_; clear hK20 K19
  refine wp_seq_k fun K23 hK24 => ?_
  refine wp_seq_k fun K25 hK26 => ?_
  refine regionD (S := fun w => Below w0.heap.size w0 w ∧ w.heap[b15]? = some (.cells (((List.replicate 256 (0 : Int)).set ((k0 % (2 ^ 8 : Nat)).toNat) c).map ei).toArray 24 (0, 0)) ∧ Sl w u22 ((pack d ((List.replicate 256 (0 : Int)).set ((k0 % (2 ^ 8 : Nat)).toNat) c)).map e8) ∧ True) [] [0, 1, 2, 3, 5, 6] [0, 1, 2, 3, 4, 5, 6] mixed (by kernel_rfl) (fun w hg => ⟨keepB0 hg hB, keepO0 hg hb15, keepS0 hg hs22, trivial⟩) ?_
  intro w27 hg
  replace hB := keepB0 hg hB
  replace hb15 := keepO0 hg hb15
  replace hs22 := keepS0 hg hs22
  clear hg
  refine cv ha rfl rfl (fun w _ => r_move ha rfl) rfl rfl rfl ?_; clear ha a; intro a ha
  refine cv ha rfl rfl (fun w ⟨hB, hb15, hs22, _⟩ => r_str (l := pack d ((List.replicate 256 (0 : Int)).set ((k0 % (2 ^ 8 : Nat)).toNat) c)) ha Tryd.underlying22 Tryd.underlying5 Tryd.underlying9 rfl hs22) rfl rfl rfl ?_; clear ha a; intro a ha
  refine cv ha rfl rfl (fun w _ => r_move ha rfl) rfl rfl rfl ?_; clear ha a; intro a ha
  refine cv ha rfl rfl (fun w ⟨hB, hb15, hs22, _⟩ => r_loadR ha rfl Tryd.isAgg24 Tryd.sizeOf24 (C := ((List.replicate 256 (0 : Int)).set ((k0 % (2 ^ 8 : Nat)).toNat) c).map ei) (by rw [List.length_map, List.length_set, List.length_replicate]) (cells_all hb15)) rfl rfl rfl ?_; clear ha a; intro a ha
  refine ccx ha rfl rfl (r_call ha [ei d, .agg ((((List.replicate 256 (0 : Int)).set ((k0 % (2 ^ 8 : Nat)).toNat) c)).map ei).toArray] rfl Tryd.call21) rfl rfl rfl (c_rpackZ d ((List.replicate 256 (0 : Int)).set ((k0 % (2 ^ 8 : Nat)).toNat) c) _ (by rw [List.length_set, List.length_replicate])) ?_
  clear ha a
  rintro e w28 ⟨u29, rfl, hBc, hs29, hd29⟩
  have hg := grown_call hBc; clear hBc
  have hnb_hs29_b15 : ∀ j, u29.ownBlock = some j → j ≠ b15 := fun j hj => by have h1 := hd29 j hj; have h2 := lt_of_block hb15; omega
  have hds_hs29_hs22 : ∀ j, u29.ownBlock = some j → u22.ownBlock ≠ some j := fun j h1 h2 => by have h3 := hd29 j h1; have h4 := (fun j hj => hs22.lt j hj) j h2; omega
  replace hd29 : ∀ j, u29.ownBlock = some j → w0.heap.size ≤ j := fun j hj => Nat.le_trans hB.size (hd29 j hj)
  replace hB := keepB0 hg hB
  replace hb15 := keepO0 hg hb15
  replace hs22 := keepS0 hg hs22
  clear hg
  refine ⟨fun w => (Sl w u29 ((pack d ((List.replicate 256 (0 : Int)).set ((k0 % (2 ^ 8 : Nat)).toNat) c)).map e8)) ∧ Below w0.heap.size w0 w ∧ w.heap[b15]? = some (.cells (((List.replicate 256 (0 : Int)).set ((k0 % (2 ^ 8 : Nat)).toNat) c).map ei).toArray 24 (0, 0)) ∧ Sl w u22 ((pack d ((List.replicate 256 (0 : Int)).set ((k0 % (2 ^ 8 : Nat)).toNat) c)).map e8) ∧ True, fun w h => h.2, fun _ => ⟨hs29, hB, hb15, hs22, trivial⟩, _, rfl, ?_⟩; intro a ha
  refine cv ha rfl rfl (fun w ⟨hs29, hB, hb15, hs22, _⟩ => r_str (l := pack d ((List.replicate 256 (0 : Int)).set ((k0 % (2 ^ 8 : Nat)).toNat) c)) ha Tryd.underlying22 Tryd.underlying5 Tryd.underlying9 rfl hs29) rfl rfl rfl ?_; clear ha a; intro a ha
  refine cv ha rfl rfl (fun w _ => r_neqS ha (pack d ((List.replicate 256 (0 : Int)).set ((k0 % (2 ^ 8 : Nat)).toNat) c)) (pack d ((List.replicate 256 (0 : Int)).set ((k0 % (2 ^ 8 : Nat)).toNat) c)) false rfl rfl (decide_eq_false (fun h => h rfl))) rfl rfl rfl ?_; clear ha a; intro a ha
  refine cfin (hK26 _ _ ?_); clear hK26 K25
  refine cond_f ha rfl ?_
  refine wp_skip ?_
  refine hK24 _ _ ?_; clear hK24 K23
  refine wp_seq_k fun K30 hK31 => ?_
  refine region ?_
  refine sv ha (r_move ha rfl) rfl rfl rfl ?_; clear ha a; intro a ha
  refine sv ha (r_move ha rfl) rfl rfl rfl ?_; clear ha a; intro a ha
  refine sc ha (r_call ha [ei d, u22] rfl Tryd.call18) rfl rfl rfl (c_unpackZ d u22 (pack d ((List.replicate 256 (0 : Int)).set ((k0 % (2 ^ 8 : Nat)).toNat) c)) _ hs22) ?_
  clear ha a
  rintro e w32 ⟨rfl, hBc⟩
  have hg := grown_call hBc; clear hBc
  replace hB := keepB0 hg hB
  replace hb15 := keepO0 hg hb15
  replace hs22 := keepS0 hg hs22
  replace hs29 := keepS0 hg hs29
  clear hg
  refine ⟨_, rfl, ?_⟩; intro a ha
  refine sv ha (r_move ha rfl) rfl rfl rfl ?_; clear ha a; intro a ha
  refine sv ha (r_extract ha (vs := #[.agg ((unpP d (pack d ((List.replicate 256 (0 : Int)).set ((k0 % (2 ^ 8 : Nat)).toNat) c))).map ei).toArray, en (unpE d (pack d ((List.replicate 256 (0 : Int)).set ((k0 % (2 ^ 8 : Nat)).toNat) c)))]) rfl rfl) rfl rfl rfl ?_; clear ha a; intro a ha
  refine sv ha (r_extract ha (vs := #[.agg ((unpP d (pack d ((List.replicate 256 (0 : Int)).set ((k0 % (2 ^ 8 : Nat)).toNat) c))).map ei).toArray, en (unpE d (pack d ((List.replicate 256 (0 : Int)).set ((k0 % (2 ^ 8 : Nat)).toNat) c)))]) rfl rfl) rfl rfl rfl ?_; clear ha a; intro a ha
  refine salloc ha zero_25L3 rfl ?_
  clear ha a; intro a w33 b34 ha hg hb34 hge34 hlt34
  have hz34 : w0.heap.size ≤ b34 := Nat.le_trans hB.size hge34
  have hne_hs22_b34 : ∀ j, Value.ownBlock u22 = some j → j ≠ b34 := fun j hj => by have := hs22.lt j hj; omega
  have hne_hs29_b34 : ∀ j, Value.ownBlock u29 = some j → j ≠ b34 := fun j hj => by have := hs29.lt j hj; omega
  have hq15_34 : b15 < b34 := Nat.lt_of_lt_of_le (lt_of_block hb15) hge34
  replace hB := keepB0 hg hB
  replace hb15 := keepO0 hg hb15
  replace hs22 := keepS0 hg hs22
  replace hs29 := keepS0 hg hs29
  clear hg hge34 hlt34
  refine sstoreW ha rfl rfl (one_ei _) Tryd.sizeOf25 (by rw [List.length_map, unpP_len]) hb34 (by rw [List.length_map, List.length_replicate]) ?_
  clear ha a; intro a w35 ha hg hb34'
  clear hb34; have hb34 := hb34'; clear hb34'
  replace hB := keepB1 hg (by omega) hB
  replace hb15 := keepO1 hg (by omega) hb15
  replace hs22 := keepS1 hg (ne_of_ap hne_hs22_b34) hs22
  replace hs29 := keepS1 hg (ne_of_ap hne_hs29_b34) hs29
  clear hg
  refine sv ha (r_assign ha rfl) rfl rfl rfl ?_; clear ha a; intro a ha
  refine hK31 _ _ ?_; clear hK31 K30
  refine wp_seq_k fun K36 hK37 => ?_
  refine region ?_
  refine sv ha (r_move ha rfl) rfl rfl rfl ?_; clear ha a; intro a ha
  refine sv ha (r_move ha rfl) rfl rfl rfl ?_; clear ha a; intro a ha
  refine sc ha (r_call ha [ei d, u22] rfl Tryd.call19) rfl rfl rfl (c_runpackZ d u22 (pack d ((List.replicate 256 (0 : Int)).set ((k0 % (2 ^ 8 : Nat)).toNat) c)) _ hs22) ?_
  clear ha a
  rintro e w38 ⟨rfl, hBc⟩
  have hg := grown_call hBc; clear hBc
  replace hB := keepB0 hg hB
  replace hb15 := keepO0 hg hb15
  replace hb34 := keepO0 hg hb34
  replace hs22 := keepS0 hg hs22
  replace hs29 := keepS0 hg hs29
  clear hg
  refine ⟨_, rfl, ?_⟩; intro a ha
  refine sv ha (r_move ha rfl) rfl rfl rfl ?_; clear ha a; intro a ha
  refine sv ha (r_extract ha (vs := #[.agg ((unpP d (pack d ((List.replicate 256 (0 : Int)).set ((k0 % (2 ^ 8 : Nat)).toNat) c))).map ei).toArray, en (unpE d (pack d ((List.replicate 256 (0 : Int)).set ((k0 % (2 ^ 8 : Nat)).toNat) c)))]) rfl rfl) rfl rfl rfl ?_; clear ha a; intro a ha
  refine sv ha (r_extract ha (vs := #[.agg ((unpP d (pack d ((List.replicate 256 (0 : Int)).set ((k0 % (2 ^ 8 : Nat)).toNat) c))).map ei).toArray, en (unpE d (pack d ((List.replicate 256 (0 : Int)).set ((k0 % (2 ^ 8 : Nat)).toNat) c)))]) rfl rfl) rfl rfl rfl ?_; clear ha a; intro a ha
  refine salloc ha zero_24L3 rfl ?_
  clear ha a; intro a w39 b40 ha hg hb40 hge40 hlt40
  have hz40 : w0.heap.size ≤ b40 := Nat.le_trans hB.size hge40
  have hne_hs22_b40 : ∀ j, Value.ownBlock u22 = some j → j ≠ b40 := fun j hj => by have := hs22.lt j hj; omega
  have hne_hs29_b40 : ∀ j, Value.ownBlock u29 = some j → j ≠ b40 := fun j hj => by have := hs29.lt j hj; omega
  have hq15_40 : b15 < b40 := Nat.lt_of_lt_of_le (lt_of_block hb15) hge40
  have hq34_40 : b34 < b40 := Nat.lt_of_lt_of_le (lt_of_block hb34) hge40
  replace hB := keepB0 hg hB
  replace hb15 := keepO0 hg hb15
  replace hb34 := keepO0 hg hb34
  replace hs22 := keepS0 hg hs22
  replace hs29 := keepS0 hg hs29
  clear hg hge40 hlt40
  refine sstoreW ha rfl rfl (one_ei _) Tryd.sizeOf24 (by rw [List.length_map, unpP_len]) hb40 (by rw [List.length_map, List.length_replicate]) ?_
  clear ha a; intro a w41 ha hg hb40'
  clear hb40; have hb40 := hb40'; clear hb40'
  replace hB := keepB1 hg (by omega) hB
  replace hb15 := keepO1 hg (by omega) hb15
  replace hb34 := keepO1 hg (by omega) hb34
  replace hs22 := keepS1 hg (ne_of_ap hne_hs22_b40) hs22
  replace hs29 := keepS1 hg (ne_of_ap hne_hs29_b40) hs29
  clear hg
  refine sv ha (r_assign ha rfl) rfl rfl rfl ?_; clear ha a; intro a ha
  refine hK37 _ _ ?_; clear hK37 K36
  refine wp_seq_k fun K42 hK43 => ?_
  refine wp_seq_k fun K44 hK45 => ?_
  refine region ?_
  refine sv ha (r_loadR ha rfl Tryd.isAgg25 Tryd.sizeOf25 (C := (unpP d (pack d ((List.replicate 256 (0 : Int)).set ((k0 % (2 ^ 8 : Nat)).toNat) c))).map ei) (by rw [List.length_map, unpP_len]) (cells_all hb34)) rfl rfl rfl ?_; clear ha a; intro a ha
  refine sv ha (r_loadR ha rfl Tryd.isAgg24 Tryd.sizeOf24 (C := (unpP d (pack d ((List.replicate 256 (0 : Int)).set ((k0 % (2 ^ 8 : Nat)).toNat) c))).map ei) (by rw [List.length_map, unpP_len]) (cells_all hb40)) rfl rfl rfl ?_; clear ha a; intro a ha
  refine sv ha (r_neA (f := (fun z : Int => z)) (fun x y h => h) (unpP d (pack d ((List.replicate 256 (0 : Int)).set ((k0 % (2 ^ 8 : Nat)).toNat) c))) (unpP d (pack d ((List.replicate 256 (0 : Int)).set ((k0 % (2 ^ 8 : Nat)).toNat) c))) ha rfl rfl (by rw [unpP_len]) (by rw [unpP_len]) Tryd.eqGuardType25 Tryd.runUnderlying25 Tryd.sizeOf3 Tryd.underlying3 Tryd.isAgg3 false (decide_eq_false (fun h => h rfl))) rfl rfl rfl ?_; clear ha a; intro a ha
  refine sv ha (r_move ha rfl) rfl rfl rfl ?_; clear ha a; intro a ha
  refine svg ha (r_move ha rfl) rfl rfl rfl rfl rfl ?_; clear ha a; intro a ha
  refine svg ha (r_move ha rfl) rfl rfl rfl rfl rfl ?_; clear ha a; intro a ha
  refine svg ha (r_neq ha ((unpE d (pack d ((List.replicate 256 (0 : Int)).set ((k0 % (2 ^ 8 : Nat)).toNat) c)) : Nat) : Int) ((unpE d (pack d ((List.replicate 256 (0 : Int)).set ((k0 % (2 ^ 8 : Nat)).toNat) c)) : Nat) : Int) false rfl rfl (decide_eq_false (by omega))) rfl rfl rfl rfl rfl ?_; clear ha a; intro a ha
  refine sv ha (r_pick ha false rfl rfl) rfl rfl rfl ?_; clear ha a; intro a ha
  refine hK45 _ _ ?_; clear hK45 K44
  refine cond_f ha rfl ?_
  refine wp_skip ?_
  refine hK43 _ _ ?_; clear hK43 K42
  refine wp_seq_k fun K46 hK47 => ?_
  refine wp_seq_k fun K48 hK49 => ?_
  refine region ?_
  refine sv ha (r_assign ha rfl) rfl rfl rfl ?_; clear ha a; intro a ha
  refine hK49 _ _ ?_; clear hK49 K48
  refine wp_block ?_
  refine loopG (fun (i : Nat) a w => (i ≤ 256) ∧ Has 67 [(0, ei d), (1, ei k0), (2, ei c), (16, .bool true), (7, .bool true), (17, .bool true), (18, .bool false), (19, ei k0), (20, en ((k0 % (2 ^ 8 : Nat)).toNat)), (8, en ((k0 % (2 ^ 8 : Nat)).toNat)), (9, .pointer (some ⟨b15, 0, none⟩)), (21, en ((k0 % (2 ^ 8 : Nat)).toNat)), (22, ei c), (23, .pointer (some ⟨b15, (k0 % (2 ^ 8 : Nat)).toNat, none⟩)), (24, ei d), (25, .agg (((List.replicate 256 (0 : Int)).set ((k0 % (2 ^ 8 : Nat)).toNat) c).map ei).toArray), (26, u22), (10, u22), (27, u22), (28, .string (strOf (pack d ((List.replicate 256 (0 : Int)).set ((k0 % (2 ^ 8 : Nat)).toNat) c)))), (29, ei d), (30, .agg (((List.replicate 256 (0 : Int)).set ((k0 % (2 ^ 8 : Nat)).toNat) c).map ei).toArray), (31, u29), (32, .string (strOf (pack d ((List.replicate 256 (0 : Int)).set ((k0 % (2 ^ 8 : Nat)).toNat) c)))), (33, .bool false), (35, ei d), (36, u22), (37, .tuple #[.agg ((unpP d (pack d ((List.replicate 256 (0 : Int)).set ((k0 % (2 ^ 8 : Nat)).toNat) c))).map ei).toArray, en (unpE d (pack d ((List.replicate 256 (0 : Int)).set ((k0 % (2 ^ 8 : Nat)).toNat) c)))]), (34, .tuple #[.agg ((unpP d (pack d ((List.replicate 256 (0 : Int)).set ((k0 % (2 ^ 8 : Nat)).toNat) c))).map ei).toArray, en (unpE d (pack d ((List.replicate 256 (0 : Int)).set ((k0 % (2 ^ 8 : Nat)).toNat) c)))]), (38, .agg ((unpP d (pack d ((List.replicate 256 (0 : Int)).set ((k0 % (2 ^ 8 : Nat)).toNat) c))).map ei).toArray), (39, en (unpE d (pack d ((List.replicate 256 (0 : Int)).set ((k0 % (2 ^ 8 : Nat)).toNat) c)))), (11, .pointer (some ⟨b34, 0, none⟩)), (12, en (unpE d (pack d ((List.replicate 256 (0 : Int)).set ((k0 % (2 ^ 8 : Nat)).toNat) c)))), (41, ei d), (42, u22), (43, .tuple #[.agg ((unpP d (pack d ((List.replicate 256 (0 : Int)).set ((k0 % (2 ^ 8 : Nat)).toNat) c))).map ei).toArray, en (unpE d (pack d ((List.replicate 256 (0 : Int)).set ((k0 % (2 ^ 8 : Nat)).toNat) c)))]), (40, .tuple #[.agg ((unpP d (pack d ((List.replicate 256 (0 : Int)).set ((k0 % (2 ^ 8 : Nat)).toNat) c))).map ei).toArray, en (unpE d (pack d ((List.replicate 256 (0 : Int)).set ((k0 % (2 ^ 8 : Nat)).toNat) c)))]), (44, .agg ((unpP d (pack d ((List.replicate 256 (0 : Int)).set ((k0 % (2 ^ 8 : Nat)).toNat) c))).map ei).toArray), (45, en (unpE d (pack d ((List.replicate 256 (0 : Int)).set ((k0 % (2 ^ 8 : Nat)).toNat) c)))), (13, .pointer (some ⟨b40, 0, none⟩)), (14, en (unpE d (pack d ((List.replicate 256 (0 : Int)).set ((k0 % (2 ^ 8 : Nat)).toNat) c)))), (46, .agg ((unpP d (pack d ((List.replicate 256 (0 : Int)).set ((k0 % (2 ^ 8 : Nat)).toNat) c))).map ei).toArray), (47, .agg ((unpP d (pack d ((List.replicate 256 (0 : Int)).set ((k0 % (2 ^ 8 : Nat)).toNat) c))).map ei).toArray), (48, .bool false), (49, .bool false), (50, en (unpE d (pack d ((List.replicate 256 (0 : Int)).set ((k0 % (2 ^ 8 : Nat)).toNat) c)))), (51, en (unpE d (pack d ((List.replicate 256 (0 : Int)).set ((k0 % (2 ^ 8 : Nat)).toNat) c)))), (52, .bool false), (53, .bool false), (15, en i)] a ∧ Below w0.heap.size w0 w ∧ w.heap[b15]? = some (.cells (((List.replicate 256 (0 : Int)).set ((k0 % (2 ^ 8 : Nat)).toNat) c).map ei).toArray 24 (0, 0)) ∧ w.heap[b34]? = some (.cells ((unpP d (pack d ((List.replicate 256 (0 : Int)).set ((k0 % (2 ^ 8 : Nat)).toNat) c))).map ei).toArray 25 (0, 0)) ∧ w.heap[b40]? = some (.cells ((unpP d (pack d ((List.replicate 256 (0 : Int)).set ((k0 % (2 ^ 8 : Nat)).toNat) c))).map ei).toArray 24 (0, 0)) ∧ Sl w u22 ((pack d ((List.replicate 256 (0 : Int)).set ((k0 % (2 ^ 8 : Nat)).toNat) c)).map e8) ∧ Sl w u29 ((pack d ((List.replicate 256 (0 : Int)).set ((k0 % (2 ^ 8 : Nat)).toNat) c)).map e8)) (fun i => 256 - i) 0 ⟨(by omega), ha.to [0, 1, 2, 16, 7, 17, 18, 19, 20, 8, 9, 21, 22, 23, 24, 25, 26, 10, 27, 28, 29, 30, 31, 32, 33, 35, 36, 37, 34, 38, 39, 11, 12, 41, 42, 43, 40, 44, 45, 13, 14, 46, 47, 48, 49, 50, 51, 52, 53, 15] rfl, hB, hb15, hb34, hb40, hs22, hs29⟩ ?_
  clear ha a hB hb15 hb34 hb40 hs22 hs29
  intro i a w50 ⟨hki, ha, hB, hb15, hb34, hb40, hs22, hs29⟩
  refine wp_seq_k fun K51 hK52 => ?_
  refine wp_seq_k fun K53 hK54 => ?_
  refine region ?_
  refine sv ha (r_move ha rfl) rfl rfl rfl ?_; clear ha a; intro a ha
  refine sv ha (r_lss ha ((i : Nat) : Int) 256 (decide (i < 256)) rfl rfl (decide_eq_decide.2 (by omega))) rfl rfl rfl ?_; clear ha a; intro a ha
  refine hK54 _ _ ?_; clear hK54 K53
  refine cond_if ha rfl (fun hc55 => ?_) (fun hc55 => ?_)
  · skip
    replace hc55 := of_decide_eq_true hc55
    refine wp_skip ?_
    refine hK52 _ _ ?_; clear hK52 K51
    refine wp_seq_k fun K56 hK57 => ?_
    refine wp_block ?_
    refine wp_seq_k fun K58 hK59 => ?_
    refine region ?_
    refine sv ha (r_move ha rfl) rfl rfl rfl ?_; clear ha a; intro a ha
    refine sv ha (r_move ha rfl) rfl rfl rfl ?_; clear ha a; intro a ha
    refine sv ha (r_neq ha ((i : Nat) : Int) (((k0 % (2 ^ 8 : Nat)).toNat : Nat) : Int) (decide (i ≠ (k0 % (2 ^ 8 : Nat)).toNat)) rfl rfl (decide_eq_decide.2 (by omega))) rfl rfl rfl ?_; clear ha a; intro a ha
    refine sv ha (r_move ha rfl) rfl rfl rfl ?_; clear ha a; intro a ha
    cases hq60 : (decide (i ≠ (k0 % (2 ^ 8 : Nat)).toNat))
    all_goals rw [hq60] at ha
    case false =>
      replace hq60 := of_decide_eq_false hq60
      refine sno ha rfl rfl rfl rfl rfl rfl ?_; clear ha a; intro a ha
      refine sno ha rfl rfl rfl rfl rfl rfl ?_; clear ha a; intro a ha
      refine sno ha rfl rfl rfl rfl rfl rfl ?_; clear ha a; intro a ha
      refine sno ha rfl rfl rfl rfl rfl rfl ?_; clear ha a; intro a ha
      refine sv ha (r_pick ha false rfl rfl) rfl rfl rfl ?_; clear ha a; intro a ha
      refine hK59 _ _ ?_; clear hK59 K58
      refine cond_f ha rfl ?_
      refine wp_skip ?_
      refine hK57 _ _ ?_; clear hK57 K56
      refine region ?_
      refine sv ha (r_move ha rfl) rfl rfl rfl ?_; clear ha a; intro a ha
      refine sv ha (rn_add ha i 1 rfl rfl (by omega)) rfl rfl rfl ?_; clear ha a; intro a ha
      refine sv ha (r_assign ha rfl) rfl rfl rfl ?_; clear ha a; intro a ha
      exact ⟨i + 1, by omega, (by omega), ha.to [0, 1, 2, 16, 7, 17, 18, 19, 20, 8, 9, 21, 22, 23, 24, 25, 26, 10, 27, 28, 29, 30, 31, 32, 33, 35, 36, 37, 34, 38, 39, 11, 12, 41, 42, 43, 40, 44, 45, 13, 14, 46, 47, 48, 49, 50, 51, 52, 53, 15] rfl, hB, hb15, hb34, hb40, hs22, hs29⟩
    case true =>
      replace hq60 := of_decide_eq_true hq60
      refine svg ha (r_move ha rfl) rfl rfl rfl rfl rfl ?_; clear ha a; intro a ha
      refine svg ha (r_indexArr (i := i) ha i Tryd.runUnderlying25 Tryd.sizeOf3 rfl rfl (by omega) (by omega)) rfl rfl rfl rfl rfl ?_; clear ha a; intro a ha
      refine svg ha (r_load ha rfl Tryd.isAgg3 (cell_of hb34 (get_map ei (unpP d (pack d ((List.replicate 256 (0 : Int)).set ((k0 % (2 ^ 8 : Nat)).toNat) c))) 0 i (by rw [unpP_len]; omega)))) rfl rfl rfl rfl rfl ?_; clear ha a; intro a ha
      refine svg ha (r_neq ha ((unpP d (pack d ((List.replicate 256 (0 : Int)).set ((k0 % (2 ^ 8 : Nat)).toNat) c))).getD i 0) 0 false rfl rfl (decide_eq_false (fun h => h (bits_zero d _ c i (by omega))))) rfl rfl rfl rfl rfl ?_; clear ha a; intro a ha
      refine sv ha (r_pick ha true rfl rfl) rfl rfl rfl ?_; clear ha a; intro a ha
      refine hK59 _ _ ?_; clear hK59 K58
      refine cond_f ha rfl ?_
      refine wp_skip ?_
      refine hK57 _ _ ?_; clear hK57 K56
      refine region ?_
      refine sv ha (r_move ha rfl) rfl rfl rfl ?_; clear ha a; intro a ha
      refine sv ha (rn_add ha i 1 rfl rfl (by omega)) rfl rfl rfl ?_; clear ha a; intro a ha
      refine sv ha (r_assign ha rfl) rfl rfl rfl ?_; clear ha a; intro a ha
      exact ⟨i + 1, by omega, (by omega), ha.to [0, 1, 2, 16, 7, 17, 18, 19, 20, 8, 9, 21, 22, 23, 24, 25, 26, 10, 27, 28, 29, 30, 31, 32, 33, 35, 36, 37, 34, 38, 39, 11, 12, 41, 42, 43, 40, 44, 45, 13, 14, 46, 47, 48, 49, 50, 51, 52, 53, 15] rfl, hB, hb15, hb34, hb40, hs22, hs29⟩
  · skip
    replace hc55 := of_decide_eq_false hc55
    refine wp_exit ?_
    obtain rfl : i = 256 := by omega
    refine hK47 _ _ ?_; clear hK52 K51 hK47 K46
    refine wp_seq_k fun K61 hK62 => ?_
    refine region ?_
    refine sv ha (r_assign ha rfl) rfl rfl rfl ?_; clear ha a; intro a ha
    refine hK62 _ _ ?_; clear hK62 K61
    refine wp_ret ?_
    repeat (first | (with_reducible refine t_ret ?_) | (with_reducible refine x_ret ?_))
    exact ret1 ha Tryd.results8 rfl ⟨rfl, hB⟩

theorem law_SampleBackN (d : Int) (p : List Int) (b : List UInt8) (w0 : World) (hx : ¬ (1 ≤ d ∧ d ≤ 12)) (hp : p.length = 256) (hbl : b.length = 384) (hG : Glob w0) :
    Calls Tryd.prog 7 #[ei d, .agg ((p).map ei).toArray, .agg ((b).map e8).toArray] w0 fun e w' => e = .returned (.bool true) ∧ Below w0.heap.size w0 w' := by
  refine enter (args := [_, _, _]) Tryd.func7 rfl Tryd.ntmps7 rfl ?_
  intro a ha
  have hB := Below.refl w0.heap.size w0
  refine wp_seq_k fun K1 hK2 => ?_
  refine region ?_
  refine sbox ha rfl rfl ?_
  clear ha a; intro a w3 b4 ha hg hb4 hge4 hlt4
  have hz4 : w0.heap.size ≤ b4 := Nat.le_trans hB.size hge4
  replace hB := keepB0 hg hB
  clear hg hge4 hlt4
  refine sbox ha rfl rfl ?_
  clear ha a; intro a w5 b6 ha hg hb6 hge6 hlt6
  have hz6 : w0.heap.size ≤ b6 := Nat.le_trans hB.size hge6
  have hq4_6 : b4 < b6 := Nat.lt_of_lt_of_le (lt_of_block hb4) hge6
  replace hB := keepB0 hg hB
  replace hb4 := keepO0 hg hb4
  clear hg hge6 hlt6
  refine sv ha (r_assign ha rfl) rfl rfl rfl ?_; clear ha a; intro a ha
  refine hK2 _ _ ?_; clear hK2 K1
  refine wp_seq_k fun K7 hK8 => ?_
  refine region ?_
  refine sc ha (r_call ha [] rfl Tryd.call11) rfl rfl rfl (c_awake12  _ (glob_keep hG hB)) ?_
  clear ha a
  rintro e w9 ⟨rfl, hBc⟩
  have hg := grown_call hBc; clear hBc
  replace hB := keepB0 hg hB
  replace hb4 := keepO0 hg hb4
  replace hb6 := keepO0 hg hb6
  clear hg
  refine ⟨_, rfl, ?_⟩; intro a ha
  refine sv ha (r_assign ha rfl) rfl rfl rfl ?_; clear ha a; intro a ha
  refine hK8 _ _ ?_; clear hK8 K7
  refine wp_seq_k fun K10 hK11 => ?_
  refine wp_seq_k fun K12 hK13 => ?_
  refine region ?_
  refine sv ha (r_move ha rfl) rfl rfl rfl ?_; clear ha a; intro a ha
  refine sv ha (r_not ha true false rfl rfl) rfl rfl rfl ?_; clear ha a; intro a ha
  refine hK13 _ _ ?_; clear hK13 K12
  refine cond_f ha rfl ?_
  refine wp_skip ?_
  refine hK11 _ _ ?_; clear hK11 K10
  refine wp_seq_k fun K14 hK15 => ?_
  refine wp_seq_k fun K16 hK17 => ?_
  refine region ?_
  refine sv ha (r_move ha rfl) rfl rfl rfl ?_; clear ha a; intro a ha
  refine sv ha (r_lss ha d 1 (decide (d < 1)) rfl rfl (decide_eq_decide.2 (by omega))) rfl rfl rfl ?_; clear ha a; intro a ha
  refine sv ha (r_move ha rfl) rfl rfl rfl ?_; clear ha a; intro a ha
  cases hq18 : (decide (d < 1))
  all_goals rw [hq18] at ha
  case false =>
    replace hq18 := of_decide_eq_false hq18
    refine svg ha (r_move ha rfl) rfl rfl rfl rfl rfl ?_; clear ha a; intro a ha
    refine svg ha (r_gtr ha d 12 true rfl rfl (decide_eq_true (by omega))) rfl rfl rfl rfl rfl ?_; clear ha a; intro a ha
    refine sv ha (r_pick ha false rfl rfl) rfl rfl rfl ?_; clear ha a; intro a ha
    refine hK17 _ _ ?_; clear hK17 K16
    refine cond_t ha rfl ?_
    refine wp_seq_k fun K19 hK20 => ?_
    refine region ?_
    refine sv ha (r_move ha rfl) rfl rfl rfl ?_; clear ha a; intro a ha
    refine sv ha (r_loadR ha rfl Tryd.isAgg24 Tryd.sizeOf24 (C := (p).map ei) (by rw [List.length_map, hp]) (cells_all hb4)) rfl rfl rfl ?_; clear ha a; intro a ha
    refine sc ha (r_call ha [ei d, .agg ((p).map ei).toArray] rfl Tryd.call20) rfl rfl rfl (c_pack0 d p _ (by omega) (by rw [hp])) ?_
    clear ha a
    rintro e w21 ⟨u22, rfl, hBc, hs22, hd22⟩
    have hg := grown_call hBc; clear hBc
    have hnb_hs22_b4 : ∀ j, u22.ownBlock = some j → j ≠ b4 := fun j hj => by have h1 := hd22 j hj; have h2 := lt_of_block hb4; omega
    have hnb_hs22_b6 : ∀ j, u22.ownBlock = some j → j ≠ b6 := fun j hj => by have h1 := hd22 j hj; have h2 := lt_of_block hb6; omega
    replace hd22 : ∀ j, u22.ownBlock = some j → w0.heap.size ≤ j := fun j hj => Nat.le_trans hB.size (hd22 j hj)
    replace hB := keepB0 hg hB
    replace hb4 := keepO0 hg hb4
    replace hb6 := keepO0 hg hb6
    clear hg
    refine ⟨_, rfl, ?_⟩; intro a ha
    refine sv ha (r_lenS ha Tryd.runUnderlying22 hs22 rfl (by rw [List.length_map])) rfl rfl rfl ?_; clear ha a; intro a ha
    refine sv ha (r_eql ha ((0 : Nat) : Int) 0 true rfl rfl (decide_eq_true (by omega))) rfl rfl rfl ?_; clear ha a; intro a ha
    refine sv ha (r_assign ha rfl) rfl rfl rfl ?_; clear ha a; intro a ha
    refine hK20 _ _ ?_; clear hK20 K19
    refine wp_ret ?_
    repeat (first | (with_reducible refine t_ret ?_) | (with_reducible refine x_ret ?_))
    exact ret1 ha Tryd.results7 rfl ⟨rfl, hB⟩
  case true =>
    replace hq18 := of_decide_eq_true hq18
    refine sno ha rfl rfl rfl rfl rfl rfl ?_; clear ha a; intro a ha
    refine sno ha rfl rfl rfl rfl rfl rfl ?_; clear ha a; intro a ha
    refine sv ha (r_pick ha true rfl rfl) rfl rfl rfl ?_; clear ha a; intro a ha
    refine hK17 _ _ ?_; clear hK17 K16
    refine cond_t ha rfl ?_
    refine wp_seq_k fun K23 hK24 => ?_
    refine region ?_
    refine sv ha (r_move ha rfl) rfl rfl rfl ?_; clear ha a; intro a ha
    refine sv ha (r_loadR ha rfl Tryd.isAgg24 Tryd.sizeOf24 (C := (p).map ei) (by rw [List.length_map, hp]) (cells_all hb4)) rfl rfl rfl ?_; clear ha a; intro a ha
    refine sc ha (r_call ha [ei d, .agg ((p).map ei).toArray] rfl Tryd.call20) rfl rfl rfl (c_pack0 d p _ (by omega) (by rw [hp])) ?_
    clear ha a
    rintro e w25 ⟨u26, rfl, hBc, hs26, hd26⟩
    have hg := grown_call hBc; clear hBc
    have hnb_hs26_b4 : ∀ j, u26.ownBlock = some j → j ≠ b4 := fun j hj => by have h1 := hd26 j hj; have h2 := lt_of_block hb4; omega
    have hnb_hs26_b6 : ∀ j, u26.ownBlock = some j → j ≠ b6 := fun j hj => by have h1 := hd26 j hj; have h2 := lt_of_block hb6; omega
    replace hd26 : ∀ j, u26.ownBlock = some j → w0.heap.size ≤ j := fun j hj => Nat.le_trans hB.size (hd26 j hj)
    replace hB := keepB0 hg hB
    replace hb4 := keepO0 hg hb4
    replace hb6 := keepO0 hg hb6
    clear hg
    refine ⟨_, rfl, ?_⟩; intro a ha
    refine sv ha (r_lenS ha Tryd.runUnderlying22 hs26 rfl (by rw [List.length_map])) rfl rfl rfl ?_; clear ha a; intro a ha
    refine sv ha (r_eql ha ((0 : Nat) : Int) 0 true rfl rfl (decide_eq_true (by omega))) rfl rfl rfl ?_; clear ha a; intro a ha
    refine sv ha (r_assign ha rfl) rfl rfl rfl ?_; clear ha a; intro a ha
    refine hK24 _ _ ?_; clear hK24 K23
    refine wp_ret ?_
    repeat (first | (with_reducible refine t_ret ?_) | (with_reducible refine x_ret ?_))
    exact ret1 ha Tryd.results7 rfl ⟨rfl, hB⟩

theorem law_SampleBackA (d : Nat) (p : List Int) (b : List UInt8) (w0 : World) (h1 : 1 ≤ d) (h2 : d ≤ 11) (hp : p.length = 256) (hbl : b.length = 384) (hG : Glob w0) :
    Calls Tryd.prog 7 #[en d, .agg ((p).map ei).toArray, .agg ((b).map e8).toArray] w0 fun e w' => e = .returned (.bool true) ∧ Below w0.heap.size w0 w' := by
  refine enter (args := [_, _, _]) Tryd.func7 rfl Tryd.ntmps7 rfl ?_
  intro a ha
  have hB := Below.refl w0.heap.size w0
  have hbt : (b.take (32 * d)).length = 32 * d := by rw [List.length_take, hbl]; omega
  have hpd : 1 ≤ 2 ^ d := Nat.one_le_two_pow
  have hpe : 2 ^ d ≤ 2 ^ 11 := Nat.pow_le_pow_right (by omega) h2
  refine wp_seq_k fun K1 hK2 => ?_
  refine region ?_
  refine sbox ha rfl rfl ?_
  clear ha a; intro a w3 b4 ha hg hb4 hge4 hlt4
  have hz4 : w0.heap.size ≤ b4 := Nat.le_trans hB.size hge4
  replace hB := keepB0 hg hB
  clear hg hge4 hlt4
  refine sbox ha rfl rfl ?_
  clear ha a; intro a w5 b6 ha hg hb6 hge6 hlt6
  have hz6 : w0.heap.size ≤ b6 := Nat.le_trans hB.size hge6
  have hq4_6 : b4 < b6 := Nat.lt_of_lt_of_le (lt_of_block hb4) hge6
  replace hB := keepB0 hg hB
  replace hb4 := keepO0 hg hb4
  clear hg hge6 hlt6
  refine sv ha (r_assign ha rfl) rfl rfl rfl ?_; clear ha a; intro a ha
  refine hK2 _ _ ?_; clear hK2 K1
  refine wp_seq_k fun K7 hK8 => ?_
  refine region ?_
  refine sc ha (r_call ha [] rfl Tryd.call11) rfl rfl rfl (c_awake12  _ (glob_keep hG hB)) ?_
  clear ha a
  rintro e w9 ⟨rfl, hBc⟩
  have hg := grown_call hBc; clear hBc
  replace hB := keepB0 hg hB
  replace hb4 := keepO0 hg hb4
  replace hb6 := keepO0 hg hb6
  clear hg
  refine ⟨_, rfl, ?_⟩; intro a ha
  refine sv ha (r_assign ha rfl) rfl rfl rfl ?_; clear ha a; intro a ha
  refine hK8 _ _ ?_; clear hK8 K7
  refine wp_seq_k fun K10 hK11 => ?_
  refine wp_seq_k fun K12 hK13 => ?_
  refine region ?_
  refine sv ha (r_move ha rfl) rfl rfl rfl ?_; clear ha a; intro a ha
  refine sv ha (r_not ha true false rfl rfl) rfl rfl rfl ?_; clear ha a; intro a ha
  refine hK13 _ _ ?_; clear hK13 K12
  refine cond_f ha rfl ?_
  refine wp_skip ?_
  refine hK11 _ _ ?_; clear hK11 K10
  refine wp_seq_k fun K14 hK15 => ?_
  refine wp_seq_k fun K16 hK17 => ?_
  refine region ?_
  refine sv ha (r_move ha rfl) rfl rfl rfl ?_; clear ha a; intro a ha
  refine sv ha (r_lss ha ((d : Nat) : Int) 1 false rfl rfl (decide_eq_false (by omega))) rfl rfl rfl ?_; clear ha a; intro a ha
  refine sv ha (r_move ha rfl) rfl rfl rfl ?_; clear ha a; intro a ha
  refine svg ha (r_move ha rfl) rfl rfl rfl rfl rfl ?_; clear ha a; intro a ha
  refine svg ha (r_gtr ha ((d : Nat) : Int) 12 false rfl rfl (decide_eq_false (by omega))) rfl rfl rfl rfl rfl ?_; clear ha a; intro a ha
  refine sv ha (r_pick ha false rfl rfl) rfl rfl rfl ?_; clear ha a; intro a ha
  refine hK17 _ _ ?_; clear hK17 K16
  refine cond_f ha rfl ?_
  refine wp_skip ?_
  refine hK15 _ _ ?_; clear hK15 K14
  refine wp_seq_k fun K18 hK19 => ?_
  refine region ?_
  refine sv ha (r_loadR ha rfl Tryd.isAgg24 Tryd.sizeOf24 (C := (p).map ei) (by rw [List.length_map, hp]) (cells_all hb4)) rfl rfl rfl ?_; clear ha a; intro a ha
  refine sc ha (r_call ha [.agg ((p).map ei).toArray] rfl Tryd.call26) rfl rfl rfl (c_rclean p _ (by rw [hp])) ?_
  clear ha a
  rintro e w20 ⟨rfl, hBc⟩
  have hg := grown_call hBc; clear hBc
  replace hB := keepB0 hg hB
  replace hb4 := keepO0 hg hb4
  replace hb6 := keepO0 hg hb6
  clear hg
  refine ⟨_, rfl, ?_⟩; intro a ha
  refine salloc ha zero_24L3 rfl ?_
  clear ha a; intro a w21 b22 ha hg hb22 hge22 hlt22
  have hz22 : w0.heap.size ≤ b22 := Nat.le_trans hB.size hge22
  have hq4_22 : b4 < b22 := Nat.lt_of_lt_of_le (lt_of_block hb4) hge22
  have hq6_22 : b6 < b22 := Nat.lt_of_lt_of_le (lt_of_block hb6) hge22
  replace hB := keepB0 hg hB
  replace hb4 := keepO0 hg hb4
  replace hb6 := keepO0 hg hb6
  clear hg hge22 hlt22
  refine sstoreW ha rfl rfl (one_ei _) Tryd.sizeOf24 (by rw [List.length_map, (cl_red _ (by rw [hp])).len]) hb22 (by rw [List.length_map, List.length_replicate]) ?_
  clear ha a; intro a w23 ha hg hb22'
  clear hb22; have hb22 := hb22'; clear hb22'
  replace hB := keepB1 hg (by omega) hB
  replace hb4 := keepO1 hg (by omega) hb4
  replace hb6 := keepO1 hg (by omega) hb6
  clear hg
  refine hK19 _ _ ?_; clear hK19 K18
  refine wp_seq_k fun K24 hK25 => ?_
  refine wp_seq_k fun K26 hK27 => ?_
  refine region ?_
  refine sv ha (r_assign ha rfl) rfl rfl rfl ?_; clear ha a; intro a ha
  refine hK27 _ _ ?_; clear hK27 K26
  refine wp_block ?_
  refine loopG (fun (i : Nat) a w => (i ≤ 256) ∧ Has 116 [(0, en d), (1, .agg ((p).map ei).toArray), (2, .agg ((b).map e8).toArray), (4, .pointer (some ⟨b4, 0, none⟩)), (5, .pointer (some ⟨b6, 0, none⟩)), (6, .bool false), (17, .bool true), (7, .bool true), (18, .bool true), (19, .bool false), (20, en d), (21, .bool false), (22, .bool false), (23, en d), (24, .bool false), (25, .bool false), (31, .agg ((p).map ei).toArray), (32, .agg ((cl p).map ei).toArray), (8, .pointer (some ⟨b22, 0, none⟩)), (9, en i)] a ∧ Below w0.heap.size w0 w ∧ w.heap[b4]? = some (.cells ((p).map ei).toArray 24 (0, 0)) ∧ w.heap[b6]? = some (.cells ((b).map e8).toArray 43 (0, 0)) ∧ w.heap[b22]? = some (.cells ((wA d p i).map ei).toArray 24 (0, 0))) (fun i => 256 - i) 0 ⟨(by omega), ha.to [0, 1, 2, 4, 5, 6, 17, 7, 18, 19, 20, 21, 22, 23, 24, 25, 31, 32, 8, 9] rfl, hB, hb4, hb6, hb22⟩ ?_
  clear ha a hB hb4 hb6 hb22
  intro i a w28 ⟨hki, ha, hB, hb4, hb6, hb22⟩
  refine wp_seq_k fun K29 hK30 => ?_
  refine wp_seq_k fun K31 hK32 => ?_
  refine region ?_
  refine sv ha (r_move ha rfl) rfl rfl rfl ?_; clear ha a; intro a ha
  refine sv ha (r_lss ha ((i : Nat) : Int) 256 (decide (i < 256)) rfl rfl (decide_eq_decide.2 (by omega))) rfl rfl rfl ?_; clear ha a; intro a ha
  refine hK32 _ _ ?_; clear hK32 K31
  refine cond_if ha rfl (fun hc33 => ?_) (fun hc33 => ?_)
  · skip
    replace hc33 := of_decide_eq_true hc33
    refine wp_skip ?_
    refine hK30 _ _ ?_; clear hK30 K29
    refine wp_seq_k fun K34 hK35 => ?_
    refine wp_block ?_
    refine wp_seq_k fun K36 hK37 => ?_
    refine region ?_
    refine sv ha (r_move ha rfl) rfl rfl rfl ?_; clear ha a; intro a ha
    refine sv ha (r_lss ha ((d : Nat) : Int) 12 true rfl rfl (decide_eq_true (by omega))) rfl rfl rfl ?_; clear ha a; intro a ha
    refine hK37 _ _ ?_; clear hK37 K36
    refine cond_t ha rfl ?_
    refine region ?_
    refine sv ha (r_move ha rfl) rfl rfl rfl ?_; clear ha a; intro a ha
    refine sv ha (r_move ha rfl) rfl rfl rfl ?_; clear ha a; intro a ha
    refine sv ha (r_indexArr (i := i) ha i Tryd.runUnderlying24 Tryd.sizeOf3 rfl rfl (by omega) (by omega)) rfl rfl rfl ?_; clear ha a; intro a ha
    refine sv ha (r_load ha rfl Tryd.isAgg3 (cell_of hb22 (get_map ei (wA d p i) 0 i (by rw [wA_len, hp]; omega)))) rfl rfl rfl ?_; clear ha a; intro a ha
    refine sv ha (r_move ha rfl) rfl rfl rfl ?_; clear ha a; intro a ha
    refine sv ha (r_conv_n_u64 ha d Tryd.runUnderlying3 Tryd.runUnderlying45 rfl (by omega)) rfl rfl rfl ?_; clear ha a; intro a ha
    refine sv ha (rn_shl ha 1 d rfl rfl (by omega) (by omega)) rfl rfl rfl ?_; clear ha a; intro a ha
    refine sv ha (rn_sub ha (1 * 2 ^ d) 1 rfl rfl (by omega) (by omega)) rfl rfl rfl ?_; clear ha a; intro a ha
    refine sv ha (r_mask ha ((wA d p i).getD i 0) d (by omega) (m := (1 * 2 ^ d) - 1) (by omega) rfl rfl) rfl rfl rfl ?_; clear ha a; intro a ha
    refine sv ha (r_indexArr (i := i) ha i Tryd.runUnderlying24 Tryd.sizeOf3 rfl rfl (by omega) (by omega)) rfl rfl rfl ?_; clear ha a; intro a ha
    refine sstore ha (v := ei (((((wA d p i).getD i 0) % (2 ^ d : Nat)).toNat : Nat) : Int)) rfl rfl rfl rfl Tryd.sizeOf3 hb22 (by rw [List.length_map, wA_len, hp]; omega) ?_
    clear ha a; intro a w38 ha hg hb22'
    rw [set_map] at hb22'
    clear hb22; have hb22 := hb22'; clear hb22'
    replace hB := keepB1 hg (by omega) hB
    replace hb4 := keepO1 hg (by omega) hb4
    replace hb6 := keepO1 hg (by omega) hb6
    clear hg
    refine hK35 _ _ ?_; clear hK35 K34
    refine region ?_
    refine sv ha (r_move ha rfl) rfl rfl rfl ?_; clear ha a; intro a ha
    refine sv ha (rn_add ha i 1 rfl rfl (by omega)) rfl rfl rfl ?_; clear ha a; intro a ha
    refine sv ha (r_assign ha rfl) rfl rfl rfl ?_; clear ha a; intro a ha
    exact ⟨i + 1, by omega, (by omega), ha.to [0, 1, 2, 4, 5, 6, 17, 7, 18, 19, 20, 21, 22, 23, 24, 25, 31, 32, 8, 9] rfl, hB, hb4, hb6, hb22⟩
  · skip
    replace hc33 := of_decide_eq_false hc33
    refine wp_exit ?_
    obtain rfl : i = 256 := by omega
    refine hK25 _ _ ?_; clear hK30 K29 hK25 K24
    refine wp_seq_k fun K39 hK40 => ?_
    refine region ?_
    refine sv ha (r_move ha rfl) rfl rfl rfl ?_; clear ha a; intro a ha
    refine sv ha (r_move ha rfl) rfl rfl rfl ?_; clear ha a; intro a ha
    refine sv ha (r_loadR ha rfl Tryd.isAgg24 Tryd.sizeOf24 (C := (p).map ei) (by rw [List.length_map, hp]) (cells_all hb4)) rfl rfl rfl ?_; clear ha a; intro a ha
    refine sc ha (r_call ha [en d, .agg ((p).map ei).toArray] rfl Tryd.call20) rfl rfl rfl (c_pack1 d p _ (by omega) (by rw [hp])) ?_
    clear ha a
    rintro e w41 ⟨u42, rfl, hBc, hs42, hd42⟩
    have hg := grown_call hBc; clear hBc
    have hnb_hs42_b4 : ∀ j, u42.ownBlock = some j → j ≠ b4 := fun j hj => by have h1 := hd42 j hj; have h2 := lt_of_block hb4; omega
    have hnb_hs42_b6 : ∀ j, u42.ownBlock = some j → j ≠ b6 := fun j hj => by have h1 := hd42 j hj; have h2 := lt_of_block hb6; omega
    have hnb_hs42_b22 : ∀ j, u42.ownBlock = some j → j ≠ b22 := fun j hj => by have h1 := hd42 j hj; have h2 := lt_of_block hb22; omega
    replace hd42 : ∀ j, u42.ownBlock = some j → w0.heap.size ≤ j := fun j hj => Nat.le_trans hB.size (hd42 j hj)
    replace hB := keepB0 hg hB
    replace hb4 := keepO0 hg hb4
    replace hb6 := keepO0 hg hb6
    replace hb22 := keepO0 hg hb22
    clear hg
    refine ⟨_, rfl, ?_⟩; intro a ha
    refine sc ha (r_call ha [en d, u42] rfl Tryd.call18) rfl rfl rfl (c_unpack1 d u42 (paA d p 256) _ (by omega) hs42 (paA_len _ _ _)) ?_
    clear ha a
    rintro e w43 ⟨rfl, hBc⟩
    have hg := grown_call hBc; clear hBc
    replace hB := keepB0 hg hB
    replace hb4 := keepO0 hg hb4
    replace hb6 := keepO0 hg hb6
    replace hb22 := keepO0 hg hb22
    replace hs42 := keepS0 hg hs42
    clear hg
    refine ⟨_, rfl, ?_⟩; intro a ha
    refine sv ha (r_move ha rfl) rfl rfl rfl ?_; clear ha a; intro a ha
    refine sv ha (r_extract ha (vs := #[.agg ((unA d (paA d p 256) 256).map ei).toArray, en 0]) rfl rfl) rfl rfl rfl ?_; clear ha a; intro a ha
    refine sv ha (r_extract ha (vs := #[.agg ((unA d (paA d p 256) 256).map ei).toArray, en 0]) rfl rfl) rfl rfl rfl ?_; clear ha a; intro a ha
    refine salloc ha zero_25L3 rfl ?_
    clear ha a; intro a w44 b45 ha hg hb45 hge45 hlt45
    have hz45 : w0.heap.size ≤ b45 := Nat.le_trans hB.size hge45
    have hne_hs42_b45 : ∀ j, Value.ownBlock u42 = some j → j ≠ b45 := fun j hj => by have := hs42.lt j hj; omega
    have hq4_45 : b4 < b45 := Nat.lt_of_lt_of_le (lt_of_block hb4) hge45
    have hq6_45 : b6 < b45 := Nat.lt_of_lt_of_le (lt_of_block hb6) hge45
    have hq22_45 : b22 < b45 := Nat.lt_of_lt_of_le (lt_of_block hb22) hge45
    replace hB := keepB0 hg hB
    replace hb4 := keepO0 hg hb4
    replace hb6 := keepO0 hg hb6
    replace hb22 := keepO0 hg hb22
    replace hs42 := keepS0 hg hs42
    clear hg hge45 hlt45
    refine sstoreW ha rfl rfl (one_ei _) Tryd.sizeOf25 (by rw [List.length_map, unA_len]) hb45 (by rw [List.length_map, List.length_replicate]) ?_
    clear ha a; intro a w46 ha hg hb45'
    clear hb45; have hb45 := hb45'; clear hb45'
    replace hB := keepB1 hg (by omega) hB
    replace hb4 := keepO1 hg (by omega) hb4
    replace hb6 := keepO1 hg (by omega) hb6
    replace hb22 := keepO1 hg (by omega) hb22
    replace hs42 := keepS1 hg (ne_of_ap hne_hs42_b45) hs42
    clear hg
    refine sv ha (r_assign ha rfl) rfl rfl rfl ?_; clear ha a; intro a ha
    refine hK40 _ _ ?_; clear hK40 K39
    refine wp_seq_k fun K47 hK48 => ?_
    refine region ?_
    refine sv ha (r_move ha rfl) rfl rfl rfl ?_; clear ha a; intro a ha
    refine sv ha (r_move ha rfl) rfl rfl rfl ?_; clear ha a; intro a ha
    refine sv ha (rn_mul ha 32 d rfl rfl (by omega)) rfl rfl rfl ?_; clear ha a; intro a ha
    refine sv ha (r_sliceAH (hi := 32 * d) ha Tryd.runUnderlying43 Tryd.sizeOf5 rfl rfl (by omega)) rfl rfl rfl ?_; clear ha a; intro a ha
    refine sc ha (r_call ha [en d, (.slice (some ⟨b6, 0, none⟩) (32 * d) 384)] rfl Tryd.call18) rfl rfl rfl (c_unpack1 d (.slice (some ⟨b6, 0, none⟩) (32 * d) 384) (b.take (32 * d)) _ (by omega) (Sl.ofBlockP (R := []) (l := b) (m := b.take (32 * d)) (by rw [List.append_nil]; exact hb6) (by rw [List.length_take, hbl]; omega) rfl (by omega)) hbt) ?_
    clear ha a
    rintro e w49 ⟨rfl, hBc⟩
    have hg := grown_call hBc; clear hBc
    replace hB := keepB0 hg hB
    replace hb4 := keepO0 hg hb4
    replace hb6 := keepO0 hg hb6
    replace hb22 := keepO0 hg hb22
    replace hb45 := keepO0 hg hb45
    replace hs42 := keepS0 hg hs42
    clear hg
    refine ⟨_, rfl, ?_⟩; intro a ha
    refine sv ha (r_move ha rfl) rfl rfl rfl ?_; clear ha a; intro a ha
    refine sv ha (r_extract ha (vs := #[.agg ((unA d (b.take (32 * d)) 256).map ei).toArray, en 0]) rfl rfl) rfl rfl rfl ?_; clear ha a; intro a ha
    refine sv ha (r_extract ha (vs := #[.agg ((unA d (b.take (32 * d)) 256).map ei).toArray, en 0]) rfl rfl) rfl rfl rfl ?_; clear ha a; intro a ha
    refine salloc ha zero_25L3 rfl ?_
    clear ha a; intro a w50 b51 ha hg hb51 hge51 hlt51
    have hz51 : w0.heap.size ≤ b51 := Nat.le_trans hB.size hge51
    have hne_hs42_b51 : ∀ j, Value.ownBlock u42 = some j → j ≠ b51 := fun j hj => by have := hs42.lt j hj; omega
    have hq4_51 : b4 < b51 := Nat.lt_of_lt_of_le (lt_of_block hb4) hge51
    have hq6_51 : b6 < b51 := Nat.lt_of_lt_of_le (lt_of_block hb6) hge51
    have hq22_51 : b22 < b51 := Nat.lt_of_lt_of_le (lt_of_block hb22) hge51
    have hq45_51 : b45 < b51 := Nat.lt_of_lt_of_le (lt_of_block hb45) hge51
    replace hB := keepB0 hg hB
    replace hb4 := keepO0 hg hb4
    replace hb6 := keepO0 hg hb6
    replace hb22 := keepO0 hg hb22
    replace hb45 := keepO0 hg hb45
    replace hs42 := keepS0 hg hs42
    clear hg hge51 hlt51
    refine sstoreW ha rfl rfl (one_ei _) Tryd.sizeOf25 (by rw [List.length_map, unA_len]) hb51 (by rw [List.length_map, List.length_replicate]) ?_
    clear ha a; intro a w52 ha hg hb51'
    clear hb51; have hb51 := hb51'; clear hb51'
    replace hB := keepB1 hg (by omega) hB
    replace hb4 := keepO1 hg (by omega) hb4
    replace hb6 := keepO1 hg (by omega) hb6
    replace hb22 := keepO1 hg (by omega) hb22
    replace hb45 := keepO1 hg (by omega) hb45
    replace hs42 := keepS1 hg (ne_of_ap hne_hs42_b51) hs42
    clear hg
    refine sv ha (r_assign ha rfl) rfl rfl rfl ?_; clear ha a; intro a ha
    refine hK48 _ _ ?_; clear hK48 K47
    refine wp_seq_k fun K53 hK54 => ?_
    refine region ?_
    refine sv ha (r_move ha rfl) rfl rfl rfl ?_; clear ha a; intro a ha
    refine sv ha (r_loadR ha rfl Tryd.isAgg25 Tryd.sizeOf25 (C := (unA d (b.take (32 * d)) 256).map ei) (by rw [List.length_map, unA_len]) (cells_all hb51)) rfl rfl rfl ?_; clear ha a; intro a ha
    refine sc ha (r_call ha [en d, .agg (((unA d (b.take (32 * d)) 256)).map ei).toArray] rfl Tryd.call20) rfl rfl rfl (c_pack1 d (unA d (b.take (32 * d)) 256) _ (by omega) (by rw [unA_len])) ?_
    clear ha a
    rintro e w55 ⟨u56, rfl, hBc, hs56, hd56⟩
    have hg := grown_call hBc; clear hBc
    have hnb_hs56_b4 : ∀ j, u56.ownBlock = some j → j ≠ b4 := fun j hj => by have h1 := hd56 j hj; have h2 := lt_of_block hb4; omega
    have hnb_hs56_b6 : ∀ j, u56.ownBlock = some j → j ≠ b6 := fun j hj => by have h1 := hd56 j hj; have h2 := lt_of_block hb6; omega
    have hnb_hs56_b22 : ∀ j, u56.ownBlock = some j → j ≠ b22 := fun j hj => by have h1 := hd56 j hj; have h2 := lt_of_block hb22; omega
    have hnb_hs56_b45 : ∀ j, u56.ownBlock = some j → j ≠ b45 := fun j hj => by have h1 := hd56 j hj; have h2 := lt_of_block hb45; omega
    have hnb_hs56_b51 : ∀ j, u56.ownBlock = some j → j ≠ b51 := fun j hj => by have h1 := hd56 j hj; have h2 := lt_of_block hb51; omega
    have hds_hs56_hs42 : ∀ j, u56.ownBlock = some j → u42.ownBlock ≠ some j := fun j h1 h2 => by have h3 := hd56 j h1; have h4 := (fun j hj => hs42.lt j hj) j h2; omega
    replace hd56 : ∀ j, u56.ownBlock = some j → w0.heap.size ≤ j := fun j hj => Nat.le_trans hB.size (hd56 j hj)
    replace hB := keepB0 hg hB
    replace hb4 := keepO0 hg hb4
    replace hb6 := keepO0 hg hb6
    replace hb22 := keepO0 hg hb22
    replace hb45 := keepO0 hg hb45
    replace hb51 := keepO0 hg hb51
    replace hs42 := keepS0 hg hs42
    clear hg
    refine ⟨_, rfl, ?_⟩; intro a ha
    refine sv ha (r_assign ha rfl) rfl rfl rfl ?_; clear ha a; intro a ha
    refine hK54 _ _ ?_; clear hK54 K53
    refine wp_seq_k fun K57 hK58 => ?_
    refine wp_seq_k fun K59 hK60 => ?_
    refine regionD (S := fun w => Below w0.heap.size w0 w ∧ w.heap[b4]? = some (.cells ((p).map ei).toArray 24 (0, 0)) ∧ w.heap[b6]? = some (.cells ((b).map e8).toArray 43 (0, 0)) ∧ w.heap[b22]? = some (.cells ((wA d p 256).map ei).toArray 24 (0, 0)) ∧ w.heap[b45]? = some (.cells ((unA d (paA d p 256) 256).map ei).toArray 25 (0, 0)) ∧ w.heap[b51]? = some (.cells ((unA d (b.take (32 * d)) 256).map ei).toArray 25 (0, 0)) ∧ Sl w u42 ((paA d p 256).map e8) ∧ Sl w u56 ((paA d (unA d (b.take (32 * d)) 256) 256).map e8) ∧ True) [] [0, 1, 2, 3, 4, 5, 6, 7, 8, 9, 10, 11, 12, 13, 14, 15, 16, 17, 18, 19, 20, 21, 22, 23] [0, 1, 2, 3, 4, 5, 6, 7, 8, 9, 10, 11, 12, 13, 14, 15, 16, 17, 18, 19, 20, 21, 22, 23] mixed (by kernel_rfl) (fun w hg => ⟨keepB0 hg hB, keepO0 hg hb4, keepO0 hg hb6, keepO0 hg hb22, keepO0 hg hb45, keepO0 hg hb51, keepS0 hg hs42, keepS0 hg hs56, trivial⟩) ?_
    intro w61 hg
    replace hB := keepB0 hg hB
    replace hb4 := keepO0 hg hb4
    replace hb6 := keepO0 hg hb6
    replace hb22 := keepO0 hg hb22
    replace hb45 := keepO0 hg hb45
    replace hb51 := keepO0 hg hb51
    replace hs42 := keepS0 hg hs42
    replace hs56 := keepS0 hg hs56
    clear hg
    refine cv ha rfl rfl (fun w _ => r_move ha rfl) rfl rfl rfl ?_; clear ha a; intro a ha
    refine cv ha rfl rfl (fun w _ => r_neq ha ((0 : Nat) : Int) 0 false rfl rfl (decide_eq_false (by omega))) rfl rfl rfl ?_; clear ha a; intro a ha
    refine cv ha rfl rfl (fun w _ => r_move ha rfl) rfl rfl rfl ?_; clear ha a; intro a ha
    refine cvg ha rfl rfl (fun w _ => r_move ha rfl) rfl rfl rfl rfl rfl ?_; clear ha a; intro a ha
    refine cvg ha rfl rfl (fun w _ => r_neq ha ((0 : Nat) : Int) 0 false rfl rfl (decide_eq_false (by omega))) rfl rfl rfl rfl rfl ?_; clear ha a; intro a ha
    refine cv ha rfl rfl (fun w _ => r_pick ha false rfl rfl) rfl rfl rfl ?_; clear ha a; intro a ha
    refine cv ha rfl rfl (fun w _ => r_move ha rfl) rfl rfl rfl ?_; clear ha a; intro a ha
    refine cvg ha rfl rfl (fun w ⟨hB, hb4, hb6, hb22, hb45, hb51, hs42, hs56, _⟩ => r_loadR ha rfl Tryd.isAgg25 Tryd.sizeOf25 (C := (unA d (paA d p 256) 256).map ei) (by rw [List.length_map, unA_len]) (cells_all hb45)) rfl rfl rfl rfl rfl ?_; clear ha a; intro a ha
    refine cvg ha rfl rfl (fun w ⟨hB, hb4, hb6, hb22, hb45, hb51, hs42, hs56, _⟩ => r_loadR ha rfl Tryd.isAgg24 Tryd.sizeOf24 (C := (wA d p 256).map ei) (by rw [List.length_map, wA_len, hp]) (cells_all hb22)) rfl rfl rfl rfl rfl ?_; clear ha a; intro a ha
    refine cvg ha rfl rfl (fun w _ => r_neA (f := (fun z : Int => z)) (fun x y h => h) (unA d (paA d p 256) 256) (wA d p 256) ha rfl rfl (by rw [unA_len]) (by rw [wA_len, hp]) Tryd.eqGuardType25 Tryd.runUnderlying25 Tryd.sizeOf3 Tryd.underlying3 Tryd.isAgg3 false (decide_eq_false (fun h => h (back_x d h1 p hp)))) rfl rfl rfl rfl rfl ?_; clear ha a; intro a ha
    refine cv ha rfl rfl (fun w _ => r_pick ha false rfl rfl) rfl rfl rfl ?_; clear ha a; intro a ha
    refine cv ha rfl rfl (fun w _ => r_move ha rfl) rfl rfl rfl ?_; clear ha a; intro a ha
    refine cvg ha rfl rfl (fun w _ => r_move ha rfl) rfl rfl rfl rfl rfl ?_; clear ha a; intro a ha
    refine cvg ha rfl rfl (fun w _ => r_lss ha ((d : Nat) : Int) 12 true rfl rfl (decide_eq_true (by omega))) rfl rfl rfl rfl rfl ?_; clear ha a; intro a ha
    refine cvg ha rfl rfl (fun w _ => r_move ha rfl) rfl rfl rfl rfl rfl ?_; clear ha a; intro a ha
    refine cvg ha rfl rfl (fun w _ => r_move ha rfl) rfl rfl rfl rfl rfl ?_; clear ha a; intro a ha
    refine cvg ha rfl rfl (fun w ⟨hB, hb4, hb6, hb22, hb45, hb51, hs42, hs56, _⟩ => r_str (l := paA d (unA d (b.take (32 * d)) 256) 256) ha Tryd.underlying22 Tryd.underlying5 Tryd.underlying9 rfl hs56) rfl rfl rfl rfl rfl ?_; clear ha a; intro a ha
    refine cvg ha rfl rfl (fun w _ => r_move ha rfl) rfl rfl rfl rfl rfl ?_; clear ha a; intro a ha
    refine cvg ha rfl rfl (fun w _ => rn_mul ha 32 d rfl rfl (by omega)) rfl rfl rfl rfl rfl ?_; clear ha a; intro a ha
    refine cvg ha rfl rfl (fun w _ => r_sliceAH (hi := 32 * d) ha Tryd.runUnderlying43 Tryd.sizeOf5 rfl rfl (by omega)) rfl rfl rfl rfl rfl ?_; clear ha a; intro a ha
    refine cvg ha rfl rfl (fun w ⟨hB, hb4, hb6, hb22, hb45, hb51, hs42, hs56, _⟩ => r_str (l := b.take (32 * d)) ha Tryd.underlying22 Tryd.underlying5 Tryd.underlying9 rfl (Sl.ofBlockP (R := []) (l := b) (m := b.take (32 * d)) (by rw [List.append_nil]; exact hb6) (by rw [List.length_take, hbl]; omega) rfl (by omega))) rfl rfl rfl rfl rfl ?_; clear ha a; intro a ha
    refine cvg ha rfl rfl (fun w _ => r_neqS ha (paA d (unA d (b.take (32 * d)) 256) 256) (b.take (32 * d)) false rfl rfl (decide_eq_false (fun h => h (pa_un d h1 h2 _ hbt)))) rfl rfl rfl rfl rfl ?_; clear ha a; intro a ha
    refine cvg ha rfl rfl (fun w _ => r_pick ha true rfl rfl) rfl rfl rfl rfl rfl ?_; clear ha a; intro a ha
    refine cv ha rfl rfl (fun w _ => r_pick ha false rfl rfl) rfl rfl rfl ?_; clear ha a; intro a ha
    refine cfin (hK60 _ _ ?_); clear hK60 K59
    refine cond_f ha rfl ?_
    refine wp_skip ?_
    refine hK58 _ _ ?_; clear hK58 K57
    refine wp_seq_k fun K62 hK63 => ?_
    refine region ?_
    refine sv ha (r_move ha rfl) rfl rfl rfl ?_; clear ha a; intro a ha
    refine sv ha (r_move ha rfl) rfl rfl rfl ?_; clear ha a; intro a ha
    refine sc ha (r_call ha [en d, u56] rfl Tryd.call18) rfl rfl rfl (c_unpack1 d u56 (paA d (unA d (b.take (32 * d)) 256) 256) _ (by omega) hs56 (paA_len _ _ _)) ?_
    clear ha a
    rintro e w64 ⟨rfl, hBc⟩
    have hg := grown_call hBc; clear hBc
    replace hB := keepB0 hg hB
    replace hb4 := keepO0 hg hb4
    replace hb6 := keepO0 hg hb6
    replace hb22 := keepO0 hg hb22
    replace hb45 := keepO0 hg hb45
    replace hb51 := keepO0 hg hb51
    replace hs42 := keepS0 hg hs42
    replace hs56 := keepS0 hg hs56
    clear hg
    refine ⟨_, rfl, ?_⟩; intro a ha
    refine sv ha (r_move ha rfl) rfl rfl rfl ?_; clear ha a; intro a ha
    refine sv ha (r_extract ha (vs := #[.agg ((unA d (paA d (unA d (b.take (32 * d)) 256) 256) 256).map ei).toArray, en 0]) rfl rfl) rfl rfl rfl ?_; clear ha a; intro a ha
    refine sv ha (r_extract ha (vs := #[.agg ((unA d (paA d (unA d (b.take (32 * d)) 256) 256) 256).map ei).toArray, en 0]) rfl rfl) rfl rfl rfl ?_; clear ha a; intro a ha
    refine salloc ha zero_25L3 rfl ?_
    clear ha a; intro a w65 b66 ha hg hb66 hge66 hlt66
    have hz66 : w0.heap.size ≤ b66 := Nat.le_trans hB.size hge66
    have hne_hs42_b66 : ∀ j, Value.ownBlock u42 = some j → j ≠ b66 := fun j hj => by have := hs42.lt j hj; omega
    have hne_hs56_b66 : ∀ j, Value.ownBlock u56 = some j → j ≠ b66 := fun j hj => by have := hs56.lt j hj; omega
    have hq4_66 : b4 < b66 := Nat.lt_of_lt_of_le (lt_of_block hb4) hge66
    have hq6_66 : b6 < b66 := Nat.lt_of_lt_of_le (lt_of_block hb6) hge66
    have hq22_66 : b22 < b66 := Nat.lt_of_lt_of_le (lt_of_block hb22) hge66
    have hq45_66 : b45 < b66 := Nat.lt_of_lt_of_le (lt_of_block hb45) hge66
    have hq51_66 : b51 < b66 := Nat.lt_of_lt_of_le (lt_of_block hb51) hge66
    replace hB := keepB0 hg hB
    replace hb4 := keepO0 hg hb4
    replace hb6 := keepO0 hg hb6
    replace hb22 := keepO0 hg hb22
    replace hb45 := keepO0 hg hb45
    replace hb51 := keepO0 hg hb51
    replace hs42 := keepS0 hg hs42
    replace hs56 := keepS0 hg hs56
    clear hg hge66 hlt66
    refine sstoreW ha rfl rfl (one_ei _) Tryd.sizeOf25 (by rw [List.length_map, unA_len]) hb66 (by rw [List.length_map, List.length_replicate]) ?_
    clear ha a; intro a w67 ha hg hb66'
    clear hb66; have hb66 := hb66'; clear hb66'
    replace hB := keepB1 hg (by omega) hB
    replace hb4 := keepO1 hg (by omega) hb4
    replace hb6 := keepO1 hg (by omega) hb6
    replace hb22 := keepO1 hg (by omega) hb22
    replace hb45 := keepO1 hg (by omega) hb45
    replace hb51 := keepO1 hg (by omega) hb51
    replace hs42 := keepS1 hg (ne_of_ap hne_hs42_b66) hs42
    replace hs56 := keepS1 hg (ne_of_ap hne_hs56_b66) hs56
    clear hg
    refine sv ha (r_assign ha rfl) rfl rfl rfl ?_; clear ha a; intro a ha
    refine hK63 _ _ ?_; clear hK63 K62
    refine wp_seq_k fun K68 hK69 => ?_
    refine wp_seq_k fun K70 hK71 => ?_
    refine region ?_
    refine sv ha (r_move ha rfl) rfl rfl rfl ?_; clear ha a; intro a ha
    refine sv ha (r_neq ha ((0 : Nat) : Int) 0 false rfl rfl (decide_eq_false (by omega))) rfl rfl rfl ?_; clear ha a; intro a ha
    refine sv ha (r_move ha rfl) rfl rfl rfl ?_; clear ha a; intro a ha
    refine svg ha (r_loadR ha rfl Tryd.isAgg25 Tryd.sizeOf25 (C := (unA d (paA d (unA d (b.take (32 * d)) 256) 256) 256).map ei) (by rw [List.length_map, unA_len]) (cells_all hb66)) rfl rfl rfl rfl rfl ?_; clear ha a; intro a ha
    refine svg ha (r_loadR ha rfl Tryd.isAgg25 Tryd.sizeOf25 (C := (unA d (b.take (32 * d)) 256).map ei) (by rw [List.length_map, unA_len]) (cells_all hb51)) rfl rfl rfl rfl rfl ?_; clear ha a; intro a ha
    refine svg ha (r_neA (f := (fun z : Int => z)) (fun x y h => h) (unA d (paA d (unA d (b.take (32 * d)) 256) 256) 256) (unA d (b.take (32 * d)) 256) ha rfl rfl (by rw [unA_len]) (by rw [unA_len]) Tryd.eqGuardType25 Tryd.runUnderlying25 Tryd.sizeOf3 Tryd.underlying3 Tryd.isAgg3 false (decide_eq_false (fun h => h (un_pa_un d h1 _)))) rfl rfl rfl rfl rfl ?_; clear ha a; intro a ha
    refine sv ha (r_pick ha false rfl rfl) rfl rfl rfl ?_; clear ha a; intro a ha
    refine hK71 _ _ ?_; clear hK71 K70
    refine cond_f ha rfl ?_
    refine wp_skip ?_
    refine hK69 _ _ ?_; clear hK69 K68
    refine wp_seq_k fun K72 hK73 => ?_
    refine regionD (S := fun w => Below w0.heap.size w0 w ∧ w.heap[b4]? = some (.cells ((p).map ei).toArray 24 (0, 0)) ∧ w.heap[b6]? = some (.cells ((b).map e8).toArray 43 (0, 0)) ∧ w.heap[b22]? = some (.cells ((wA d p 256).map ei).toArray 24 (0, 0)) ∧ w.heap[b45]? = some (.cells ((unA d (paA d p 256) 256).map ei).toArray 25 (0, 0)) ∧ w.heap[b51]? = some (.cells ((unA d (b.take (32 * d)) 256).map ei).toArray 25 (0, 0)) ∧ w.heap[b66]? = some (.cells ((unA d (paA d (unA d (b.take (32 * d)) 256) 256) 256).map ei).toArray 25 (0, 0)) ∧ Sl w u42 ((paA d p 256).map e8) ∧ Sl w u56 ((paA d (unA d (b.take (32 * d)) 256) 256).map e8) ∧ True) [] [0, 1, 2, 3, 4, 5, 8, 9, 10, 11] [0, 1, 2, 3, 4, 5, 8, 6, 7, 9, 10, 11] mixed (by kernel_rfl) (fun w hg => ⟨keepB0 hg hB, keepO0 hg hb4, keepO0 hg hb6, keepO0 hg hb22, keepO0 hg hb45, keepO0 hg hb51, keepO0 hg hb66, keepS0 hg hs42, keepS0 hg hs56, trivial⟩) ?_
    intro w74 hg
    replace hB := keepB0 hg hB
    replace hb4 := keepO0 hg hb4
    replace hb6 := keepO0 hg hb6
    replace hb22 := keepO0 hg hb22
    replace hb45 := keepO0 hg hb45
    replace hb51 := keepO0 hg hb51
    replace hb66 := keepO0 hg hb66
    replace hs42 := keepS0 hg hs42
    replace hs56 := keepS0 hg hs56
    clear hg
    refine cv ha rfl rfl (fun w _ => r_move ha rfl) rfl rfl rfl ?_; clear ha a; intro a ha
    refine cv ha rfl rfl (fun w _ => r_eql ha ((d : Nat) : Int) 12 false rfl rfl (decide_eq_false (by omega))) rfl rfl rfl ?_; clear ha a; intro a ha
    refine cv ha rfl rfl (fun w _ => r_move ha rfl) rfl rfl rfl ?_; clear ha a; intro a ha
    refine cvg ha rfl rfl (fun w _ => r_move ha rfl) rfl rfl rfl rfl rfl ?_; clear ha a; intro a ha
    refine cvg ha rfl rfl (fun w _ => r_move ha rfl) rfl rfl rfl rfl rfl ?_; clear ha a; intro a ha
    refine cvg ha rfl rfl (fun w ⟨hB, hb4, hb6, hb22, hb45, hb51, hb66, hs42, hs56, _⟩ => r_loadR ha rfl Tryd.isAgg24 Tryd.sizeOf24 (C := (wA d p 256).map ei) (by rw [List.length_map, wA_len, hp]) (cells_all hb22)) rfl rfl rfl rfl rfl ?_; clear ha a; intro a ha
    refine cvg ha rfl rfl (fun w ⟨hB, hb4, hb6, hb22, hb45, hb51, hb66, hs42, hs56, _⟩ => r_loadR ha rfl Tryd.isAgg24 Tryd.sizeOf24 (C := (wA d p 256).map ei) (by rw [List.length_map, wA_len, hp]) (cells_all hb22)) rfl rfl rfl rfl rfl ?_; clear ha a; intro a ha
    refine ccg ha rfl rfl (r_call ha [ei ((d : Nat) : Int), .agg (((wA d p 256)).map ei).toArray] rfl Tryd.call24) rfl rfl rfl rfl rfl (c_spread ((d : Nat) : Int) (wA d p 256) _ (by rw [wA_len, hp])) ?_
    clear ha a
    rintro e w75 ⟨rfl, hBc⟩
    have hg := grown_call hBc; clear hBc
    replace hB := keepB0 hg hB
    replace hb4 := keepO0 hg hb4
    replace hb6 := keepO0 hg hb6
    replace hb22 := keepO0 hg hb22
    replace hb45 := keepO0 hg hb45
    replace hb51 := keepO0 hg hb51
    replace hb66 := keepO0 hg hb66
    replace hs42 := keepS0 hg hs42
    replace hs56 := keepS0 hg hs56
    clear hg
    refine ⟨fun _ => ⟨hB, hb4, hb6, hb22, hb45, hb51, hb66, hs42, hs56, trivial⟩, _, rfl, ?_⟩; intro a ha
    refine ccg ha rfl rfl (r_call ha [ei ((d : Nat) : Int), .agg (((spA ((d : Nat) : Int) (wA d p 256) 256)).map ei).toArray] rfl Tryd.call22) rfl rfl rfl rfl rfl (c_squeeze ((d : Nat) : Int) (spA ((d : Nat) : Int) (wA d p 256) 256) _ (by rw [spA_len, wA_len, hp])) ?_
    clear ha a
    rintro e w76 ⟨rfl, hBc⟩
    have hg := grown_call hBc; clear hBc
    replace hB := keepB0 hg hB
    replace hb4 := keepO0 hg hb4
    replace hb6 := keepO0 hg hb6
    replace hb22 := keepO0 hg hb22
    replace hb45 := keepO0 hg hb45
    replace hb51 := keepO0 hg hb51
    replace hb66 := keepO0 hg hb66
    replace hs42 := keepS0 hg hs42
    replace hs56 := keepS0 hg hs56
    clear hg
    refine ⟨fun _ => ⟨hB, hb4, hb6, hb22, hb45, hb51, hb66, hs42, hs56, trivial⟩, _, rfl, ?_⟩; intro a ha
    refine cvg ha rfl rfl (fun w _ => r_eqA (f := (fun z : Int => z)) (fun x y h => h) (sqA ((d : Nat) : Int) (spA ((d : Nat) : Int) (wA d p 256) 256) 256) (wA d p 256) ha rfl rfl (by rw [sqA_len, spA_len, wA_len, hp]) (by rw [wA_len, hp]) Tryd.eqGuardType25 Tryd.runUnderlying25 Tryd.sizeOf3 Tryd.underlying3 Tryd.isAgg3 true (decide_eq_true (back_s d h1 h2 p hp))) rfl rfl rfl rfl rfl ?_; clear ha a; intro a ha
    refine cv ha rfl rfl (fun w _ => r_pick ha false rfl rfl) rfl rfl rfl ?_; clear ha a; intro a ha
    refine cv ha rfl rfl (fun w _ => r_assign ha rfl) rfl rfl rfl ?_; clear ha a; intro a ha
    refine cfin (hK73 _ _ ?_); clear hK73 K72
    refine wp_ret ?_
    repeat (first | (with_reducible refine t_ret ?_) | (with_reducible refine x_ret ?_))
    exact ret1 ha Tryd.results7 rfl ⟨rfl, hB⟩

theorem law_SampleBackB (p : List Int) (b : List UInt8) (w0 : World) (hp : p.length = 256) (hbl : b.length = 384) (hG : Glob w0) :
    Calls Tryd.prog 7 #[en 12, .agg ((p).map ei).toArray, .agg ((b).map e8).toArray] w0 fun e w' => e = .returned (.bool true) ∧ Below w0.heap.size w0 w' := by
  refine enter (args := [_, _, _]) Tryd.func7 rfl Tryd.ntmps7 rfl ?_
  intro a ha
  have hB := Below.refl w0.heap.size w0
  have hbt : (b.take (32 * 12)).length = 32 * 12 := by rw [List.length_take, hbl]; rfl
  refine wp_seq_k fun K1 hK2 => ?_
  refine region ?_
  refine sbox ha rfl rfl ?_
  clear ha a; intro a w3 b4 ha hg hb4 hge4 hlt4
  have hz4 : w0.heap.size ≤ b4 := Nat.le_trans hB.size hge4
  replace hB := keepB0 hg hB
  clear hg hge4 hlt4
  refine sbox ha rfl rfl ?_
  clear ha a; intro a w5 b6 ha hg hb6 hge6 hlt6
  have hz6 : w0.heap.size ≤ b6 := Nat.le_trans hB.size hge6
  have hq4_6 : b4 < b6 := Nat.lt_of_lt_of_le (lt_of_block hb4) hge6
  replace hB := keepB0 hg hB
  replace hb4 := keepO0 hg hb4
  clear hg hge6 hlt6
  refine sv ha (r_assign ha rfl) rfl rfl rfl ?_; clear ha a; intro a ha
  refine hK2 _ _ ?_; clear hK2 K1
  refine wp_seq_k fun K7 hK8 => ?_
  refine region ?_
  refine sc ha (r_call ha [] rfl Tryd.call11) rfl rfl rfl (c_awake12  _ (glob_keep hG hB)) ?_
  clear ha a
  rintro e w9 ⟨rfl, hBc⟩
  have hg := grown_call hBc; clear hBc
  replace hB := keepB0 hg hB
  replace hb4 := keepO0 hg hb4
  replace hb6 := keepO0 hg hb6
  clear hg
  refine ⟨_, rfl, ?_⟩; intro a ha
  refine sv ha (r_assign ha rfl) rfl rfl rfl ?_; clear ha a; intro a ha
  refine hK8 _ _ ?_; clear hK8 K7
  refine wp_seq_k fun K10 hK11 => ?_
  refine wp_seq_k fun K12 hK13 => ?_
  refine region ?_
  refine sv ha (r_move ha rfl) rfl rfl rfl ?_; clear ha a; intro a ha
  refine sv ha (r_not ha true false rfl rfl) rfl rfl rfl ?_; clear ha a; intro a ha
  refine hK13 _ _ ?_; clear hK13 K12
  refine cond_f ha rfl ?_
  refine wp_skip ?_
  refine hK11 _ _ ?_; clear hK11 K10
  refine wp_seq_k fun K14 hK15 => ?_
  refine wp_seq_k fun K16 hK17 => ?_
  refine region ?_
  refine sv ha (r_move ha rfl) rfl rfl rfl ?_; clear ha a; intro a ha
  refine sv ha (r_lss ha ((12 : Nat) : Int) 1 false rfl rfl (decide_eq_false (by omega))) rfl rfl rfl ?_; clear ha a; intro a ha
  refine sv ha (r_move ha rfl) rfl rfl rfl ?_; clear ha a; intro a ha
  refine svg ha (r_move ha rfl) rfl rfl rfl rfl rfl ?_; clear ha a; intro a ha
  refine svg ha (r_gtr ha ((12 : Nat) : Int) 12 false rfl rfl (decide_eq_false (by omega))) rfl rfl rfl rfl rfl ?_; clear ha a; intro a ha
  refine sv ha (r_pick ha false rfl rfl) rfl rfl rfl ?_; clear ha a; intro a ha
  refine hK17 _ _ ?_; clear hK17 K16
  refine cond_f ha rfl ?_
  refine wp_skip ?_
  refine hK15 _ _ ?_; clear hK15 K14
  refine wp_seq_k fun K18 hK19 => ?_
  refine region ?_
  refine sv ha (r_loadR ha rfl Tryd.isAgg24 Tryd.sizeOf24 (C := (p).map ei) (by rw [List.length_map, hp]) (cells_all hb4)) rfl rfl rfl ?_; clear ha a; intro a ha
  refine sc ha (r_call ha [.agg ((p).map ei).toArray] rfl Tryd.call26) rfl rfl rfl (c_rclean p _ (by rw [hp])) ?_
  clear ha a
  rintro e w20 ⟨rfl, hBc⟩
  have hg := grown_call hBc; clear hBc
  replace hB := keepB0 hg hB
  replace hb4 := keepO0 hg hb4
  replace hb6 := keepO0 hg hb6
  clear hg
  refine ⟨_, rfl, ?_⟩; intro a ha
  refine salloc ha zero_24L3 rfl ?_
  clear ha a; intro a w21 b22 ha hg hb22 hge22 hlt22
  have hz22 : w0.heap.size ≤ b22 := Nat.le_trans hB.size hge22
  have hq4_22 : b4 < b22 := Nat.lt_of_lt_of_le (lt_of_block hb4) hge22
  have hq6_22 : b6 < b22 := Nat.lt_of_lt_of_le (lt_of_block hb6) hge22
  replace hB := keepB0 hg hB
  replace hb4 := keepO0 hg hb4
  replace hb6 := keepO0 hg hb6
  clear hg hge22 hlt22
  refine sstoreW ha rfl rfl (one_ei _) Tryd.sizeOf24 (by rw [List.length_map, (cl_red _ (by rw [hp])).len]) hb22 (by rw [List.length_map, List.length_replicate]) ?_
  clear ha a; intro a w23 ha hg hb22'
  clear hb22; have hb22 := hb22'; clear hb22'
  replace hB := keepB1 hg (by omega) hB
  replace hb4 := keepO1 hg (by omega) hb4
  replace hb6 := keepO1 hg (by omega) hb6
  clear hg
  refine hK19 _ _ ?_; clear hK19 K18
  refine wp_seq_k fun K24 hK25 => ?_
  refine wp_seq_k fun K26 hK27 => ?_
  refine region ?_
  refine sv ha (r_assign ha rfl) rfl rfl rfl ?_; clear ha a; intro a ha
  refine hK27 _ _ ?_; clear hK27 K26
  refine wp_block ?_
  refine loopG (fun (i : Nat) a w => (i ≤ 256) ∧ Has 116 [(0, en 12), (1, .agg ((p).map ei).toArray), (2, .agg ((b).map e8).toArray), (4, .pointer (some ⟨b4, 0, none⟩)), (5, .pointer (some ⟨b6, 0, none⟩)), (6, .bool false), (17, .bool true), (7, .bool true), (18, .bool true), (19, .bool false), (20, en 12), (21, .bool false), (22, .bool false), (23, en 12), (24, .bool false), (25, .bool false), (31, .agg ((p).map ei).toArray), (32, .agg ((cl p).map ei).toArray), (8, .pointer (some ⟨b22, 0, none⟩)), (9, en i)] a ∧ Below w0.heap.size w0 w ∧ w.heap[b4]? = some (.cells ((p).map ei).toArray 24 (0, 0)) ∧ w.heap[b6]? = some (.cells ((b).map e8).toArray 43 (0, 0)) ∧ w.heap[b22]? = some (.cells ((cl p).map ei).toArray 24 (0, 0))) (fun i => 256 - i) 0 ⟨(by omega), ha.to [0, 1, 2, 4, 5, 6, 17, 7, 18, 19, 20, 21, 22, 23, 24, 25, 31, 32, 8, 9] rfl, hB, hb4, hb6, hb22⟩ ?_
  clear ha a hB hb4 hb6 hb22
  intro i a w28 ⟨hki, ha, hB, hb4, hb6, hb22⟩
  refine wp_seq_k fun K29 hK30 => ?_
  refine wp_seq_k fun K31 hK32 => ?_
  refine region ?_
  refine sv ha (r_move ha rfl) rfl rfl rfl ?_; clear ha a; intro a ha
  refine sv ha (r_lss ha ((i : Nat) : Int) 256 (decide (i < 256)) rfl rfl (decide_eq_decide.2 (by omega))) rfl rfl rfl ?_; clear ha a; intro a ha
  refine hK32 _ _ ?_; clear hK32 K31
  refine cond_if ha rfl (fun hc33 => ?_) (fun hc33 => ?_)
  · skip
    replace hc33 := of_decide_eq_true hc33
    refine wp_skip ?_
    refine hK30 _ _ ?_; clear hK30 K29
    refine wp_seq_k fun K34 hK35 => ?_
    refine wp_block ?_
    refine wp_seq_k fun K36 hK37 => ?_
    refine region ?_
    refine sv ha (r_move ha rfl) rfl rfl rfl ?_; clear ha a; intro a ha
    refine sv ha (r_lss ha ((12 : Nat) : Int) 12 false rfl rfl (decide_eq_false (by omega))) rfl rfl rfl ?_; clear ha a; intro a ha
    refine hK37 _ _ ?_; clear hK37 K36
    refine cond_f ha rfl ?_
    refine wp_skip ?_
    refine hK35 _ _ ?_; clear hK35 K34
    refine region ?_
    refine sv ha (r_move ha rfl) rfl rfl rfl ?_; clear ha a; intro a ha
    refine sv ha (rn_add ha i 1 rfl rfl (by omega)) rfl rfl rfl ?_; clear ha a; intro a ha
    refine sv ha (r_assign ha rfl) rfl rfl rfl ?_; clear ha a; intro a ha
    exact ⟨i + 1, by omega, (by omega), ha.to [0, 1, 2, 4, 5, 6, 17, 7, 18, 19, 20, 21, 22, 23, 24, 25, 31, 32, 8, 9] rfl, hB, hb4, hb6, hb22⟩
  · skip
    replace hc33 := of_decide_eq_false hc33
    refine wp_exit ?_
    obtain rfl : i = 256 := by omega
    refine hK25 _ _ ?_; clear hK30 K29 hK25 K24
    refine wp_seq_k fun K38 hK39 => ?_
    refine region ?_
    refine sv ha (r_move ha rfl) rfl rfl rfl ?_; clear ha a; intro a ha
    refine sv ha (r_move ha rfl) rfl rfl rfl ?_; clear ha a; intro a ha
    refine sv ha (r_loadR ha rfl Tryd.isAgg24 Tryd.sizeOf24 (C := (p).map ei) (by rw [List.length_map, hp]) (cells_all hb4)) rfl rfl rfl ?_; clear ha a; intro a ha
    refine sc ha (r_call ha [en 12, .agg ((p).map ei).toArray] rfl Tryd.call20) rfl rfl rfl (c_pack1 12 p _ (by omega) (by rw [hp])) ?_
    clear ha a
    rintro e w40 ⟨u41, rfl, hBc, hs41, hd41⟩
    have hg := grown_call hBc; clear hBc
    have hnb_hs41_b4 : ∀ j, u41.ownBlock = some j → j ≠ b4 := fun j hj => by have h1 := hd41 j hj; have h2 := lt_of_block hb4; omega
    have hnb_hs41_b6 : ∀ j, u41.ownBlock = some j → j ≠ b6 := fun j hj => by have h1 := hd41 j hj; have h2 := lt_of_block hb6; omega
    have hnb_hs41_b22 : ∀ j, u41.ownBlock = some j → j ≠ b22 := fun j hj => by have h1 := hd41 j hj; have h2 := lt_of_block hb22; omega
    replace hd41 : ∀ j, u41.ownBlock = some j → w0.heap.size ≤ j := fun j hj => Nat.le_trans hB.size (hd41 j hj)
    replace hB := keepB0 hg hB
    replace hb4 := keepO0 hg hb4
    replace hb6 := keepO0 hg hb6
    replace hb22 := keepO0 hg hb22
    clear hg
    refine ⟨_, rfl, ?_⟩; intro a ha
    refine sc ha (r_call ha [en 12, u41] rfl Tryd.call18) rfl rfl rfl (c_unpack1 12 u41 (paA 12 p 256) _ (by omega) hs41 (paA_len _ _ _)) ?_
    clear ha a
    rintro e w42 ⟨rfl, hBc⟩
    have hg := grown_call hBc; clear hBc
    replace hB := keepB0 hg hB
    replace hb4 := keepO0 hg hb4
    replace hb6 := keepO0 hg hb6
    replace hb22 := keepO0 hg hb22
    replace hs41 := keepS0 hg hs41
    clear hg
    refine ⟨_, rfl, ?_⟩; intro a ha
    refine sv ha (r_move ha rfl) rfl rfl rfl ?_; clear ha a; intro a ha
    refine sv ha (r_extract ha (vs := #[.agg ((unA 12 (paA 12 p 256) 256).map ei).toArray, en 0]) rfl rfl) rfl rfl rfl ?_; clear ha a; intro a ha
    refine sv ha (r_extract ha (vs := #[.agg ((unA 12 (paA 12 p 256) 256).map ei).toArray, en 0]) rfl rfl) rfl rfl rfl ?_; clear ha a; intro a ha
    refine salloc ha zero_25L3 rfl ?_
    clear ha a; intro a w43 b44 ha hg hb44 hge44 hlt44
    have hz44 : w0.heap.size ≤ b44 := Nat.le_trans hB.size hge44
    have hne_hs41_b44 : ∀ j, Value.ownBlock u41 = some j → j ≠ b44 := fun j hj => by have := hs41.lt j hj; omega
    have hq4_44 : b4 < b44 := Nat.lt_of_lt_of_le (lt_of_block hb4) hge44
    have hq6_44 : b6 < b44 := Nat.lt_of_lt_of_le (lt_of_block hb6) hge44
    have hq22_44 : b22 < b44 := Nat.lt_of_lt_of_le (lt_of_block hb22) hge44
    replace hB := keepB0 hg hB
    replace hb4 := keepO0 hg hb4
    replace hb6 := keepO0 hg hb6
    replace hb22 := keepO0 hg hb22
    replace hs41 := keepS0 hg hs41
    clear hg hge44 hlt44
    refine sstoreW ha rfl rfl (one_ei _) Tryd.sizeOf25 (by rw [List.length_map, unA_len]) hb44 (by rw [List.length_map, List.length_replicate]) ?_
    clear ha a; intro a w45 ha hg hb44'
    clear hb44; have hb44 := hb44'; clear hb44'
    replace hB := keepB1 hg (by omega) hB
    replace hb4 := keepO1 hg (by omega) hb4
    replace hb6 := keepO1 hg (by omega) hb6
    replace hb22 := keepO1 hg (by omega) hb22
    replace hs41 := keepS1 hg (ne_of_ap hne_hs41_b44) hs41
    clear hg
    refine sv ha (r_assign ha rfl) rfl rfl rfl ?_; clear ha a; intro a ha
    refine hK39 _ _ ?_; clear hK39 K38
    refine wp_seq_k fun K46 hK47 => ?_
    refine region ?_
    refine sv ha (r_move ha rfl) rfl rfl rfl ?_; clear ha a; intro a ha
    refine sv ha (r_move ha rfl) rfl rfl rfl ?_; clear ha a; intro a ha
    refine sv ha (rn_mul ha 32 12 rfl rfl (by omega)) rfl rfl rfl ?_; clear ha a; intro a ha
    refine sv ha (r_sliceAH (hi := 384) ha Tryd.runUnderlying43 Tryd.sizeOf5 rfl rfl (by omega)) rfl rfl rfl ?_; clear ha a; intro a ha
    refine sc ha (r_call ha [en 12, (.slice (some ⟨b6, 0, none⟩) 384 384)] rfl Tryd.call18) rfl rfl rfl (c_unpack1 12 (.slice (some ⟨b6, 0, none⟩) 384 384) b _ (by omega) (Sl.ofBlockM hb6 (by rw [hbl]) (Nat.le_refl _)) (hbl.trans rfl)) ?_
    clear ha a
    rintro e w48 ⟨rfl, hBc⟩
    have hg := grown_call hBc; clear hBc
    replace hB := keepB0 hg hB
    replace hb4 := keepO0 hg hb4
    replace hb6 := keepO0 hg hb6
    replace hb22 := keepO0 hg hb22
    replace hb44 := keepO0 hg hb44
    replace hs41 := keepS0 hg hs41
    clear hg
    refine ⟨_, rfl, ?_⟩; intro a ha
    refine sv ha (r_move ha rfl) rfl rfl rfl ?_; clear ha a; intro a ha
    refine sv ha (r_extract ha (vs := #[.agg ((unA 12 b 256).map ei).toArray, en 0]) rfl rfl) rfl rfl rfl ?_; clear ha a; intro a ha
    refine sv ha (r_extract ha (vs := #[.agg ((unA 12 b 256).map ei).toArray, en 0]) rfl rfl) rfl rfl rfl ?_; clear ha a; intro a ha
    refine salloc ha zero_25L3 rfl ?_
    clear ha a; intro a w49 b50 ha hg hb50 hge50 hlt50
    have hz50 : w0.heap.size ≤ b50 := Nat.le_trans hB.size hge50
    have hne_hs41_b50 : ∀ j, Value.ownBlock u41 = some j → j ≠ b50 := fun j hj => by have := hs41.lt j hj; omega
    have hq4_50 : b4 < b50 := Nat.lt_of_lt_of_le (lt_of_block hb4) hge50
    have hq6_50 : b6 < b50 := Nat.lt_of_lt_of_le (lt_of_block hb6) hge50
    have hq22_50 : b22 < b50 := Nat.lt_of_lt_of_le (lt_of_block hb22) hge50
    have hq44_50 : b44 < b50 := Nat.lt_of_lt_of_le (lt_of_block hb44) hge50
    replace hB := keepB0 hg hB
    replace hb4 := keepO0 hg hb4
    replace hb6 := keepO0 hg hb6
    replace hb22 := keepO0 hg hb22
    replace hb44 := keepO0 hg hb44
    replace hs41 := keepS0 hg hs41
    clear hg hge50 hlt50
    refine sstoreW ha rfl rfl (one_ei _) Tryd.sizeOf25 (by rw [List.length_map, unA_len]) hb50 (by rw [List.length_map, List.length_replicate]) ?_
    clear ha a; intro a w51 ha hg hb50'
    clear hb50; have hb50 := hb50'; clear hb50'
    replace hB := keepB1 hg (by omega) hB
    replace hb4 := keepO1 hg (by omega) hb4
    replace hb6 := keepO1 hg (by omega) hb6
    replace hb22 := keepO1 hg (by omega) hb22
    replace hb44 := keepO1 hg (by omega) hb44
    replace hs41 := keepS1 hg (ne_of_ap hne_hs41_b50) hs41
    clear hg
    refine sv ha (r_assign ha rfl) rfl rfl rfl ?_; clear ha a; intro a ha
    refine hK47 _ _ ?_; clear hK47 K46
    refine wp_seq_k fun K52 hK53 => ?_
    refine region ?_
    refine sv ha (r_move ha rfl) rfl rfl rfl ?_; clear ha a; intro a ha
    refine sv ha (r_loadR ha rfl Tryd.isAgg25 Tryd.sizeOf25 (C := (unA 12 b 256).map ei) (by rw [List.length_map, unA_len]) (cells_all hb50)) rfl rfl rfl ?_; clear ha a; intro a ha
    refine sc ha (r_call ha [en 12, .agg (((unA 12 b 256)).map ei).toArray] rfl Tryd.call20) rfl rfl rfl (c_pack1 12 (unA 12 b 256) _ (by omega) (by rw [unA_len])) ?_
    clear ha a
    rintro e w54 ⟨u55, rfl, hBc, hs55, hd55⟩
    have hg := grown_call hBc; clear hBc
    have hnb_hs55_b4 : ∀ j, u55.ownBlock = some j → j ≠ b4 := fun j hj => by have h1 := hd55 j hj; have h2 := lt_of_block hb4; omega
    have hnb_hs55_b6 : ∀ j, u55.ownBlock = some j → j ≠ b6 := fun j hj => by have h1 := hd55 j hj; have h2 := lt_of_block hb6; omega
    have hnb_hs55_b22 : ∀ j, u55.ownBlock = some j → j ≠ b22 := fun j hj => by have h1 := hd55 j hj; have h2 := lt_of_block hb22; omega
    have hnb_hs55_b44 : ∀ j, u55.ownBlock = some j → j ≠ b44 := fun j hj => by have h1 := hd55 j hj; have h2 := lt_of_block hb44; omega
    have hnb_hs55_b50 : ∀ j, u55.ownBlock = some j → j ≠ b50 := fun j hj => by have h1 := hd55 j hj; have h2 := lt_of_block hb50; omega
    have hds_hs55_hs41 : ∀ j, u55.ownBlock = some j → u41.ownBlock ≠ some j := fun j h1 h2 => by have h3 := hd55 j h1; have h4 := (fun j hj => hs41.lt j hj) j h2; omega
    replace hd55 : ∀ j, u55.ownBlock = some j → w0.heap.size ≤ j := fun j hj => Nat.le_trans hB.size (hd55 j hj)
    replace hB := keepB0 hg hB
    replace hb4 := keepO0 hg hb4
    replace hb6 := keepO0 hg hb6
    replace hb22 := keepO0 hg hb22
    replace hb44 := keepO0 hg hb44
    replace hb50 := keepO0 hg hb50
    replace hs41 := keepS0 hg hs41
    clear hg
    refine ⟨_, rfl, ?_⟩; intro a ha
    refine sv ha (r_assign ha rfl) rfl rfl rfl ?_; clear ha a; intro a ha
    refine hK53 _ _ ?_; clear hK53 K52
    refine wp_seq_k fun K56 hK57 => ?_
    refine wp_seq_k fun K58 hK59 => ?_
    refine regionD (S := fun w => Below w0.heap.size w0 w ∧ w.heap[b4]? = some (.cells ((p).map ei).toArray 24 (0, 0)) ∧ w.heap[b6]? = some (.cells ((b).map e8).toArray 43 (0, 0)) ∧ w.heap[b22]? = some (.cells ((cl p).map ei).toArray 24 (0, 0)) ∧ w.heap[b44]? = some (.cells ((unA 12 (paA 12 p 256) 256).map ei).toArray 25 (0, 0)) ∧ w.heap[b50]? = some (.cells ((unA 12 b 256).map ei).toArray 25 (0, 0)) ∧ Sl w u41 ((paA 12 p 256).map e8) ∧ Sl w u55 ((paA 12 (unA 12 b 256) 256).map e8) ∧ True) [] [0, 1, 2, 3, 4, 5, 6, 7, 8, 9, 10, 11, 12, 13, 14, 15, 16, 17, 18, 19, 20, 21, 22, 23] [0, 1, 2, 3, 4, 5, 6, 7, 8, 9, 10, 11, 12, 13, 14, 15, 16, 17, 18, 19, 20, 21, 22, 23] mixed (by kernel_rfl) (fun w hg => ⟨keepB0 hg hB, keepO0 hg hb4, keepO0 hg hb6, keepO0 hg hb22, keepO0 hg hb44, keepO0 hg hb50, keepS0 hg hs41, keepS0 hg hs55, trivial⟩) ?_
    intro w60 hg
    replace hB := keepB0 hg hB
    replace hb4 := keepO0 hg hb4
    replace hb6 := keepO0 hg hb6
    replace hb22 := keepO0 hg hb22
    replace hb44 := keepO0 hg hb44
    replace hb50 := keepO0 hg hb50
    replace hs41 := keepS0 hg hs41
    replace hs55 := keepS0 hg hs55
    clear hg
    refine cv ha rfl rfl (fun w _ => r_move ha rfl) rfl rfl rfl ?_; clear ha a; intro a ha
    refine cv ha rfl rfl (fun w _ => r_neq ha ((0 : Nat) : Int) 0 false rfl rfl (decide_eq_false (by omega))) rfl rfl rfl ?_; clear ha a; intro a ha
    refine cv ha rfl rfl (fun w _ => r_move ha rfl) rfl rfl rfl ?_; clear ha a; intro a ha
    refine cvg ha rfl rfl (fun w _ => r_move ha rfl) rfl rfl rfl rfl rfl ?_; clear ha a; intro a ha
    refine cvg ha rfl rfl (fun w _ => r_neq ha ((0 : Nat) : Int) 0 false rfl rfl (decide_eq_false (by omega))) rfl rfl rfl rfl rfl ?_; clear ha a; intro a ha
    refine cv ha rfl rfl (fun w _ => r_pick ha false rfl rfl) rfl rfl rfl ?_; clear ha a; intro a ha
    refine cv ha rfl rfl (fun w _ => r_move ha rfl) rfl rfl rfl ?_; clear ha a; intro a ha
    refine cvg ha rfl rfl (fun w ⟨hB, hb4, hb6, hb22, hb44, hb50, hs41, hs55, _⟩ => r_loadR ha rfl Tryd.isAgg25 Tryd.sizeOf25 (C := (unA 12 (paA 12 p 256) 256).map ei) (by rw [List.length_map, unA_len]) (cells_all hb44)) rfl rfl rfl rfl rfl ?_; clear ha a; intro a ha
    refine cvg ha rfl rfl (fun w ⟨hB, hb4, hb6, hb22, hb44, hb50, hs41, hs55, _⟩ => r_loadR ha rfl Tryd.isAgg24 Tryd.sizeOf24 (C := (cl p).map ei) (by rw [List.length_map, cl_len, hp]) (cells_all hb22)) rfl rfl rfl rfl rfl ?_; clear ha a; intro a ha
    refine cvg ha rfl rfl (fun w _ => r_neA (f := (fun z : Int => z)) (fun x y h => h) (unA 12 (paA 12 p 256) 256) (cl p) ha rfl rfl (by rw [unA_len]) (by rw [cl_len, hp]) Tryd.eqGuardType25 Tryd.runUnderlying25 Tryd.sizeOf3 Tryd.underlying3 Tryd.isAgg3 false (decide_eq_false (fun h => h (back_x12 p hp)))) rfl rfl rfl rfl rfl ?_; clear ha a; intro a ha
    refine cv ha rfl rfl (fun w _ => r_pick ha false rfl rfl) rfl rfl rfl ?_; clear ha a; intro a ha
    refine cv ha rfl rfl (fun w _ => r_move ha rfl) rfl rfl rfl ?_; clear ha a; intro a ha
    refine cvg ha rfl rfl (fun w _ => r_move ha rfl) rfl rfl rfl rfl rfl ?_; clear ha a; intro a ha
    refine cvg ha rfl rfl (fun w _ => r_lss ha ((12 : Nat) : Int) 12 false rfl rfl (decide_eq_false (by omega))) rfl rfl rfl rfl rfl ?_; clear ha a; intro a ha
    refine cvg ha rfl rfl (fun w _ => r_move ha rfl) rfl rfl rfl rfl rfl ?_; clear ha a; intro a ha
    refine cno ha rfl rfl rfl rfl rfl rfl rfl rfl ?_; clear ha a; intro a ha
    refine cno ha rfl rfl rfl rfl rfl rfl rfl rfl ?_; clear ha a; intro a ha
    refine cno ha rfl rfl rfl rfl rfl rfl rfl rfl ?_; clear ha a; intro a ha
    refine cno ha rfl rfl rfl rfl rfl rfl rfl rfl ?_; clear ha a; intro a ha
    refine cno ha rfl rfl rfl rfl rfl rfl rfl rfl ?_; clear ha a; intro a ha
    refine cno ha rfl rfl rfl rfl rfl rfl rfl rfl ?_; clear ha a; intro a ha
    refine cno ha rfl rfl rfl rfl rfl rfl rfl rfl ?_; clear ha a; intro a ha
    refine cvg ha rfl rfl (fun w _ => r_pick ha false rfl rfl) rfl rfl rfl rfl rfl ?_; clear ha a; intro a ha
    refine cv ha rfl rfl (fun w _ => r_pick ha false rfl rfl) rfl rfl rfl ?_; clear ha a; intro a ha
    refine cfin (hK59 _ _ ?_); clear hK59 K58
    refine cond_f ha rfl ?_
    refine wp_skip ?_
    refine hK57 _ _ ?_; clear hK57 K56
    refine wp_seq_k fun K61 hK62 => ?_
    refine region ?_
    refine sv ha (r_move ha rfl) rfl rfl rfl ?_; clear ha a; intro a ha
    refine sv ha (r_move ha rfl) rfl rfl rfl ?_; clear ha a; intro a ha
    refine sc ha (r_call ha [en 12, u55] rfl Tryd.call18) rfl rfl rfl (c_unpack1 12 u55 (paA 12 (unA 12 b 256) 256) _ (by omega) hs55 (paA_len _ _ _)) ?_
    clear ha a
    rintro e w63 ⟨rfl, hBc⟩
    have hg := grown_call hBc; clear hBc
    replace hB := keepB0 hg hB
    replace hb4 := keepO0 hg hb4
    replace hb6 := keepO0 hg hb6
    replace hb22 := keepO0 hg hb22
    replace hb44 := keepO0 hg hb44
    replace hb50 := keepO0 hg hb50
    replace hs41 := keepS0 hg hs41
    replace hs55 := keepS0 hg hs55
    clear hg
    refine ⟨_, rfl, ?_⟩; intro a ha
    refine sv ha (r_move ha rfl) rfl rfl rfl ?_; clear ha a; intro a ha
    refine sv ha (r_extract ha (vs := #[.agg ((unA 12 (paA 12 (unA 12 b 256) 256) 256).map ei).toArray, en 0]) rfl rfl) rfl rfl rfl ?_; clear ha a; intro a ha
    refine sv ha (r_extract ha (vs := #[.agg ((unA 12 (paA 12 (unA 12 b 256) 256) 256).map ei).toArray, en 0]) rfl rfl) rfl rfl rfl ?_; clear ha a; intro a ha
    refine salloc ha zero_25L3 rfl ?_
    clear ha a; intro a w64 b65 ha hg hb65 hge65 hlt65
    have hz65 : w0.heap.size ≤ b65 := Nat.le_trans hB.size hge65
    have hne_hs41_b65 : ∀ j, Value.ownBlock u41 = some j → j ≠ b65 := fun j hj => by have := hs41.lt j hj; omega
    have hne_hs55_b65 : ∀ j, Value.ownBlock u55 = some j → j ≠ b65 := fun j hj => by have := hs55.lt j hj; omega
    have hq4_65 : b4 < b65 := Nat.lt_of_lt_of_le (lt_of_block hb4) hge65
    have hq6_65 : b6 < b65 := Nat.lt_of_lt_of_le (lt_of_block hb6) hge65
    have hq22_65 : b22 < b65 := Nat.lt_of_lt_of_le (lt_of_block hb22) hge65
    have hq44_65 : b44 < b65 := Nat.lt_of_lt_of_le (lt_of_block hb44) hge65
    have hq50_65 : b50 < b65 := Nat.lt_of_lt_of_le (lt_of_block hb50) hge65
    replace hB := keepB0 hg hB
    replace hb4 := keepO0 hg hb4
    replace hb6 := keepO0 hg hb6
    replace hb22 := keepO0 hg hb22
    replace hb44 := keepO0 hg hb44
    replace hb50 := keepO0 hg hb50
    replace hs41 := keepS0 hg hs41
    replace hs55 := keepS0 hg hs55
    clear hg hge65 hlt65
    refine sstoreW ha rfl rfl (one_ei _) Tryd.sizeOf25 (by rw [List.length_map, unA_len]) hb65 (by rw [List.length_map, List.length_replicate]) ?_
    clear ha a; intro a w66 ha hg hb65'
    clear hb65; have hb65 := hb65'; clear hb65'
    replace hB := keepB1 hg (by omega) hB
    replace hb4 := keepO1 hg (by omega) hb4
    replace hb6 := keepO1 hg (by omega) hb6
    replace hb22 := keepO1 hg (by omega) hb22
    replace hb44 := keepO1 hg (by omega) hb44
    replace hb50 := keepO1 hg (by omega) hb50
    replace hs41 := keepS1 hg (ne_of_ap hne_hs41_b65) hs41
    replace hs55 := keepS1 hg (ne_of_ap hne_hs55_b65) hs55
    clear hg
    refine sv ha (r_assign ha rfl) rfl rfl rfl ?_; clear ha a; intro a ha
    refine hK62 _ _ ?_; clear hK62 K61
    refine wp_seq_k fun K67 hK68 => ?_
    refine wp_seq_k fun K69 hK70 => ?_
    refine region ?_
    refine sv ha (r_move ha rfl) rfl rfl rfl ?_; clear ha a; intro a ha
    refine sv ha (r_neq ha ((0 : Nat) : Int) 0 false rfl rfl (decide_eq_false (by omega))) rfl rfl rfl ?_; clear ha a; intro a ha
    refine sv ha (r_move ha rfl) rfl rfl rfl ?_; clear ha a; intro a ha
    refine svg ha (r_loadR ha rfl Tryd.isAgg25 Tryd.sizeOf25 (C := (unA 12 (paA 12 (unA 12 b 256) 256) 256).map ei) (by rw [List.length_map, unA_len]) (cells_all hb65)) rfl rfl rfl rfl rfl ?_; clear ha a; intro a ha
    refine svg ha (r_loadR ha rfl Tryd.isAgg25 Tryd.sizeOf25 (C := (unA 12 b 256).map ei) (by rw [List.length_map, unA_len]) (cells_all hb50)) rfl rfl rfl rfl rfl ?_; clear ha a; intro a ha
    refine svg ha (r_neA (f := (fun z : Int => z)) (fun x y h => h) (unA 12 (paA 12 (unA 12 b 256) 256) 256) (unA 12 b 256) ha rfl rfl (by rw [unA_len]) (by rw [unA_len]) Tryd.eqGuardType25 Tryd.runUnderlying25 Tryd.sizeOf3 Tryd.underlying3 Tryd.isAgg3 false (decide_eq_false (fun h => h (un_pa_un 12 (by omega) _)))) rfl rfl rfl rfl rfl ?_; clear ha a; intro a ha
    refine sv ha (r_pick ha false rfl rfl) rfl rfl rfl ?_; clear ha a; intro a ha
    refine hK70 _ _ ?_; clear hK70 K69
    refine cond_f ha rfl ?_
    refine wp_skip ?_
    refine hK68 _ _ ?_; clear hK68 K67
    refine wp_seq_k fun K71 hK72 => ?_
    refine regionD (S := fun w => Below w0.heap.size w0 w ∧ w.heap[b4]? = some (.cells ((p).map ei).toArray 24 (0, 0)) ∧ w.heap[b6]? = some (.cells ((b).map e8).toArray 43 (0, 0)) ∧ w.heap[b22]? = some (.cells ((cl p).map ei).toArray 24 (0, 0)) ∧ w.heap[b44]? = some (.cells ((unA 12 (paA 12 p 256) 256).map ei).toArray 25 (0, 0)) ∧ w.heap[b50]? = some (.cells ((unA 12 b 256).map ei).toArray 25 (0, 0)) ∧ w.heap[b65]? = some (.cells ((unA 12 (paA 12 (unA 12 b 256) 256) 256).map ei).toArray 25 (0, 0)) ∧ Sl w u41 ((paA 12 p 256).map e8) ∧ Sl w u55 ((paA 12 (unA 12 b 256) 256).map e8) ∧ True) [] [0, 1, 2, 3, 4, 5, 8, 9, 10, 11] [0, 1, 2, 3, 4, 5, 8, 6, 7, 9, 10, 11] mixed (by kernel_rfl) (fun w hg => ⟨keepB0 hg hB, keepO0 hg hb4, keepO0 hg hb6, keepO0 hg hb22, keepO0 hg hb44, keepO0 hg hb50, keepO0 hg hb65, keepS0 hg hs41, keepS0 hg hs55, trivial⟩) ?_
    intro w73 hg
    replace hB := keepB0 hg hB
    replace hb4 := keepO0 hg hb4
    replace hb6 := keepO0 hg hb6
    replace hb22 := keepO0 hg hb22
    replace hb44 := keepO0 hg hb44
    replace hb50 := keepO0 hg hb50
    replace hb65 := keepO0 hg hb65
    replace hs41 := keepS0 hg hs41
    replace hs55 := keepS0 hg hs55
    clear hg
    refine cv ha rfl rfl (fun w _ => r_move ha rfl) rfl rfl rfl ?_; clear ha a; intro a ha
    refine cv ha rfl rfl (fun w _ => r_eql ha ((12 : Nat) : Int) 12 true rfl rfl (decide_eq_true (by omega))) rfl rfl rfl ?_; clear ha a; intro a ha
    refine cv ha rfl rfl (fun w _ => r_move ha rfl) rfl rfl rfl ?_; clear ha a; intro a ha
    refine cno ha rfl rfl rfl rfl rfl rfl rfl rfl ?_; clear ha a; intro a ha
    refine cno ha rfl rfl rfl rfl rfl rfl rfl rfl ?_; clear ha a; intro a ha
    refine cno ha rfl rfl rfl rfl rfl rfl rfl rfl ?_; clear ha a; intro a ha
    refine cno ha rfl rfl rfl rfl rfl rfl rfl rfl ?_; clear ha a; intro a ha
    refine cnoU ha rfl rfl rfl rfl rfl rfl rfl rfl ⟨hB, hb4, hb6, hb22, hb44, hb50, hb65, hs41, hs55, trivial⟩ ?_; clear ha a; intro a ha
    refine cnoU ha rfl rfl rfl rfl rfl rfl rfl rfl ⟨hB, hb4, hb6, hb22, hb44, hb50, hb65, hs41, hs55, trivial⟩ ?_; clear ha a; intro a ha
    refine cno ha rfl rfl rfl rfl rfl rfl rfl rfl ?_; clear ha a; intro a ha
    refine cv ha rfl rfl (fun w _ => r_pick ha true rfl rfl) rfl rfl rfl ?_; clear ha a; intro a ha
    refine cv ha rfl rfl (fun w _ => r_assign ha rfl) rfl rfl rfl ?_; clear ha a; intro a ha
    refine cfin (hK72 _ _ ?_); clear hK72 K71
    refine wp_ret ?_
    repeat (first | (with_reducible refine t_ret ?_) | (with_reducible refine x_ret ?_))
    exact ret1 ha Tryd.results7 rfl ⟨rfl, hB⟩

theorem law_SampleBack (d : Int) (p : List Int) (b : List UInt8) (w0 : World) (hp : p.length = 256) (hbl : b.length = 384) (hG : Glob w0) :
    Calls Tryd.prog 7 #[ei d, .agg ((p).map ei).toArray, .agg ((b).map e8).toArray] w0 fun e w' => e = .returned (.bool true) ∧ Below w0.heap.size w0 w' := by
  by_cases h : 1 ≤ d ∧ d ≤ 12
  · obtain ⟨n, rfl⟩ := Int.eq_ofNat_of_zero_le (show 0 ≤ d by omega)
    rcases Nat.lt_or_ge n 12 with h2 | h2
    · exact law_SampleBackA n p b w0 (by omega) (by omega) hp hbl hG
    · obtain rfl : n = 12 := by omega
      exact law_SampleBackB p b w0 hp hbl hG
  · exact law_SampleBackN d p b w0 h hp hbl hG

theorem law_SampleSmallN (eta : Int) (v : Value) (seed : List UInt8) (n : UInt8) (w0 : World) (hx : ¬ (1 ≤ eta ∧ eta ≤ 3)) (hs : Sl w0 v (seed.map e8)) (hG : Glob w0) :
    Calls Tryd.prog 9 #[ei eta, v, e8 n] w0 fun e w' => e = .returned (.bool true) ∧ Below w0.heap.size w0 w' := by
  refine enter (args := [_, _, _]) Tryd.func9 rfl Tryd.ntmps9 rfl ?_
  intro a ha
  have hB := Below.refl w0.heap.size w0
  refine wp_seq_k fun K1 hK2 => ?_
  refine region ?_
  refine sv ha (r_assign ha rfl) rfl rfl rfl ?_; clear ha a; intro a ha
  refine hK2 _ _ ?_; clear hK2 K1
  refine wp_seq_k fun K3 hK4 => ?_
  refine region ?_
  refine sc ha (r_call ha [] rfl Tryd.call11) rfl rfl rfl (c_awake12  _ (glob_keep hG hB)) ?_
  clear ha a
  rintro e w5 ⟨rfl, hBc⟩
  have hg := grown_call hBc; clear hBc
  replace hB := keepB0 hg hB
  clear hg
  refine ⟨_, rfl, ?_⟩; intro a ha
  refine sv ha (r_assign ha rfl) rfl rfl rfl ?_; clear ha a; intro a ha
  refine hK4 _ _ ?_; clear hK4 K3
  refine wp_seq_k fun K6 hK7 => ?_
  refine wp_seq_k fun K8 hK9 => ?_
  refine region ?_
  refine sv ha (r_move ha rfl) rfl rfl rfl ?_; clear ha a; intro a ha
  refine sv ha (r_not ha true false rfl rfl) rfl rfl rfl ?_; clear ha a; intro a ha
  refine hK9 _ _ ?_; clear hK9 K8
  refine cond_f ha rfl ?_
  refine wp_skip ?_
  refine hK7 _ _ ?_; clear hK7 K6
  refine wp_seq_k fun K10 hK11 => ?_
  refine wp_seq_k fun K12 hK13 => ?_
  refine region ?_
  refine sv ha (r_move ha rfl) rfl rfl rfl ?_; clear ha a; intro a ha
  refine sv ha (r_lenS ha Tryd.runUnderlying22 (hs.below hB) rfl (by rw [List.length_map])) rfl rfl rfl ?_; clear ha a; intro a ha
  refine sv ha (r_gtr ha ((seed.length : Nat) : Int) 500 (decide (seed.length > 500)) rfl rfl (decide_eq_decide.2 (by omega))) rfl rfl rfl ?_; clear ha a; intro a ha
  refine hK13 _ _ ?_; clear hK13 K12
  refine cond_if ha rfl (fun hc14 => ?_) (fun hc14 => ?_)
  · skip
    replace hc14 := of_decide_eq_true hc14
    refine wp_seq_k fun K15 hK16 => ?_
    refine region ?_
    refine sv ha (r_assign ha rfl) rfl rfl rfl ?_; clear ha a; intro a ha
    refine hK16 _ _ ?_; clear hK16 K15
    refine wp_ret ?_
    repeat (first | (with_reducible refine t_ret ?_) | (with_reducible refine x_ret ?_))
    exact ret1 ha Tryd.results9 rfl ⟨rfl, hB⟩
  · skip
    replace hc14 := of_decide_eq_false hc14
    refine wp_skip ?_
    refine hK11 _ _ ?_; clear hK11 K10
    refine wp_seq_k fun K17 hK18 => ?_
    refine region ?_
    refine sv ha (r_move ha rfl) rfl rfl rfl ?_; clear ha a; intro a ha
    refine sv ha (r_move ha rfl) rfl rfl rfl ?_; clear ha a; intro a ha
    refine sv ha (r_move ha rfl) rfl rfl rfl ?_; clear ha a; intro a ha
    refine sc ha (r_call ha [ei eta, v, e8 n] rfl Tryd.call16) rfl rfl rfl (c_prf0 eta v seed n _ (hs.below hB) (by omega) (glob_keep hG hB)) ?_
    clear ha a
    rintro e w19 ⟨rfl, hBc⟩
    have hg := grown_call hBc; clear hBc
    replace hB := keepB0 hg hB
    clear hg
    refine ⟨_, rfl, ?_⟩; intro a ha
    refine sv ha (r_move ha rfl) rfl rfl rfl ?_; clear ha a; intro a ha
    refine sv ha (r_extract ha (vs := #[.agg ((zero256).map ei).toArray, en 1]) rfl rfl) rfl rfl rfl ?_; clear ha a; intro a ha
    refine sv ha (r_extract ha (vs := #[.agg ((zero256).map ei).toArray, en 1]) rfl rfl) rfl rfl rfl ?_; clear ha a; intro a ha
    refine salloc ha zero_25L3 rfl ?_
    clear ha a; intro a w20 b21 ha hg hb21 hge21 hlt21
    have hz21 : w0.heap.size ≤ b21 := Nat.le_trans hB.size hge21
    replace hB := keepB0 hg hB
    clear hg hge21 hlt21
    refine sstoreW ha rfl rfl (one_ei _) Tryd.sizeOf25 (by rw [List.length_map, List.length_replicate]) hb21 (by rw [List.length_map, List.length_replicate]) ?_
    clear ha a; intro a w22 ha hg hb21'
    clear hb21; have hb21 := hb21'; clear hb21'
    replace hB := keepB1 hg (by omega) hB
    clear hg
    refine sv ha (r_assign ha rfl) rfl rfl rfl ?_; clear ha a; intro a ha
    refine hK18 _ _ ?_; clear hK18 K17
    refine wp_seq_k fun K23 hK24 => ?_
    refine wp_seq_k fun K25 hK26 => ?_
    refine region ?_
    refine sv ha (r_move ha rfl) rfl rfl rfl ?_; clear ha a; intro a ha
    refine sv ha (r_lss ha eta 1 (decide (eta < 1)) rfl rfl (decide_eq_decide.2 (by omega))) rfl rfl rfl ?_; clear ha a; intro a ha
    refine sv ha (r_move ha rfl) rfl rfl rfl ?_; clear ha a; intro a ha
    cases hq27 : (decide (eta < 1))
    all_goals rw [hq27] at ha
    case false =>
      replace hq27 := of_decide_eq_false hq27
      refine svg ha (r_move ha rfl) rfl rfl rfl rfl rfl ?_; clear ha a; intro a ha
      refine svg ha (r_gtr ha eta 3 true rfl rfl (decide_eq_true (by omega))) rfl rfl rfl rfl rfl ?_; clear ha a; intro a ha
      refine sv ha (r_pick ha false rfl rfl) rfl rfl rfl ?_; clear ha a; intro a ha
      refine hK26 _ _ ?_; clear hK26 K25
      refine cond_t ha rfl ?_
      refine wp_seq_k fun K28 hK29 => ?_
      refine region ?_
      refine sv ha (r_move ha rfl) rfl rfl rfl ?_; clear ha a; intro a ha
      refine sv ha (r_eql ha ((1 : Nat) : Int) 1 true rfl rfl (decide_eq_true (by omega))) rfl rfl rfl ?_; clear ha a; intro a ha
      refine sv ha (r_assign ha rfl) rfl rfl rfl ?_; clear ha a; intro a ha
      refine hK29 _ _ ?_; clear hK29 K28
      refine wp_ret ?_
      repeat (first | (with_reducible refine t_ret ?_) | (with_reducible refine x_ret ?_))
      exact ret1 ha Tryd.results9 rfl ⟨rfl, hB⟩
    case true =>
      replace hq27 := of_decide_eq_true hq27
      refine sno ha rfl rfl rfl rfl rfl rfl ?_; clear ha a; intro a ha
      refine sno ha rfl rfl rfl rfl rfl rfl ?_; clear ha a; intro a ha
      refine sv ha (r_pick ha true rfl rfl) rfl rfl rfl ?_; clear ha a; intro a ha
      refine hK26 _ _ ?_; clear hK26 K25
      refine cond_t ha rfl ?_
      refine wp_seq_k fun K30 hK31 => ?_
      refine region ?_
      refine sv ha (r_move ha rfl) rfl rfl rfl ?_; clear ha a; intro a ha
      refine sv ha (r_eql ha ((1 : Nat) : Int) 1 true rfl rfl (decide_eq_true (by omega))) rfl rfl rfl ?_; clear ha a; intro a ha
      refine sv ha (r_assign ha rfl) rfl rfl rfl ?_; clear ha a; intro a ha
      refine hK31 _ _ ?_; clear hK31 K30
      refine wp_ret ?_
      repeat (first | (with_reducible refine t_ret ?_) | (with_reducible refine x_ret ?_))
      exact ret1 ha Tryd.results9 rfl ⟨rfl, hB⟩

theorem law_SampleSmallA (eta : Nat) (v : Value) (seed : List UInt8) (n : UInt8) (w0 : World) (he : 1 ≤ eta ∧ eta ≤ 3) (hs : Sl w0 v (seed.map e8)) (hG : Glob w0) :
    Calls Tryd.prog 9 #[en eta, v, e8 n] w0 fun e w' => e = .returned (.bool true) ∧ Below w0.heap.size w0 w' := by
  refine enter (args := [_, _, _]) Tryd.func9 rfl Tryd.ntmps9 rfl ?_
  intro a ha
  have hB := Below.refl w0.heap.size w0
  refine wp_seq_k fun K1 hK2 => ?_
  refine region ?_
  refine sv ha (r_assign ha rfl) rfl rfl rfl ?_; clear ha a; intro a ha
  refine hK2 _ _ ?_; clear hK2 K1
  refine wp_seq_k fun K3 hK4 => ?_
  refine region ?_
  refine sc ha (r_call ha [] rfl Tryd.call11) rfl rfl rfl (c_awake12  _ (glob_keep hG hB)) ?_
  clear ha a
  rintro e w5 ⟨rfl, hBc⟩
  have hg := grown_call hBc; clear hBc
  replace hB := keepB0 hg hB
  clear hg
  refine ⟨_, rfl, ?_⟩; intro a ha
  refine sv ha (r_assign ha rfl) rfl rfl rfl ?_; clear ha a; intro a ha
  refine hK4 _ _ ?_; clear hK4 K3
  refine wp_seq_k fun K6 hK7 => ?_
  refine wp_seq_k fun K8 hK9 => ?_
  refine region ?_
  refine sv ha (r_move ha rfl) rfl rfl rfl ?_; clear ha a; intro a ha
  refine sv ha (r_not ha true false rfl rfl) rfl rfl rfl ?_; clear ha a; intro a ha
  refine hK9 _ _ ?_; clear hK9 K8
  refine cond_f ha rfl ?_
  refine wp_skip ?_
  refine hK7 _ _ ?_; clear hK7 K6
  refine wp_seq_k fun K10 hK11 => ?_
  refine wp_seq_k fun K12 hK13 => ?_
  refine region ?_
  refine sv ha (r_move ha rfl) rfl rfl rfl ?_; clear ha a; intro a ha
  refine sv ha (r_lenS ha Tryd.runUnderlying22 (hs.below hB) rfl (by rw [List.length_map])) rfl rfl rfl ?_; clear ha a; intro a ha
  refine sv ha (r_gtr ha ((seed.length : Nat) : Int) 500 (decide (seed.length > 500)) rfl rfl (decide_eq_decide.2 (by omega))) rfl rfl rfl ?_; clear ha a; intro a ha
  refine hK13 _ _ ?_; clear hK13 K12
  refine cond_if ha rfl (fun hc14 => ?_) (fun hc14 => ?_)
  · skip
    replace hc14 := of_decide_eq_true hc14
    refine wp_seq_k fun K15 hK16 => ?_
    refine region ?_
    refine sv ha (r_assign ha rfl) rfl rfl rfl ?_; clear ha a; intro a ha
    refine hK16 _ _ ?_; clear hK16 K15
    refine wp_ret ?_
    repeat (first | (with_reducible refine t_ret ?_) | (with_reducible refine x_ret ?_))
    exact ret1 ha Tryd.results9 rfl ⟨rfl, hB⟩
  · skip
    replace hc14 := of_decide_eq_false hc14
    refine wp_skip ?_
    refine hK11 _ _ ?_; clear hK11 K10
    refine wp_seq_k fun K17 hK18 => ?_
    refine region ?_
    refine sv ha (r_move ha rfl) rfl rfl rfl ?_; clear ha a; intro a ha
    refine sv ha (r_move ha rfl) rfl rfl rfl ?_; clear ha a; intro a ha
    refine sv ha (r_move ha rfl) rfl rfl rfl ?_; clear ha a; intro a ha
    refine sc ha (r_call ha [en eta, v, e8 n] rfl Tryd.call16) rfl rfl rfl (c_prf1 eta v seed n _ (by omega) (hs.below hB) (by omega) (glob_keep hG hB)) ?_
    clear ha a
    rintro e w19 ⟨rfl, hBc⟩
    have hg := grown_call hBc; clear hBc
    replace hB := keepB0 hg hB
    clear hg
    refine ⟨_, rfl, ?_⟩; intro a ha
    refine sv ha (r_move ha rfl) rfl rfl rfl ?_; clear ha a; intro a ha
    refine sv ha (r_extract ha (vs := #[.agg ((noA eta (prfB (eta : Int) seed n) 256).map ei).toArray, en 0]) rfl rfl) rfl rfl rfl ?_; clear ha a; intro a ha
    refine sv ha (r_extract ha (vs := #[.agg ((noA eta (prfB (eta : Int) seed n) 256).map ei).toArray, en 0]) rfl rfl) rfl rfl rfl ?_; clear ha a; intro a ha
    refine salloc ha zero_25L3 rfl ?_
    clear ha a; intro a w20 b21 ha hg hb21 hge21 hlt21
    have hz21 : w0.heap.size ≤ b21 := Nat.le_trans hB.size hge21
    replace hB := keepB0 hg hB
    clear hg hge21 hlt21
    refine sstoreW ha rfl rfl (one_ei _) Tryd.sizeOf25 (by rw [List.length_map, noA_len]) hb21 (by rw [List.length_map, List.length_replicate]) ?_
    clear ha a; intro a w22 ha hg hb21'
    clear hb21; have hb21 := hb21'; clear hb21'
    replace hB := keepB1 hg (by omega) hB
    clear hg
    refine sv ha (r_assign ha rfl) rfl rfl rfl ?_; clear ha a; intro a ha
    refine hK18 _ _ ?_; clear hK18 K17
    refine wp_seq_k fun K23 hK24 => ?_
    refine wp_seq_k fun K25 hK26 => ?_
    refine region ?_
    refine sv ha (r_move ha rfl) rfl rfl rfl ?_; clear ha a; intro a ha
    refine sv ha (r_lss ha ((eta : Nat) : Int) 1 false rfl rfl (decide_eq_false (by omega))) rfl rfl rfl ?_; clear ha a; intro a ha
    refine sv ha (r_move ha rfl) rfl rfl rfl ?_; clear ha a; intro a ha
    refine svg ha (r_move ha rfl) rfl rfl rfl rfl rfl ?_; clear ha a; intro a ha
    refine svg ha (r_gtr ha ((eta : Nat) : Int) 3 false rfl rfl (decide_eq_false (by omega))) rfl rfl rfl rfl rfl ?_; clear ha a; intro a ha
    refine sv ha (r_pick ha false rfl rfl) rfl rfl rfl ?_; clear ha a; intro a ha
    refine hK26 _ _ ?_; clear hK26 K25
    refine cond_f ha rfl ?_
    refine wp_skip ?_
    refine hK24 _ _ ?_; clear hK24 K23
    refine wp_seq_k fun K27 hK28 => ?_
    refine wp_seq_k fun K29 hK30 => ?_
    refine region ?_
    refine sv ha (r_assign ha rfl) rfl rfl rfl ?_; clear ha a; intro a ha
    refine hK30 _ _ ?_; clear hK30 K29
    refine wp_block ?_
    refine loopG (fun (i : Nat) a w => (i ≤ 256) ∧ Has 94 [(0, en eta), (1, v), (2, e8 n), (15, .bool true), (7, .bool true), (16, .bool true), (17, .bool false), (18, v), (19, en seed.length), (20, .bool (decide (seed.length > 500))), (22, en eta), (23, v), (24, e8 n), (25, .tuple #[.agg ((noA eta (prfB (eta : Int) seed n) 256).map ei).toArray, en 0]), (21, .tuple #[.agg ((noA eta (prfB (eta : Int) seed n) 256).map ei).toArray, en 0]), (26, .agg ((noA eta (prfB (eta : Int) seed n) 256).map ei).toArray), (27, en 0), (8, .pointer (some ⟨b21, 0, none⟩)), (9, en 0), (28, en eta), (29, .bool false), (30, .bool false), (31, en eta), (32, .bool false), (33, .bool false), (10, en i)] a ∧ Below w0.heap.size w0 w ∧ w.heap[b21]? = some (.cells ((noA eta (prfB (eta : Int) seed n) 256).map ei).toArray 25 (0, 0))) (fun i => 256 - i) 0 ⟨(by omega), ha.to [0, 1, 2, 15, 7, 16, 17, 18, 19, 20, 22, 23, 24, 25, 21, 26, 27, 8, 9, 28, 29, 30, 31, 32, 33, 10] rfl, hB, hb21⟩ ?_
    clear ha a hB hb21
    intro i a w31 ⟨hki, ha, hB, hb21⟩
    have hsm := noA_small eta (prfB (eta : Int) seed n) he i
    refine wp_seq_k fun K32 hK33 => ?_
    refine wp_seq_k fun K34 hK35 => ?_
    refine region ?_
    refine sv ha (r_move ha rfl) rfl rfl rfl ?_; clear ha a; intro a ha
    refine sv ha (r_lss ha ((i : Nat) : Int) 256 (decide (i < 256)) rfl rfl (decide_eq_decide.2 (by omega))) rfl rfl rfl ?_; clear ha a; intro a ha
    refine hK35 _ _ ?_; clear hK35 K34
    refine cond_if ha rfl (fun hc36 => ?_) (fun hc36 => ?_)
    · skip
      replace hc36 := of_decide_eq_true hc36
      refine wp_skip ?_
      refine hK33 _ _ ?_; clear hK33 K32
      refine wp_seq_k fun K37 hK38 => ?_
      refine wp_block ?_
      refine wp_seq_k fun K39 hK40 => ?_
      refine region ?_
      refine sv ha (r_move ha rfl) rfl rfl rfl ?_; clear ha a; intro a ha
      refine sv ha (r_indexArr (i := i) ha i Tryd.runUnderlying25 Tryd.sizeOf3 rfl rfl (by omega) (by omega)) rfl rfl rfl ?_; clear ha a; intro a ha
      refine sv ha (r_load ha rfl Tryd.isAgg3 (cell_of hb21 (get_map ei (noA eta (prfB (eta : Int) seed n) 256) 0 i (by rw [noA_len]; omega)))) rfl rfl rfl ?_; clear ha a; intro a ha
      refine sv ha (r_lss ha ((noA eta (prfB (eta : Int) seed n) 256).getD i 0) 0 false rfl rfl (decide_eq_false (by omega))) rfl rfl rfl ?_; clear ha a; intro a ha
      refine sv ha (r_move ha rfl) rfl rfl rfl ?_; clear ha a; intro a ha
      refine svg ha (r_move ha rfl) rfl rfl rfl rfl rfl ?_; clear ha a; intro a ha
      refine svg ha (r_indexArr (i := i) ha i Tryd.runUnderlying25 Tryd.sizeOf3 rfl rfl (by omega) (by omega)) rfl rfl rfl rfl rfl ?_; clear ha a; intro a ha
      refine svg ha (r_load ha rfl Tryd.isAgg3 (cell_of hb21 (get_map ei (noA eta (prfB (eta : Int) seed n) 256) 0 i (by rw [noA_len]; omega)))) rfl rfl rfl rfl rfl ?_; clear ha a; intro a ha
      refine svg ha (r_move ha rfl) rfl rfl rfl rfl rfl ?_; clear ha a; intro a ha
      refine svg ha (r_gtr ha ((noA eta (prfB (eta : Int) seed n) 256).getD i 0) ((eta : Nat) : Int) (decide ((noA eta (prfB (eta : Int) seed n) 256).getD i 0 > ((eta : Nat) : Int))) rfl rfl (decide_eq_decide.2 (by omega))) rfl rfl rfl rfl rfl ?_; clear ha a; intro a ha
      refine svg ha (r_move ha rfl) rfl rfl rfl rfl rfl ?_; clear ha a; intro a ha
      cases hq41 : (decide ((noA eta (prfB (eta : Int) seed n) 256).getD i 0 > ((eta : Nat) : Int)))
      all_goals rw [hq41] at ha
      case false =>
        replace hq41 := of_decide_eq_false hq41
        refine sno ha rfl rfl rfl rfl rfl rfl ?_; clear ha a; intro a ha
        refine sno ha rfl rfl rfl rfl rfl rfl ?_; clear ha a; intro a ha
        refine sno ha rfl rfl rfl rfl rfl rfl ?_; clear ha a; intro a ha
        refine sno ha rfl rfl rfl rfl rfl rfl ?_; clear ha a; intro a ha
        refine sno ha rfl rfl rfl rfl rfl rfl ?_; clear ha a; intro a ha
        refine sno ha rfl rfl rfl rfl rfl rfl ?_; clear ha a; intro a ha
        refine svg ha (r_pick ha false rfl rfl) rfl rfl rfl rfl rfl ?_; clear ha a; intro a ha
        refine sv ha (r_pick ha false rfl rfl) rfl rfl rfl ?_; clear ha a; intro a ha
        refine sv ha (r_move ha rfl) rfl rfl rfl ?_; clear ha a; intro a ha
        refine svg ha (r_move ha rfl) rfl rfl rfl rfl rfl ?_; clear ha a; intro a ha
        refine svg ha (r_indexArr (i := i) ha i Tryd.runUnderlying25 Tryd.sizeOf3 rfl rfl (by omega) (by omega)) rfl rfl rfl rfl rfl ?_; clear ha a; intro a ha
        refine svg ha (r_load ha rfl Tryd.isAgg3 (cell_of hb21 (get_map ei (noA eta (prfB (eta : Int) seed n) 256) 0 i (by rw [noA_len]; omega)))) rfl rfl rfl rfl rfl ?_; clear ha a; intro a ha
        refine svg ha (r_geq ha ((noA eta (prfB (eta : Int) seed n) 256).getD i 0) 3329 false rfl rfl (decide_eq_false (by omega))) rfl rfl rfl rfl rfl ?_; clear ha a; intro a ha
        refine sv ha (r_pick ha false rfl rfl) rfl rfl rfl ?_; clear ha a; intro a ha
        refine hK40 _ _ ?_; clear hK40 K39
        refine cond_f ha rfl ?_
        refine wp_skip ?_
        refine hK38 _ _ ?_; clear hK38 K37
        refine region ?_
        refine sv ha (r_move ha rfl) rfl rfl rfl ?_; clear ha a; intro a ha
        refine sv ha (rn_add ha i 1 rfl rfl (by omega)) rfl rfl rfl ?_; clear ha a; intro a ha
        refine sv ha (r_assign ha rfl) rfl rfl rfl ?_; clear ha a; intro a ha
        exact ⟨i + 1, by omega, (by omega), ha.to [0, 1, 2, 15, 7, 16, 17, 18, 19, 20, 22, 23, 24, 25, 21, 26, 27, 8, 9, 28, 29, 30, 31, 32, 33, 10] rfl, hB, hb21⟩
      case true =>
        replace hq41 := of_decide_eq_true hq41
        refine svg ha (r_move ha rfl) rfl rfl rfl rfl rfl ?_; clear ha a; intro a ha
        refine svg ha (r_indexArr (i := i) ha i Tryd.runUnderlying25 Tryd.sizeOf3 rfl rfl (by omega) (by omega)) rfl rfl rfl rfl rfl ?_; clear ha a; intro a ha
        refine svg ha (r_load ha rfl Tryd.isAgg3 (cell_of hb21 (get_map ei (noA eta (prfB (eta : Int) seed n) 256) 0 i (by rw [noA_len]; omega)))) rfl rfl rfl rfl rfl ?_; clear ha a; intro a ha
        refine svg ha (r_move ha rfl) rfl rfl rfl rfl rfl ?_; clear ha a; intro a ha
        refine svg ha (rn_sub ha 3329 eta rfl rfl (by omega) (by omega)) rfl rfl rfl rfl rfl ?_; clear ha a; intro a ha
        refine svg ha (r_lss ha ((noA eta (prfB (eta : Int) seed n) 256).getD i 0) ((3329 - eta : Nat) : Int) false rfl rfl (decide_eq_false (by omega))) rfl rfl rfl rfl rfl ?_; clear ha a; intro a ha
        refine svg ha (r_pick ha true rfl rfl) rfl rfl rfl rfl rfl ?_; clear ha a; intro a ha
        refine sv ha (r_pick ha false rfl rfl) rfl rfl rfl ?_; clear ha a; intro a ha
        refine sv ha (r_move ha rfl) rfl rfl rfl ?_; clear ha a; intro a ha
        refine svg ha (r_move ha rfl) rfl rfl rfl rfl rfl ?_; clear ha a; intro a ha
        refine svg ha (r_indexArr (i := i) ha i Tryd.runUnderlying25 Tryd.sizeOf3 rfl rfl (by omega) (by omega)) rfl rfl rfl rfl rfl ?_; clear ha a; intro a ha
        refine svg ha (r_load ha rfl Tryd.isAgg3 (cell_of hb21 (get_map ei (noA eta (prfB (eta : Int) seed n) 256) 0 i (by rw [noA_len]; omega)))) rfl rfl rfl rfl rfl ?_; clear ha a; intro a ha
        refine svg ha (r_geq ha ((noA eta (prfB (eta : Int) seed n) 256).getD i 0) 3329 false rfl rfl (decide_eq_false (by omega))) rfl rfl rfl rfl rfl ?_; clear ha a; intro a ha
        refine sv ha (r_pick ha false rfl rfl) rfl rfl rfl ?_; clear ha a; intro a ha
        refine hK40 _ _ ?_; clear hK40 K39
        refine cond_f ha rfl ?_
        refine wp_skip ?_
        refine hK38 _ _ ?_; clear hK38 K37
        refine region ?_
        refine sv ha (r_move ha rfl) rfl rfl rfl ?_; clear ha a; intro a ha
        refine sv ha (rn_add ha i 1 rfl rfl (by omega)) rfl rfl rfl ?_; clear ha a; intro a ha
        refine sv ha (r_assign ha rfl) rfl rfl rfl ?_; clear ha a; intro a ha
        exact ⟨i + 1, by omega, (by omega), ha.to [0, 1, 2, 15, 7, 16, 17, 18, 19, 20, 22, 23, 24, 25, 21, 26, 27, 8, 9, 28, 29, 30, 31, 32, 33, 10] rfl, hB, hb21⟩
    · skip
      replace hc36 := of_decide_eq_false hc36
      refine wp_exit ?_
      obtain rfl : i = 256 := by omega
      refine hK28 _ _ ?_; clear hK33 K32 hK28 K27
      refine wp_seq_k fun K42 hK43 => ?_
      refine region ?_
      refine sv ha (r_move ha rfl) rfl rfl rfl ?_; clear ha a; intro a ha
      refine sv ha (rn_mul ha 64 eta rfl rfl (by omega)) rfl rfl rfl ?_; clear ha a; intro a ha
      refine smake (k := 64 * eta) ha rfl rfl Tryd.underlying22 rfl rfl rfl rfl (show 1 * _ ≤ _ by omega) (by omega) rfl ?_
      clear ha a; intro a w44 b45 ha hg hb45 hge45 hlt45
      have hz45 : w0.heap.size ≤ b45 := Nat.le_trans hB.size hge45
      have hq21_45 : b21 < b45 := Nat.lt_of_lt_of_le (lt_of_block hb21) hge45
      replace hB := keepB0 hg hB
      replace hb21 := keepO0 hg hb21
      clear hg hge45 hlt45
      rw [show (List.replicate (64 * eta) (Value.int .u8 0)) = (List.replicate (64 * eta) (0 : UInt8)).map e8 by rw [List.map_replicate]; rfl] at hb45
      refine sv ha (r_assign ha rfl) rfl rfl rfl ?_; clear ha a; intro a ha
      refine hK43 _ _ ?_; clear hK43 K42
      refine wp_seq_k fun K46 hK47 => ?_
      refine wp_seq_k fun K48 hK49 => ?_
      refine region ?_
      refine sv ha (r_assign ha rfl) rfl rfl rfl ?_; clear ha a; intro a ha
      refine hK49 _ _ ?_; clear hK49 K48
      refine wp_block ?_
      refine loopG (fun (j : Nat) a w => (j ≤ (64 * eta)) ∧ Has 94 [(0, en eta), (1, v), (2, e8 n), (15, .bool true), (7, .bool true), (16, .bool true), (17, .bool false), (18, v), (19, en seed.length), (20, .bool (decide (seed.length > 500))), (22, en eta), (23, v), (24, e8 n), (25, .tuple #[.agg ((noA eta (prfB (eta : Int) seed n) 256).map ei).toArray, en 0]), (21, .tuple #[.agg ((noA eta (prfB (eta : Int) seed n) 256).map ei).toArray, en 0]), (26, .agg ((noA eta (prfB (eta : Int) seed n) 256).map ei).toArray), (27, en 0), (8, .pointer (some ⟨b21, 0, none⟩)), (9, en 0), (28, en eta), (29, .bool false), (30, .bool false), (31, en eta), (32, .bool false), (33, .bool false), (10, en 256), (36, en 256), (37, .bool (decide (256 < 256))), (65, en eta), (66, en (64 * eta)), (67, .slice (some ⟨b45, 0, none⟩) (64 * eta) (64 * eta)), (11, .slice (some ⟨b45, 0, none⟩) (64 * eta) (64 * eta)), (12, en j)] a ∧ Below w0.heap.size w0 w ∧ w.heap[b21]? = some (.cells ((noA eta (prfB (eta : Int) seed n) 256).map ei).toArray 25 (0, 0)) ∧ w.heap[b45]? = some (.cells ((ffA (64 * eta) j).map e8).toArray 5 (0, 0))) (fun j => (64 * eta) - j) 0 ⟨(by omega), ha.to [0, 1, 2, 15, 7, 16, 17, 18, 19, 20, 22, 23, 24, 25, 21, 26, 27, 8, 9, 28, 29, 30, 31, 32, 33, 10, 36, 37, 65, 66, 67, 11, 12] rfl, hB, hb21, hb45⟩ ?_
      clear ha a hB hb21 hb45
      intro j a w50 ⟨hkj, ha, hB, hb21, hb45⟩
      refine wp_seq_k fun K51 hK52 => ?_
      refine wp_seq_k fun K53 hK54 => ?_
      refine region ?_
      refine sv ha (r_move ha rfl) rfl rfl rfl ?_; clear ha a; intro a ha
      refine sv ha (r_move ha rfl) rfl rfl rfl ?_; clear ha a; intro a ha
      refine sv ha (r_lenB ha Tryd.runUnderlying22 rfl) rfl rfl rfl ?_; clear ha a; intro a ha
      refine sv ha (r_lss ha ((j : Nat) : Int) ((64 * eta : Nat) : Int) (decide (j < 64 * eta)) rfl rfl (decide_eq_decide.2 (by omega))) rfl rfl rfl ?_; clear ha a; intro a ha
      refine hK54 _ _ ?_; clear hK54 K53
      refine cond_if ha rfl (fun hc55 => ?_) (fun hc55 => ?_)
      · skip
        replace hc55 := of_decide_eq_true hc55
        refine wp_skip ?_
        refine hK52 _ _ ?_; clear hK52 K51
        refine wp_seq_k fun K56 hK57 => ?_
        refine wp_block ?_
        refine region ?_
        refine sv ha (r_move ha rfl) rfl rfl rfl ?_; clear ha a; intro a ha
        refine sv ha (r_move ha rfl) rfl rfl rfl ?_; clear ha a; intro a ha
        refine sv ha (r_indexB ha j Tryd.runUnderlying22 Tryd.sizeOf5 rfl rfl (by omega)) rfl rfl rfl ?_; clear ha a; intro a ha
        refine sstore ha (v := e8 (255 : UInt8)) rfl rfl rfl rfl Tryd.sizeOf5 hb45 (by rw [List.length_map, ffA_len]; omega) ?_
        clear ha a; intro a w58 ha hg hb45'
        rw [set_map] at hb45'
        clear hb45; have hb45 := hb45'; clear hb45'
        replace hB := keepB1 hg (by omega) hB
        replace hb21 := keepO1 hg (by omega) hb21
        clear hg
        refine hK57 _ _ ?_; clear hK57 K56
        refine region ?_
        refine sv ha (r_move ha rfl) rfl rfl rfl ?_; clear ha a; intro a ha
        refine sv ha (rn_add ha j 1 rfl rfl (by omega)) rfl rfl rfl ?_; clear ha a; intro a ha
        refine sv ha (r_assign ha rfl) rfl rfl rfl ?_; clear ha a; intro a ha
        exact ⟨j + 1, by omega, (by omega), ha.to [0, 1, 2, 15, 7, 16, 17, 18, 19, 20, 22, 23, 24, 25, 21, 26, 27, 8, 9, 28, 29, 30, 31, 32, 33, 10, 36, 37, 65, 66, 67, 11, 12] rfl, hB, hb21, hb45⟩
      · skip
        replace hc55 := of_decide_eq_false hc55
        refine wp_exit ?_
        obtain rfl : j = (64 * eta) := by omega
        refine hK47 _ _ ?_; clear hK52 K51 hK47 K46
        refine wp_seq_k fun K59 hK60 => ?_
        refine region ?_
        refine sv ha (r_move ha rfl) rfl rfl rfl ?_; clear ha a; intro a ha
        refine sv ha (r_move ha rfl) rfl rfl rfl ?_; clear ha a; intro a ha
        refine sc ha (r_call ha [en eta, (.slice (some ⟨b45, 0, none⟩) (64 * eta) (64 * eta))] rfl Tryd.call14) rfl rfl rfl (c_noise1 eta (.slice (some ⟨b45, 0, none⟩) (64 * eta) (64 * eta)) (ffA (64 * eta) (64 * eta)) _ (by omega) (Sl.ofBlockM hb45 (by rw [ffA_len]) (Nat.le_refl _)) (ffA_len _ _)) ?_
        clear ha a
        rintro e w61 ⟨rfl, hBc⟩
        have hg := grown_call hBc; clear hBc
        replace hB := keepB0 hg hB
        replace hb21 := keepO0 hg hb21
        replace hb45 := keepO0 hg hb45
        clear hg
        refine ⟨_, rfl, ?_⟩; intro a ha
        refine sv ha (r_move ha rfl) rfl rfl rfl ?_; clear ha a; intro a ha
        refine sv ha (r_extract ha (vs := #[.agg ((noA eta (ffA (64 * eta) (64 * eta)) 256).map ei).toArray, en 0]) rfl rfl) rfl rfl rfl ?_; clear ha a; intro a ha
        refine sv ha (r_extract ha (vs := #[.agg ((noA eta (ffA (64 * eta) (64 * eta)) 256).map ei).toArray, en 0]) rfl rfl) rfl rfl rfl ?_; clear ha a; intro a ha
        refine salloc ha zero_25L3 rfl ?_
        clear ha a; intro a w62 b63 ha hg hb63 hge63 hlt63
        have hz63 : w0.heap.size ≤ b63 := Nat.le_trans hB.size hge63
        have hq21_63 : b21 < b63 := Nat.lt_of_lt_of_le (lt_of_block hb21) hge63
        have hq45_63 : b45 < b63 := Nat.lt_of_lt_of_le (lt_of_block hb45) hge63
        replace hB := keepB0 hg hB
        replace hb21 := keepO0 hg hb21
        replace hb45 := keepO0 hg hb45
        clear hg hge63 hlt63
        refine sstoreW ha rfl rfl (one_ei _) Tryd.sizeOf25 (by rw [List.length_map, noA_len]) hb63 (by rw [List.length_map, List.length_replicate]) ?_
        clear ha a; intro a w64 ha hg hb63'
        clear hb63; have hb63 := hb63'; clear hb63'
        replace hB := keepB1 hg (by omega) hB
        replace hb21 := keepO1 hg (by omega) hb21
        replace hb45 := keepO1 hg (by omega) hb45
        clear hg
        refine sv ha (r_assign ha rfl) rfl rfl rfl ?_; clear ha a; intro a ha
        refine hK60 _ _ ?_; clear hK60 K59
        refine wp_seq_k fun K65 hK66 => ?_
        refine region ?_
        refine sv ha (r_move ha rfl) rfl rfl rfl ?_; clear ha a; intro a ha
        refine sv ha (r_eql ha ((0 : Nat) : Int) 0 true rfl rfl (decide_eq_true (by omega))) rfl rfl rfl ?_; clear ha a; intro a ha
        refine sv ha (r_move ha rfl) rfl rfl rfl ?_; clear ha a; intro a ha
        refine svg ha (r_move ha rfl) rfl rfl rfl rfl rfl ?_; clear ha a; intro a ha
        refine svg ha (r_eql ha ((0 : Nat) : Int) 0 true rfl rfl (decide_eq_true (by omega))) rfl rfl rfl rfl rfl ?_; clear ha a; intro a ha
        refine sv ha (r_pick ha true rfl rfl) rfl rfl rfl ?_; clear ha a; intro a ha
        refine sv ha (r_move ha rfl) rfl rfl rfl ?_; clear ha a; intro a ha
        refine svg ha (r_loadR ha rfl Tryd.isAgg25 Tryd.sizeOf25 (C := (noA eta (ffA (64 * eta) (64 * eta)) 256).map ei) (by rw [List.length_map, noA_len]) (cells_all hb63)) rfl rfl rfl rfl rfl ?_; clear ha a; intro a ha
        refine svg ha (r_build0 zero_24L3 Tryd.runUnderlying24 Tryd.sizeOf3) rfl rfl rfl rfl rfl ?_; clear ha a; intro a ha
        refine svg ha (r_eqA (f := (fun z : Int => z)) (fun x y h => h) (noA eta (ffA (64 * eta) (64 * eta)) 256) (List.replicate 256 (0 : Int)) ha rfl rfl (by rw [noA_len]) (by rw [List.length_replicate]) Tryd.eqGuardType25 Tryd.runUnderlying25 Tryd.sizeOf3 Tryd.underlying3 Tryd.isAgg3 true (decide_eq_true (noA_full eta he))) rfl rfl rfl rfl rfl ?_; clear ha a; intro a ha
        refine sv ha (r_pick ha true rfl rfl) rfl rfl rfl ?_; clear ha a; intro a ha
        refine sv ha (r_assign ha rfl) rfl rfl rfl ?_; clear ha a; intro a ha
        refine hK66 _ _ ?_; clear hK66 K65
        refine wp_ret ?_
        repeat (first | (with_reducible refine t_ret ?_) | (with_reducible refine x_ret ?_))
        exact ret1 ha Tryd.results9 rfl ⟨rfl, hB⟩

theorem law_SampleSmall (eta : Int) (v : Value) (seed : List UInt8) (n : UInt8) (w0 : World) (hs : Sl w0 v (seed.map e8)) (hG : Glob w0) :
    Calls Tryd.prog 9 #[ei eta, v, e8 n] w0 fun e w' => e = .returned (.bool true) ∧ Below w0.heap.size w0 w' := by
  by_cases h : 1 ≤ eta ∧ eta ≤ 3
  · obtain ⟨k, rfl⟩ := Int.eq_ofNat_of_zero_le (show 0 ≤ eta by omega)
    exact law_SampleSmallA k v seed n w0 (by omega) hs hG
  · exact law_SampleSmallN eta v seed n w0 h hs hG
end Go.Proofs.YtaignhikdfpbbaaDoor
