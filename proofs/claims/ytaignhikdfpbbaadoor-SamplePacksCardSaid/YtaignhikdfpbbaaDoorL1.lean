/- WALKS written by gen.py (own program) out of specs. -/
import Derived.Test.YtaignhikdfpbbaaDoorS4
import Derived.Test.YtaignhikdfpbbaaDoorS2
import Derived.Test.YtaignhikdfpbbaaDoorLw
namespace Go.Proofs.YtaignhikdfpbbaaDoor
open Go.RowKit Go.Rx
set_option maxRecDepth 100000
set_option maxHeartbeats 4000000
set_option linter.unusedVariables false
set_option linter.unusedSimpArgs false

theorem zero_25L1 : ∀ w, (zeroValue 25).run Tryd.prog w = .ok (.agg ((List.replicate 256 (0 : Int)).map ei).toArray) w := fun _ => by kernel_rfl
theorem zero_24L1 : ∀ w, (zeroValue 24).run Tryd.prog w = .ok (.agg ((List.replicate 256 (0 : Int)).map ei).toArray) w := fun _ => by kernel_rfl
theorem c_awake12  (w0 : World) (hG : Glob w0) :
    Calls Tryd.prog 11 #[] w0 fun e w' => e = .returned (.bool true) ∧ Below w0.heap.size w0 w' := by
  refine enter (args := []) Tryd.func11 rfl Tryd.ntmps11 rfl ?_
  intro a ha
  have hB := Below.refl w0.heap.size w0
  refine wp_seq_k fun K1 hK2 => ?_
  refine region ?_
  refine sv ha (r_assign ha rfl) rfl rfl rfl ?_; clear ha a; intro a ha
  refine hK2 _ _ ?_; clear hK2 K1
  refine wp_seq_k fun K3 hK4 => ?_
  refine region ?_
  refine smake (k := 128) ha rfl rfl Tryd.underlying22 rfl rfl rfl rfl (show 1 * _ ≤ _ by omega) (by omega) rfl ?_
  clear ha a; intro a w5 b6 ha hg hb6 hge6 hlt6
  have hz6 : w0.heap.size ≤ b6 := Nat.le_trans hB.size hge6
  replace hB := keepB0 hg hB
  clear hg hge6 hlt6
  rw [show (List.replicate 128 (Value.int .u8 0)) = (List.replicate 128 (0 : UInt8)).map e8 by rw [List.map_replicate]; rfl] at hb6
  refine sv ha (r_assign ha rfl) rfl rfl rfl ?_; clear ha a; intro a ha
  refine hK4 _ _ ?_; clear hK4 K3
  refine wp_seq_k fun K7 hK8 => ?_
  refine wp_seq_k fun K9 hK10 => ?_
  refine region ?_
  refine sv ha (r_assign ha rfl) rfl rfl rfl ?_; clear ha a; intro a ha
  refine hK10 _ _ ?_; clear hK10 K9
  refine wp_block ?_
  refine loopG (fun (i : Nat) a w => (i ≤ 128) ∧ Has 108 [(0, .bool false), (12, .slice (some ⟨b6, 0, none⟩) 128 128), (1, .slice (some ⟨b6, 0, none⟩) 128 128), (2, en i)] a ∧ Below w0.heap.size w0 w ∧ w.heap[b6]? = some (.cells ((thrA i).map e8).toArray 5 (0, 0))) (fun i => 128 - i) 0 ⟨(by omega), ha.to [0, 12, 1, 2] rfl, hB, hb6⟩ ?_
  clear ha a hB hb6
  intro i a w11 ⟨hki, ha, hB, hb6⟩
  refine wp_seq_k fun K12 hK13 => ?_
  refine wp_seq_k fun K14 hK15 => ?_
  refine region ?_
  refine sv ha (r_move ha rfl) rfl rfl rfl ?_; clear ha a; intro a ha
  refine sv ha (r_lss ha ((i : Nat) : Int) 128 (decide (i < 128)) rfl rfl (decide_eq_decide.2 (by omega))) rfl rfl rfl ?_; clear ha a; intro a ha
  refine hK15 _ _ ?_; clear hK15 K14
  refine cond_if ha rfl (fun hc16 => ?_) (fun hc16 => ?_)
  · skip
    replace hc16 := of_decide_eq_true hc16
    refine wp_skip ?_
    refine hK13 _ _ ?_; clear hK13 K12
    refine wp_seq_k fun K17 hK18 => ?_
    refine wp_block ?_
    refine region ?_
    refine sv ha (r_move ha rfl) rfl rfl rfl ?_; clear ha a; intro a ha
    refine sv ha (r_move ha rfl) rfl rfl rfl ?_; clear ha a; intro a ha
    refine sv ha (r_indexB ha i Tryd.runUnderlying22 Tryd.sizeOf5 rfl rfl (by omega)) rfl rfl rfl ?_; clear ha a; intro a ha
    refine sstore ha (v := e8 (3 : UInt8)) rfl rfl rfl rfl Tryd.sizeOf5 hb6 (by rw [List.length_map, thrA_len]; omega) ?_
    clear ha a; intro a w19 ha hg hb6'
    rw [set_map] at hb6'
    clear hb6; have hb6 := hb6'; clear hb6'
    replace hB := keepB1 hg (by omega) hB
    clear hg
    refine hK18 _ _ ?_; clear hK18 K17
    refine region ?_
    refine sv ha (r_move ha rfl) rfl rfl rfl ?_; clear ha a; intro a ha
    refine sv ha (rn_add ha i 1 rfl rfl (by omega)) rfl rfl rfl ?_; clear ha a; intro a ha
    refine sv ha (r_assign ha rfl) rfl rfl rfl ?_; clear ha a; intro a ha
    exact ⟨i + 1, by omega, (by omega), ha.to [0, 12, 1, 2] rfl, hB, hb6⟩
  · skip
    replace hc16 := of_decide_eq_false hc16
    refine wp_exit ?_
    obtain rfl : i = 128 := by omega
    refine hK8 _ _ ?_; clear hK13 K12 hK8 K7
    refine wp_seq_k fun K20 hK21 => ?_
    refine region ?_
    refine sv ha (r_move ha rfl) rfl rfl rfl ?_; clear ha a; intro a ha
    refine sc ha (r_call ha [en 2, (.slice (some ⟨b6, 0, none⟩) 128 128)] rfl Tryd.call14) rfl rfl rfl (c_noise1 2 (.slice (some ⟨b6, 0, none⟩) 128 128) (thrA 128) _ (by omega) (Sl.ofBlockM hb6 (by rw [thrA_len]) (Nat.le_refl _)) (by rw [thrA_len])) ?_
    clear ha a
    rintro e w22 ⟨rfl, hBc⟩
    have hg := grown_call hBc; clear hBc
    replace hB := keepB0 hg hB
    replace hb6 := keepO0 hg hb6
    clear hg
    refine ⟨_, rfl, ?_⟩; intro a ha
    refine sv ha (r_move ha rfl) rfl rfl rfl ?_; clear ha a; intro a ha
    refine sv ha (r_extract ha (vs := #[.agg ((noA 2 (thrA 128) 256).map ei).toArray, en 0]) rfl rfl) rfl rfl rfl ?_; clear ha a; intro a ha
    refine sv ha (r_extract ha (vs := #[.agg ((noA 2 (thrA 128) 256).map ei).toArray, en 0]) rfl rfl) rfl rfl rfl ?_; clear ha a; intro a ha
    refine salloc ha zero_25L1 rfl ?_
    clear ha a; intro a w23 b24 ha hg hb24 hge24 hlt24
    have hz24 : w0.heap.size ≤ b24 := Nat.le_trans hB.size hge24
    have hq6_24 : b6 < b24 := Nat.lt_of_lt_of_le (lt_of_block hb6) hge24
    replace hB := keepB0 hg hB
    replace hb6 := keepO0 hg hb6
    clear hg hge24 hlt24
    refine sstoreW ha rfl rfl (one_ei _) Tryd.sizeOf25 (by rw [List.length_map, noA_len]) hb24 (by rw [List.length_map, List.length_replicate]) ?_
    clear ha a; intro a w25 ha hg hb24'
    clear hb24; have hb24 := hb24'; clear hb24'
    replace hB := keepB1 hg (by omega) hB
    replace hb6 := keepO1 hg (by omega) hb6
    clear hg
    refine sv ha (r_assign ha rfl) rfl rfl rfl ?_; clear ha a; intro a ha
    refine hK21 _ _ ?_; clear hK21 K20
    refine wp_seq_k fun K26 hK27 => ?_
    refine region ?_
    refine sv ha (r_move ha rfl) rfl rfl rfl ?_; clear ha a; intro a ha
    refine sv ha (r_reslB (hi := 32) ha Tryd.runUnderlying22 Tryd.sizeOf5 rfl rfl (by omega)) rfl rfl rfl ?_; clear ha a; intro a ha
    refine sc ha (r_call ha [en 1, (.slice (some ⟨b6, 0, none⟩) 32 128)] rfl Tryd.call18) rfl rfl rfl (c_unpack1 1 (.slice (some ⟨b6, 0, none⟩) 32 128) ((thrA 128).take 32) _ (by omega) (Sl.ofBlockP (R := []) (l := thrA 128) (m := (thrA 128).take 32) (by rw [List.append_nil]; exact hb6) (by rw [List.length_take, thrA_len]; omega) rfl (by omega)) (by rw [List.length_take, thrA_len]; rfl)) ?_
    clear ha a
    rintro e w28 ⟨rfl, hBc⟩
    have hg := grown_call hBc; clear hBc
    replace hB := keepB0 hg hB
    replace hb6 := keepO0 hg hb6
    replace hb24 := keepO0 hg hb24
    clear hg
    refine ⟨_, rfl, ?_⟩; intro a ha
    refine sv ha (r_move ha rfl) rfl rfl rfl ?_; clear ha a; intro a ha
    refine sv ha (r_extract ha (vs := #[.agg ((unA 1 ((thrA 128).take 32) 256).map ei).toArray, en 0]) rfl rfl) rfl rfl rfl ?_; clear ha a; intro a ha
    refine sv ha (r_extract ha (vs := #[.agg ((unA 1 ((thrA 128).take 32) 256).map ei).toArray, en 0]) rfl rfl) rfl rfl rfl ?_; clear ha a; intro a ha
    refine salloc ha zero_25L1 rfl ?_
    clear ha a; intro a w29 b30 ha hg hb30 hge30 hlt30
    have hz30 : w0.heap.size ≤ b30 := Nat.le_trans hB.size hge30
    have hq6_30 : b6 < b30 := Nat.lt_of_lt_of_le (lt_of_block hb6) hge30
    have hq24_30 : b24 < b30 := Nat.lt_of_lt_of_le (lt_of_block hb24) hge30
    replace hB := keepB0 hg hB
    replace hb6 := keepO0 hg hb6
    replace hb24 := keepO0 hg hb24
    clear hg hge30 hlt30
    refine sstoreW ha rfl rfl (one_ei _) Tryd.sizeOf25 (by rw [List.length_map, unA_len]) hb30 (by rw [List.length_map, List.length_replicate]) ?_
    clear ha a; intro a w31 ha hg hb30'
    clear hb30; have hb30 := hb30'; clear hb30'
    replace hB := keepB1 hg (by omega) hB
    replace hb6 := keepO1 hg (by omega) hb6
    replace hb24 := keepO1 hg (by omega) hb24
    clear hg
    refine sv ha (r_assign ha rfl) rfl rfl rfl ?_; clear ha a; intro a ha
    refine hK27 _ _ ?_; clear hK27 K26
    refine wp_seq_k fun K32 hK33 => ?_
    refine region ?_
    refine sv ha (r_move ha rfl) rfl rfl rfl ?_; clear ha a; intro a ha
    refine sc ha (r_call ha [ei 13, (.slice (some ⟨b6, 0, none⟩) 128 128)] rfl Tryd.call18) rfl rfl rfl (c_unpack0 13 (.slice (some ⟨b6, 0, none⟩) 128 128) (thrA 128) _ (Sl.ofBlockM hb6 (by rw [thrA_len]) (Nat.le_refl _)) (by omega)) ?_
    clear ha a
    rintro e w34 ⟨rfl, hBc⟩
    have hg := grown_call hBc; clear hBc
    replace hB := keepB0 hg hB
    replace hb6 := keepO0 hg hb6
    replace hb24 := keepO0 hg hb24
    replace hb30 := keepO0 hg hb30
    clear hg
    refine ⟨_, rfl, ?_⟩; intro a ha
    refine sv ha (r_move ha rfl) rfl rfl rfl ?_; clear ha a; intro a ha
    refine sv ha (r_extract ha (vs := #[.agg ((zero256).map ei).toArray, en 1]) rfl rfl) rfl rfl rfl ?_; clear ha a; intro a ha
    refine sv ha (r_extract ha (vs := #[.agg ((zero256).map ei).toArray, en 1]) rfl rfl) rfl rfl rfl ?_; clear ha a; intro a ha
    refine salloc ha zero_25L1 rfl ?_
    clear ha a; intro a w35 b36 ha hg hb36 hge36 hlt36
    have hz36 : w0.heap.size ≤ b36 := Nat.le_trans hB.size hge36
    have hq6_36 : b6 < b36 := Nat.lt_of_lt_of_le (lt_of_block hb6) hge36
    have hq24_36 : b24 < b36 := Nat.lt_of_lt_of_le (lt_of_block hb24) hge36
    have hq30_36 : b30 < b36 := Nat.lt_of_lt_of_le (lt_of_block hb30) hge36
    replace hB := keepB0 hg hB
    replace hb6 := keepO0 hg hb6
    replace hb24 := keepO0 hg hb24
    replace hb30 := keepO0 hg hb30
    clear hg hge36 hlt36
    refine sstoreW ha rfl rfl (one_ei _) Tryd.sizeOf25 (by rw [List.length_map, List.length_replicate]) hb36 (by rw [List.length_map, List.length_replicate]) ?_
    clear ha a; intro a w37 ha hg hb36'
    clear hb36; have hb36 := hb36'; clear hb36'
    replace hB := keepB1 hg (by omega) hB
    replace hb6 := keepO1 hg (by omega) hb6
    replace hb24 := keepO1 hg (by omega) hb24
    replace hb30 := keepO1 hg (by omega) hb30
    clear hg
    refine sv ha (r_assign ha rfl) rfl rfl rfl ?_; clear ha a; intro a ha
    refine hK33 _ _ ?_; clear hK33 K32
    refine wp_seq_k fun K38 hK39 => ?_
    refine region ?_
    refine sc ha (r_call ha [(.slice none 0 0)] rfl Tryd.call12) rfl rfl rfl (c_uniform (.slice none 0 0) ([] : List UInt8) _ (Sl.nil _) (glob_keep hG hB)) ?_
    clear ha a
    rintro e w40 ⟨rfl, hBc⟩
    have hg := grown_call hBc; clear hBc
    replace hB := keepB0 hg hB
    replace hb6 := keepO0 hg hb6
    replace hb24 := keepO0 hg hb24
    replace hb30 := keepO0 hg hb30
    replace hb36 := keepO0 hg hb36
    clear hg
    refine ⟨_, rfl, ?_⟩; intro a ha
    refine salloc ha zero_25L1 rfl ?_
    clear ha a; intro a w41 b42 ha hg hb42 hge42 hlt42
    have hz42 : w0.heap.size ≤ b42 := Nat.le_trans hB.size hge42
    have hq6_42 : b6 < b42 := Nat.lt_of_lt_of_le (lt_of_block hb6) hge42
    have hq24_42 : b24 < b42 := Nat.lt_of_lt_of_le (lt_of_block hb24) hge42
    have hq30_42 : b30 < b42 := Nat.lt_of_lt_of_le (lt_of_block hb30) hge42
    have hq36_42 : b36 < b42 := Nat.lt_of_lt_of_le (lt_of_block hb36) hge42
    replace hB := keepB0 hg hB
    replace hb6 := keepO0 hg hb6
    replace hb24 := keepO0 hg hb24
    replace hb30 := keepO0 hg hb30
    replace hb36 := keepO0 hg hb36
    clear hg hge42 hlt42
    refine sstoreW ha rfl rfl (one_ei _) Tryd.sizeOf25 (by rw [List.length_map, uni_len]) hb42 (by rw [List.length_map, List.length_replicate]) ?_
    clear ha a; intro a w43 ha hg hb42'
    clear hb42; have hb42 := hb42'; clear hb42'
    replace hB := keepB1 hg (by omega) hB
    replace hb6 := keepO1 hg (by omega) hb6
    replace hb24 := keepO1 hg (by omega) hb24
    replace hb30 := keepO1 hg (by omega) hb30
    replace hb36 := keepO1 hg (by omega) hb36
    clear hg
    refine hK39 _ _ ?_; clear hK39 K38
    refine wp_seq_k fun K44 hK45 => ?_
    refine region ?_
    refine sc ha (r_call ha [en 2, (.slice none 0 0), e8 (1 : UInt8)] rfl Tryd.call16) rfl rfl rfl (c_prf1 2 (.slice none 0 0) ([] : List UInt8) (1 : UInt8) _ (by omega) (Sl.nil _) (Nat.zero_le _) (glob_keep hG hB)) ?_
    clear ha a
    rintro e w46 ⟨rfl, hBc⟩
    have hg := grown_call hBc; clear hBc
    replace hB := keepB0 hg hB
    replace hb6 := keepO0 hg hb6
    replace hb24 := keepO0 hg hb24
    replace hb30 := keepO0 hg hb30
    replace hb36 := keepO0 hg hb36
    replace hb42 := keepO0 hg hb42
    clear hg
    refine ⟨_, rfl, ?_⟩; intro a ha
    refine sv ha (r_move ha rfl) rfl rfl rfl ?_; clear ha a; intro a ha
    refine sv ha (r_extract ha (vs := #[.agg ((noA 2 (prfB (2 : Int) ([] : List UInt8) (1 : UInt8)) 256).map ei).toArray, en 0]) rfl rfl) rfl rfl rfl ?_; clear ha a; intro a ha
    refine sv ha (r_extract ha (vs := #[.agg ((noA 2 (prfB (2 : Int) ([] : List UInt8) (1 : UInt8)) 256).map ei).toArray, en 0]) rfl rfl) rfl rfl rfl ?_; clear ha a; intro a ha
    refine salloc ha zero_25L1 rfl ?_
    clear ha a; intro a w47 b48 ha hg hb48 hge48 hlt48
    have hz48 : w0.heap.size ≤ b48 := Nat.le_trans hB.size hge48
    have hq6_48 : b6 < b48 := Nat.lt_of_lt_of_le (lt_of_block hb6) hge48
    have hq24_48 : b24 < b48 := Nat.lt_of_lt_of_le (lt_of_block hb24) hge48
    have hq30_48 : b30 < b48 := Nat.lt_of_lt_of_le (lt_of_block hb30) hge48
    have hq36_48 : b36 < b48 := Nat.lt_of_lt_of_le (lt_of_block hb36) hge48
    have hq42_48 : b42 < b48 := Nat.lt_of_lt_of_le (lt_of_block hb42) hge48
    replace hB := keepB0 hg hB
    replace hb6 := keepO0 hg hb6
    replace hb24 := keepO0 hg hb24
    replace hb30 := keepO0 hg hb30
    replace hb36 := keepO0 hg hb36
    replace hb42 := keepO0 hg hb42
    clear hg hge48 hlt48
    refine sstoreW ha rfl rfl (one_ei _) Tryd.sizeOf25 (by rw [List.length_map, noA_len]) hb48 (by rw [List.length_map, List.length_replicate]) ?_
    clear ha a; intro a w49 ha hg hb48'
    clear hb48; have hb48 := hb48'; clear hb48'
    replace hB := keepB1 hg (by omega) hB
    replace hb6 := keepO1 hg (by omega) hb6
    replace hb24 := keepO1 hg (by omega) hb24
    replace hb30 := keepO1 hg (by omega) hb30
    replace hb36 := keepO1 hg (by omega) hb36
    replace hb42 := keepO1 hg (by omega) hb42
    clear hg
    refine sv ha (r_assign ha rfl) rfl rfl rfl ?_; clear ha a; intro a ha
    refine hK45 _ _ ?_; clear hK45 K44
    refine wp_seq_k fun K50 hK51 => ?_
    refine region ?_
    refine sv ha (r_move ha rfl) rfl rfl rfl ?_; clear ha a; intro a ha
    refine sv ha (r_eql ha ((0 : Nat) : Int) 0 true rfl rfl (decide_eq_true (by omega))) rfl rfl rfl ?_; clear ha a; intro a ha
    refine sv ha (r_move ha rfl) rfl rfl rfl ?_; clear ha a; intro a ha
    refine svg ha (r_indexArr (i := 0) ha 0 Tryd.runUnderlying25 Tryd.sizeOf3 rfl rfl (by omega) (by omega)) rfl rfl rfl rfl rfl ?_; clear ha a; intro a ha
    refine svg ha (r_load ha rfl Tryd.isAgg3 (cell_of hb24 (get_map ei (noA 2 (thrA 128) 256) 0 0 (by rw [noA_len]; omega)))) rfl rfl rfl rfl rfl ?_; clear ha a; intro a ha
    refine svg ha (r_eql ha ((noA 2 (thrA 128) 256).getD 0 0) 2 true rfl rfl (decide_eq_true aw12_p0)) rfl rfl rfl rfl rfl ?_; clear ha a; intro a ha
    refine sv ha (r_pick ha true rfl rfl) rfl rfl rfl ?_; clear ha a; intro a ha
    refine sv ha (r_move ha rfl) rfl rfl rfl ?_; clear ha a; intro a ha
    refine svg ha (r_indexArr (i := 1) ha 1 Tryd.runUnderlying25 Tryd.sizeOf3 rfl rfl (by omega) (by omega)) rfl rfl rfl rfl rfl ?_; clear ha a; intro a ha
    refine svg ha (r_load ha rfl Tryd.isAgg3 (cell_of hb24 (get_map ei (noA 2 (thrA 128) 256) 0 1 (by rw [noA_len]; omega)))) rfl rfl rfl rfl rfl ?_; clear ha a; intro a ha
    refine svg ha (r_eql ha ((noA 2 (thrA 128) 256).getD 1 0) 0 true rfl rfl (decide_eq_true aw12_p1)) rfl rfl rfl rfl rfl ?_; clear ha a; intro a ha
    refine sv ha (r_pick ha true rfl rfl) rfl rfl rfl ?_; clear ha a; intro a ha
    refine sv ha (r_move ha rfl) rfl rfl rfl ?_; clear ha a; intro a ha
    refine svg ha (r_move ha rfl) rfl rfl rfl rfl rfl ?_; clear ha a; intro a ha
    refine svg ha (r_eql ha ((0 : Nat) : Int) 0 true rfl rfl (decide_eq_true (by omega))) rfl rfl rfl rfl rfl ?_; clear ha a; intro a ha
    refine sv ha (r_pick ha true rfl rfl) rfl rfl rfl ?_; clear ha a; intro a ha
    refine sv ha (r_move ha rfl) rfl rfl rfl ?_; clear ha a; intro a ha
    refine svg ha (r_indexArr (i := 0) ha 0 Tryd.runUnderlying25 Tryd.sizeOf3 rfl rfl (by omega) (by omega)) rfl rfl rfl rfl rfl ?_; clear ha a; intro a ha
    refine svg ha (r_load ha rfl Tryd.isAgg3 (cell_of hb30 (get_map ei (unA 1 ((thrA 128).take 32) 256) 0 0 (by rw [unA_len]; omega)))) rfl rfl rfl rfl rfl ?_; clear ha a; intro a ha
    refine svg ha (r_eql ha ((unA 1 ((thrA 128).take 32) 256).getD 0 0) 1 true rfl rfl (decide_eq_true aw12_q0)) rfl rfl rfl rfl rfl ?_; clear ha a; intro a ha
    refine sv ha (r_pick ha true rfl rfl) rfl rfl rfl ?_; clear ha a; intro a ha
    refine sv ha (r_move ha rfl) rfl rfl rfl ?_; clear ha a; intro a ha
    refine svg ha (r_indexArr (i := 1) ha 1 Tryd.runUnderlying25 Tryd.sizeOf3 rfl rfl (by omega) (by omega)) rfl rfl rfl rfl rfl ?_; clear ha a; intro a ha
    refine svg ha (r_load ha rfl Tryd.isAgg3 (cell_of hb30 (get_map ei (unA 1 ((thrA 128).take 32) 256) 0 1 (by rw [unA_len]; omega)))) rfl rfl rfl rfl rfl ?_; clear ha a; intro a ha
    refine svg ha (r_eql ha ((unA 1 ((thrA 128).take 32) 256).getD 1 0) 1 true rfl rfl (decide_eq_true aw12_q1)) rfl rfl rfl rfl rfl ?_; clear ha a; intro a ha
    refine sv ha (r_pick ha true rfl rfl) rfl rfl rfl ?_; clear ha a; intro a ha
    refine sv ha (r_move ha rfl) rfl rfl rfl ?_; clear ha a; intro a ha
    refine svg ha (r_indexArr (i := 2) ha 2 Tryd.runUnderlying25 Tryd.sizeOf3 rfl rfl (by omega) (by omega)) rfl rfl rfl rfl rfl ?_; clear ha a; intro a ha
    refine svg ha (r_load ha rfl Tryd.isAgg3 (cell_of hb30 (get_map ei (unA 1 ((thrA 128).take 32) 256) 0 2 (by rw [unA_len]; omega)))) rfl rfl rfl rfl rfl ?_; clear ha a; intro a ha
    refine svg ha (r_eql ha ((unA 1 ((thrA 128).take 32) 256).getD 2 0) 0 true rfl rfl (decide_eq_true aw12_q2)) rfl rfl rfl rfl rfl ?_; clear ha a; intro a ha
    refine sv ha (r_pick ha true rfl rfl) rfl rfl rfl ?_; clear ha a; intro a ha
    refine sv ha (r_move ha rfl) rfl rfl rfl ?_; clear ha a; intro a ha
    refine svg ha (r_move ha rfl) rfl rfl rfl rfl rfl ?_; clear ha a; intro a ha
    refine svg ha (r_eql ha ((1 : Nat) : Int) 1 true rfl rfl (decide_eq_true (by omega))) rfl rfl rfl rfl rfl ?_; clear ha a; intro a ha
    refine sv ha (r_pick ha true rfl rfl) rfl rfl rfl ?_; clear ha a; intro a ha
    refine sv ha (r_move ha rfl) rfl rfl rfl ?_; clear ha a; intro a ha
    refine svg ha (r_loadR ha rfl Tryd.isAgg25 Tryd.sizeOf25 (C := (noA 2 (thrA 128) 256).map ei) (by rw [List.length_map, noA_len]) (cells_all hb24)) rfl rfl rfl rfl rfl ?_; clear ha a; intro a ha
    refine scg ha (r_call ha [en 4, .agg (((noA 2 (thrA 128) 256)).map ei).toArray] rfl Tryd.call20) rfl rfl rfl rfl rfl (c_pack1 4 (noA 2 (thrA 128) 256) _ (by omega) (by rw [noA_len])) ?_
    clear ha a
    rintro e w52 ⟨u53, rfl, hBc, hs53, hd53⟩
    have hg := grown_call hBc; clear hBc
    have hnb_hs53_b6 : ∀ j, u53.ownBlock = some j → j ≠ b6 := fun j hj => by have h1 := hd53 j hj; have h2 := lt_of_block hb6; omega
    have hnb_hs53_b24 : ∀ j, u53.ownBlock = some j → j ≠ b24 := fun j hj => by have h1 := hd53 j hj; have h2 := lt_of_block hb24; omega
    have hnb_hs53_b30 : ∀ j, u53.ownBlock = some j → j ≠ b30 := fun j hj => by have h1 := hd53 j hj; have h2 := lt_of_block hb30; omega
    have hnb_hs53_b36 : ∀ j, u53.ownBlock = some j → j ≠ b36 := fun j hj => by have h1 := hd53 j hj; have h2 := lt_of_block hb36; omega
    have hnb_hs53_b42 : ∀ j, u53.ownBlock = some j → j ≠ b42 := fun j hj => by have h1 := hd53 j hj; have h2 := lt_of_block hb42; omega
    have hnb_hs53_b48 : ∀ j, u53.ownBlock = some j → j ≠ b48 := fun j hj => by have h1 := hd53 j hj; have h2 := lt_of_block hb48; omega
    replace hd53 : ∀ j, u53.ownBlock = some j → w0.heap.size ≤ j := fun j hj => Nat.le_trans hB.size (hd53 j hj)
    replace hB := keepB0 hg hB
    replace hb6 := keepO0 hg hb6
    replace hb24 := keepO0 hg hb24
    replace hb30 := keepO0 hg hb30
    replace hb36 := keepO0 hg hb36
    replace hb42 := keepO0 hg hb42
    replace hb48 := keepO0 hg hb48
    clear hg
    refine ⟨_, rfl, ?_⟩; intro a ha
    refine svg ha (r_lenS ha Tryd.runUnderlying22 hs53 rfl (by rw [List.length_map])) rfl rfl rfl rfl rfl ?_; clear ha a; intro a ha
    refine svg ha (r_eql ha (((paA 4 (noA 2 (thrA 128) 256) 256).length : Nat) : Int) 128 true rfl rfl (decide_eq_true (by rw [paA_len]; rfl))) rfl rfl rfl rfl rfl ?_; clear ha a; intro a ha
    refine sv ha (r_pick ha true rfl rfl) rfl rfl rfl ?_; clear ha a; intro a ha
    refine sv ha (r_move ha rfl) rfl rfl rfl ?_; clear ha a; intro a ha
    refine svg ha (r_loadR ha rfl Tryd.isAgg25 Tryd.sizeOf25 (C := (uni ([] : List UInt8)).map ei) (by rw [List.length_map, uni_len]) (cells_all hb42)) rfl rfl rfl rfl rfl ?_; clear ha a; intro a ha
    refine svg ha (r_build0 zero_24L1 Tryd.runUnderlying24 Tryd.sizeOf3) rfl rfl rfl rfl rfl ?_; clear ha a; intro a ha
    refine svg ha (r_neA (f := (fun z : Int => z)) (fun x y h => h) (uni ([] : List UInt8)) (List.replicate 256 (0 : Int)) ha rfl rfl (by rw [uni_len]) (by rw [List.length_replicate]) Tryd.eqGuardType25 Tryd.runUnderlying25 Tryd.sizeOf3 Tryd.underlying3 Tryd.isAgg3 true (decide_eq_true aw12_u)) rfl rfl rfl rfl rfl ?_; clear ha a; intro a ha
    refine sv ha (r_pick ha true rfl rfl) rfl rfl rfl ?_; clear ha a; intro a ha
    refine sv ha (r_move ha rfl) rfl rfl rfl ?_; clear ha a; intro a ha
    refine svg ha (r_loadR ha rfl Tryd.isAgg25 Tryd.sizeOf25 (C := (noA 2 (prfB (2 : Int) ([] : List UInt8) (1 : UInt8)) 256).map ei) (by rw [List.length_map, noA_len]) (cells_all hb48)) rfl rfl rfl rfl rfl ?_; clear ha a; intro a ha
    refine svg ha (r_build0 zero_24L1 Tryd.runUnderlying24 Tryd.sizeOf3) rfl rfl rfl rfl rfl ?_; clear ha a; intro a ha
    refine svg ha (r_neA (f := (fun z : Int => z)) (fun x y h => h) (noA 2 (prfB (2 : Int) ([] : List UInt8) (1 : UInt8)) 256) (List.replicate 256 (0 : Int)) ha rfl rfl (by rw [noA_len]) (by rw [List.length_replicate]) Tryd.eqGuardType25 Tryd.runUnderlying25 Tryd.sizeOf3 Tryd.underlying3 Tryd.isAgg3 true (decide_eq_true aw12_x)) rfl rfl rfl rfl rfl ?_; clear ha a; intro a ha
    refine sv ha (r_pick ha true rfl rfl) rfl rfl rfl ?_; clear ha a; intro a ha
    refine sv ha (r_move ha rfl) rfl rfl rfl ?_; clear ha a; intro a ha
    refine svg ha (r_move ha rfl) rfl rfl rfl rfl rfl ?_; clear ha a; intro a ha
    refine svg ha (r_eql ha ((0 : Nat) : Int) 0 true rfl rfl (decide_eq_true (by omega))) rfl rfl rfl rfl rfl ?_; clear ha a; intro a ha
    refine sv ha (r_pick ha true rfl rfl) rfl rfl rfl ?_; clear ha a; intro a ha
    refine sv ha (r_move ha rfl) rfl rfl rfl ?_; clear ha a; intro a ha
    refine svg ha (r_build (Z := (List.replicate 256 (0 : Int)).map ei) (C := (([1665, 0, 0, 0, 0, 0, 0, 0, 0, 0, 0, 0, 0, 0, 0, 0, 0, 0, 0, 0, 0, 0, 0, 0, 0, 0, 0, 0, 0, 0, 0, 0, 0, 0, 0, 0, 0, 0, 0, 0, 0, 0, 0, 0, 0, 0, 0, 0, 0, 0, 0, 0, 0, 0, 0, 0, 0, 0, 0, 0, 0, 0, 0, 0, 0, 0, 0, 0, 0, 0, 0, 0, 0, 0, 0, 0, 0, 0, 0, 0, 0, 0, 0, 0, 0, 0, 0, 0, 0, 0, 0, 0, 0, 0, 0, 0, 0, 0, 0, 0, 0, 0, 0, 0, 0, 0, 0, 0, 0, 0, 0, 0, 0, 0, 0, 0, 0, 0, 0, 0, 0, 0, 0, 0, 0, 0, 0, 0, 0, 0, 0, 0, 0, 0, 0, 0, 0, 0, 0, 0, 0, 0, 0, 0, 0, 0, 0, 0, 0, 0, 0, 0, 0, 0, 0, 0, 0, 0, 0, 0, 0, 0, 0, 0, 0, 0, 0, 0, 0, 0, 0, 0, 0, 0, 0, 0, 0, 0, 0, 0, 0, 0, 0, 0, 0, 0, 0, 0, 0, 0, 0, 0, 0, 0, 0, 0, 0, 0, 0, 0, 0, 0, 0, 0, 0, 0, 0, 0, 0, 0, 0, 0, 0, 0, 0, 0, 0, 0, 0, 0, 0, 0, 0, 0, 0, 0, 0, 0, 0, 0, 0, 0, 0, 0, 0, 0, 0, 0, 0, 0, 0, 0, 0, 0, 0, 0, 0, 0, 0, 0, 0, 0, 0, 0, 0, 0] : List Int)).map ei) ha _ [(0, .int .i64 1665)] rfl zero_24L1 Tryd.runUnderlying24 Tryd.sizeOf3 rfl) rfl rfl rfl rfl rfl ?_; clear ha a; intro a ha
    refine scg ha (r_call ha [ei 1, .agg ((([1665, 0, 0, 0, 0, 0, 0, 0, 0, 0, 0, 0, 0, 0, 0, 0, 0, 0, 0, 0, 0, 0, 0, 0, 0, 0, 0, 0, 0, 0, 0, 0, 0, 0, 0, 0, 0, 0, 0, 0, 0, 0, 0, 0, 0, 0, 0, 0, 0, 0, 0, 0, 0, 0, 0, 0, 0, 0, 0, 0, 0, 0, 0, 0, 0, 0, 0, 0, 0, 0, 0, 0, 0, 0, 0, 0, 0, 0, 0, 0, 0, 0, 0, 0, 0, 0, 0, 0, 0, 0, 0, 0, 0, 0, 0, 0, 0, 0, 0, 0, 0, 0, 0, 0, 0, 0, 0, 0, 0, 0, 0, 0, 0, 0, 0, 0, 0, 0, 0, 0, 0, 0, 0, 0, 0, 0, 0, 0, 0, 0, 0, 0, 0, 0, 0, 0, 0, 0, 0, 0, 0, 0, 0, 0, 0, 0, 0, 0, 0, 0, 0, 0, 0, 0, 0, 0, 0, 0, 0, 0, 0, 0, 0, 0, 0, 0, 0, 0, 0, 0, 0, 0, 0, 0, 0, 0, 0, 0, 0, 0, 0, 0, 0, 0, 0, 0, 0, 0, 0, 0, 0, 0, 0, 0, 0, 0, 0, 0, 0, 0, 0, 0, 0, 0, 0, 0, 0, 0, 0, 0, 0, 0, 0, 0, 0, 0, 0, 0, 0, 0, 0, 0, 0, 0, 0, 0, 0, 0, 0, 0, 0, 0, 0, 0, 0, 0, 0, 0, 0, 0, 0, 0, 0, 0, 0, 0, 0, 0, 0, 0, 0, 0, 0, 0, 0, 0] : List Int)).map ei).toArray] rfl Tryd.call22) rfl rfl rfl rfl rfl (c_squeeze 1 ([1665, 0, 0, 0, 0, 0, 0, 0, 0, 0, 0, 0, 0, 0, 0, 0, 0, 0, 0, 0, 0, 0, 0, 0, 0, 0, 0, 0, 0, 0, 0, 0, 0, 0, 0, 0, 0, 0, 0, 0, 0, 0, 0, 0, 0, 0, 0, 0, 0, 0, 0, 0, 0, 0, 0, 0, 0, 0, 0, 0, 0, 0, 0, 0, 0, 0, 0, 0, 0, 0, 0, 0, 0, 0, 0, 0, 0, 0, 0, 0, 0, 0, 0, 0, 0, 0, 0, 0, 0, 0, 0, 0, 0, 0, 0, 0, 0, 0, 0, 0, 0, 0, 0, 0, 0, 0, 0, 0, 0, 0, 0, 0, 0, 0, 0, 0, 0, 0, 0, 0, 0, 0, 0, 0, 0, 0, 0, 0, 0, 0, 0, 0, 0, 0, 0, 0, 0, 0, 0, 0, 0, 0, 0, 0, 0, 0, 0, 0, 0, 0, 0, 0, 0, 0, 0, 0, 0, 0, 0, 0, 0, 0, 0, 0, 0, 0, 0, 0, 0, 0, 0, 0, 0, 0, 0, 0, 0, 0, 0, 0, 0, 0, 0, 0, 0, 0, 0, 0, 0, 0, 0, 0, 0, 0, 0, 0, 0, 0, 0, 0, 0, 0, 0, 0, 0, 0, 0, 0, 0, 0, 0, 0, 0, 0, 0, 0, 0, 0, 0, 0, 0, 0, 0, 0, 0, 0, 0, 0, 0, 0, 0, 0, 0, 0, 0, 0, 0, 0, 0, 0, 0, 0, 0, 0, 0, 0, 0, 0, 0, 0, 0, 0, 0, 0, 0, 0] : List Int) _ (by rw [show List.length ([1665, 0, 0, 0, 0, 0, 0, 0, 0, 0, 0, 0, 0, 0, 0, 0, 0, 0, 0, 0, 0, 0, 0, 0, 0, 0, 0, 0, 0, 0, 0, 0, 0, 0, 0, 0, 0, 0, 0, 0, 0, 0, 0, 0, 0, 0, 0, 0, 0, 0, 0, 0, 0, 0, 0, 0, 0, 0, 0, 0, 0, 0, 0, 0, 0, 0, 0, 0, 0, 0, 0, 0, 0, 0, 0, 0, 0, 0, 0, 0, 0, 0, 0, 0, 0, 0, 0, 0, 0, 0, 0, 0, 0, 0, 0, 0, 0, 0, 0, 0, 0, 0, 0, 0, 0, 0, 0, 0, 0, 0, 0, 0, 0, 0, 0, 0, 0, 0, 0, 0, 0, 0, 0, 0, 0, 0, 0, 0, 0, 0, 0, 0, 0, 0, 0, 0, 0, 0, 0, 0, 0, 0, 0, 0, 0, 0, 0, 0, 0, 0, 0, 0, 0, 0, 0, 0, 0, 0, 0, 0, 0, 0, 0, 0, 0, 0, 0, 0, 0, 0, 0, 0, 0, 0, 0, 0, 0, 0, 0, 0, 0, 0, 0, 0, 0, 0, 0, 0, 0, 0, 0, 0, 0, 0, 0, 0, 0, 0, 0, 0, 0, 0, 0, 0, 0, 0, 0, 0, 0, 0, 0, 0, 0, 0, 0, 0, 0, 0, 0, 0, 0, 0, 0, 0, 0, 0, 0, 0, 0, 0, 0, 0, 0, 0, 0, 0, 0, 0, 0, 0, 0, 0, 0, 0, 0, 0, 0, 0, 0, 0, 0, 0, 0, 0, 0, 0] : List Int) = 256 from rfl])) ?_
    clear ha a
    rintro e w54 ⟨rfl, hBc⟩
    have hg := grown_call hBc; clear hBc
    replace hB := keepB0 hg hB
    replace hb6 := keepO0 hg hb6
    replace hb24 := keepO0 hg hb24
    replace hb30 := keepO0 hg hb30
    replace hb36 := keepO0 hg hb36
    replace hb42 := keepO0 hg hb42
    replace hb48 := keepO0 hg hb48
    replace hs53 := keepS0 hg hs53
    clear hg
    refine ⟨_, rfl, ?_⟩; intro a ha
    refine svg ha (r_index (C := (sqA 1 ([1665, 0, 0, 0, 0, 0, 0, 0, 0, 0, 0, 0, 0, 0, 0, 0, 0, 0, 0, 0, 0, 0, 0, 0, 0, 0, 0, 0, 0, 0, 0, 0, 0, 0, 0, 0, 0, 0, 0, 0, 0, 0, 0, 0, 0, 0, 0, 0, 0, 0, 0, 0, 0, 0, 0, 0, 0, 0, 0, 0, 0, 0, 0, 0, 0, 0, 0, 0, 0, 0, 0, 0, 0, 0, 0, 0, 0, 0, 0, 0, 0, 0, 0, 0, 0, 0, 0, 0, 0, 0, 0, 0, 0, 0, 0, 0, 0, 0, 0, 0, 0, 0, 0, 0, 0, 0, 0, 0, 0, 0, 0, 0, 0, 0, 0, 0, 0, 0, 0, 0, 0, 0, 0, 0, 0, 0, 0, 0, 0, 0, 0, 0, 0, 0, 0, 0, 0, 0, 0, 0, 0, 0, 0, 0, 0, 0, 0, 0, 0, 0, 0, 0, 0, 0, 0, 0, 0, 0, 0, 0, 0, 0, 0, 0, 0, 0, 0, 0, 0, 0, 0, 0, 0, 0, 0, 0, 0, 0, 0, 0, 0, 0, 0, 0, 0, 0, 0, 0, 0, 0, 0, 0, 0, 0, 0, 0, 0, 0, 0, 0, 0, 0, 0, 0, 0, 0, 0, 0, 0, 0, 0, 0, 0, 0, 0, 0, 0, 0, 0, 0, 0, 0, 0, 0, 0, 0, 0, 0, 0, 0, 0, 0, 0, 0, 0, 0, 0, 0, 0, 0, 0, 0, 0, 0, 0, 0, 0, 0, 0, 0, 0, 0, 0, 0, 0, 0] : List Int) 256).map ei) ha 0 rfl rfl Tryd.runUnderlying25 Tryd.sizeOf3 Tryd.isAgg3 (by omega) (get_map ei (sqA 1 ([1665, 0, 0, 0, 0, 0, 0, 0, 0, 0, 0, 0, 0, 0, 0, 0, 0, 0, 0, 0, 0, 0, 0, 0, 0, 0, 0, 0, 0, 0, 0, 0, 0, 0, 0, 0, 0, 0, 0, 0, 0, 0, 0, 0, 0, 0, 0, 0, 0, 0, 0, 0, 0, 0, 0, 0, 0, 0, 0, 0, 0, 0, 0, 0, 0, 0, 0, 0, 0, 0, 0, 0, 0, 0, 0, 0, 0, 0, 0, 0, 0, 0, 0, 0, 0, 0, 0, 0, 0, 0, 0, 0, 0, 0, 0, 0, 0, 0, 0, 0, 0, 0, 0, 0, 0, 0, 0, 0, 0, 0, 0, 0, 0, 0, 0, 0, 0, 0, 0, 0, 0, 0, 0, 0, 0, 0, 0, 0, 0, 0, 0, 0, 0, 0, 0, 0, 0, 0, 0, 0, 0, 0, 0, 0, 0, 0, 0, 0, 0, 0, 0, 0, 0, 0, 0, 0, 0, 0, 0, 0, 0, 0, 0, 0, 0, 0, 0, 0, 0, 0, 0, 0, 0, 0, 0, 0, 0, 0, 0, 0, 0, 0, 0, 0, 0, 0, 0, 0, 0, 0, 0, 0, 0, 0, 0, 0, 0, 0, 0, 0, 0, 0, 0, 0, 0, 0, 0, 0, 0, 0, 0, 0, 0, 0, 0, 0, 0, 0, 0, 0, 0, 0, 0, 0, 0, 0, 0, 0, 0, 0, 0, 0, 0, 0, 0, 0, 0, 0, 0, 0, 0, 0, 0, 0, 0, 0, 0, 0, 0, 0, 0, 0, 0, 0, 0, 0] : List Int) 256) 0 0 (by rw [sqA_len, show List.length ([1665, 0, 0, 0, 0, 0, 0, 0, 0, 0, 0, 0, 0, 0, 0, 0, 0, 0, 0, 0, 0, 0, 0, 0, 0, 0, 0, 0, 0, 0, 0, 0, 0, 0, 0, 0, 0, 0, 0, 0, 0, 0, 0, 0, 0, 0, 0, 0, 0, 0, 0, 0, 0, 0, 0, 0, 0, 0, 0, 0, 0, 0, 0, 0, 0, 0, 0, 0, 0, 0, 0, 0, 0, 0, 0, 0, 0, 0, 0, 0, 0, 0, 0, 0, 0, 0, 0, 0, 0, 0, 0, 0, 0, 0, 0, 0, 0, 0, 0, 0, 0, 0, 0, 0, 0, 0, 0, 0, 0, 0, 0, 0, 0, 0, 0, 0, 0, 0, 0, 0, 0, 0, 0, 0, 0, 0, 0, 0, 0, 0, 0, 0, 0, 0, 0, 0, 0, 0, 0, 0, 0, 0, 0, 0, 0, 0, 0, 0, 0, 0, 0, 0, 0, 0, 0, 0, 0, 0, 0, 0, 0, 0, 0, 0, 0, 0, 0, 0, 0, 0, 0, 0, 0, 0, 0, 0, 0, 0, 0, 0, 0, 0, 0, 0, 0, 0, 0, 0, 0, 0, 0, 0, 0, 0, 0, 0, 0, 0, 0, 0, 0, 0, 0, 0, 0, 0, 0, 0, 0, 0, 0, 0, 0, 0, 0, 0, 0, 0, 0, 0, 0, 0, 0, 0, 0, 0, 0, 0, 0, 0, 0, 0, 0, 0, 0, 0, 0, 0, 0, 0, 0, 0, 0, 0, 0, 0, 0, 0, 0, 0, 0, 0, 0, 0, 0, 0] : List Int) = 256 from rfl]; omega))) rfl rfl rfl rfl rfl ?_; clear ha a; intro a ha
    refine svg ha (r_eql ha ((sqA 1 ([1665, 0, 0, 0, 0, 0, 0, 0, 0, 0, 0, 0, 0, 0, 0, 0, 0, 0, 0, 0, 0, 0, 0, 0, 0, 0, 0, 0, 0, 0, 0, 0, 0, 0, 0, 0, 0, 0, 0, 0, 0, 0, 0, 0, 0, 0, 0, 0, 0, 0, 0, 0, 0, 0, 0, 0, 0, 0, 0, 0, 0, 0, 0, 0, 0, 0, 0, 0, 0, 0, 0, 0, 0, 0, 0, 0, 0, 0, 0, 0, 0, 0, 0, 0, 0, 0, 0, 0, 0, 0, 0, 0, 0, 0, 0, 0, 0, 0, 0, 0, 0, 0, 0, 0, 0, 0, 0, 0, 0, 0, 0, 0, 0, 0, 0, 0, 0, 0, 0, 0, 0, 0, 0, 0, 0, 0, 0, 0, 0, 0, 0, 0, 0, 0, 0, 0, 0, 0, 0, 0, 0, 0, 0, 0, 0, 0, 0, 0, 0, 0, 0, 0, 0, 0, 0, 0, 0, 0, 0, 0, 0, 0, 0, 0, 0, 0, 0, 0, 0, 0, 0, 0, 0, 0, 0, 0, 0, 0, 0, 0, 0, 0, 0, 0, 0, 0, 0, 0, 0, 0, 0, 0, 0, 0, 0, 0, 0, 0, 0, 0, 0, 0, 0, 0, 0, 0, 0, 0, 0, 0, 0, 0, 0, 0, 0, 0, 0, 0, 0, 0, 0, 0, 0, 0, 0, 0, 0, 0, 0, 0, 0, 0, 0, 0, 0, 0, 0, 0, 0, 0, 0, 0, 0, 0, 0, 0, 0, 0, 0, 0, 0, 0, 0, 0, 0, 0] : List Int) 256).getD 0 0) 1 true rfl rfl (decide_eq_true (aw12_s _ rfl rfl))) rfl rfl rfl rfl rfl ?_; clear ha a; intro a ha
    refine sv ha (r_pick ha true rfl rfl) rfl rfl rfl ?_; clear ha a; intro a ha
    refine sv ha (r_move ha rfl) rfl rfl rfl ?_; clear ha a; intro a ha
    refine svg ha (r_build (Z := (List.replicate 256 (0 : Int)).map ei) (C := (([1, 0, 0, 0, 0, 0, 0, 0, 0, 0, 0, 0, 0, 0, 0, 0, 0, 0, 0, 0, 0, 0, 0, 0, 0, 0, 0, 0, 0, 0, 0, 0, 0, 0, 0, 0, 0, 0, 0, 0, 0, 0, 0, 0, 0, 0, 0, 0, 0, 0, 0, 0, 0, 0, 0, 0, 0, 0, 0, 0, 0, 0, 0, 0, 0, 0, 0, 0, 0, 0, 0, 0, 0, 0, 0, 0, 0, 0, 0, 0, 0, 0, 0, 0, 0, 0, 0, 0, 0, 0, 0, 0, 0, 0, 0, 0, 0, 0, 0, 0, 0, 0, 0, 0, 0, 0, 0, 0, 0, 0, 0, 0, 0, 0, 0, 0, 0, 0, 0, 0, 0, 0, 0, 0, 0, 0, 0, 0, 0, 0, 0, 0, 0, 0, 0, 0, 0, 0, 0, 0, 0, 0, 0, 0, 0, 0, 0, 0, 0, 0, 0, 0, 0, 0, 0, 0, 0, 0, 0, 0, 0, 0, 0, 0, 0, 0, 0, 0, 0, 0, 0, 0, 0, 0, 0, 0, 0, 0, 0, 0, 0, 0, 0, 0, 0, 0, 0, 0, 0, 0, 0, 0, 0, 0, 0, 0, 0, 0, 0, 0, 0, 0, 0, 0, 0, 0, 0, 0, 0, 0, 0, 0, 0, 0, 0, 0, 0, 0, 0, 0, 0, 0, 0, 0, 0, 0, 0, 0, 0, 0, 0, 0, 0, 0, 0, 0, 0, 0, 0, 0, 0, 0, 0, 0, 0, 0, 0, 0, 0, 0, 0, 0, 0, 0, 0, 0] : List Int)).map ei) ha _ [(0, .int .i64 1)] rfl zero_24L1 Tryd.runUnderlying24 Tryd.sizeOf3 rfl) rfl rfl rfl rfl rfl ?_; clear ha a; intro a ha
    refine scg ha (r_call ha [ei 1, .agg ((([1, 0, 0, 0, 0, 0, 0, 0, 0, 0, 0, 0, 0, 0, 0, 0, 0, 0, 0, 0, 0, 0, 0, 0, 0, 0, 0, 0, 0, 0, 0, 0, 0, 0, 0, 0, 0, 0, 0, 0, 0, 0, 0, 0, 0, 0, 0, 0, 0, 0, 0, 0, 0, 0, 0, 0, 0, 0, 0, 0, 0, 0, 0, 0, 0, 0, 0, 0, 0, 0, 0, 0, 0, 0, 0, 0, 0, 0, 0, 0, 0, 0, 0, 0, 0, 0, 0, 0, 0, 0, 0, 0, 0, 0, 0, 0, 0, 0, 0, 0, 0, 0, 0, 0, 0, 0, 0, 0, 0, 0, 0, 0, 0, 0, 0, 0, 0, 0, 0, 0, 0, 0, 0, 0, 0, 0, 0, 0, 0, 0, 0, 0, 0, 0, 0, 0, 0, 0, 0, 0, 0, 0, 0, 0, 0, 0, 0, 0, 0, 0, 0, 0, 0, 0, 0, 0, 0, 0, 0, 0, 0, 0, 0, 0, 0, 0, 0, 0, 0, 0, 0, 0, 0, 0, 0, 0, 0, 0, 0, 0, 0, 0, 0, 0, 0, 0, 0, 0, 0, 0, 0, 0, 0, 0, 0, 0, 0, 0, 0, 0, 0, 0, 0, 0, 0, 0, 0, 0, 0, 0, 0, 0, 0, 0, 0, 0, 0, 0, 0, 0, 0, 0, 0, 0, 0, 0, 0, 0, 0, 0, 0, 0, 0, 0, 0, 0, 0, 0, 0, 0, 0, 0, 0, 0, 0, 0, 0, 0, 0, 0, 0, 0, 0, 0, 0, 0] : List Int)).map ei).toArray] rfl Tryd.call24) rfl rfl rfl rfl rfl (c_spread 1 ([1, 0, 0, 0, 0, 0, 0, 0, 0, 0, 0, 0, 0, 0, 0, 0, 0, 0, 0, 0, 0, 0, 0, 0, 0, 0, 0, 0, 0, 0, 0, 0, 0, 0, 0, 0, 0, 0, 0, 0, 0, 0, 0, 0, 0, 0, 0, 0, 0, 0, 0, 0, 0, 0, 0, 0, 0, 0, 0, 0, 0, 0, 0, 0, 0, 0, 0, 0, 0, 0, 0, 0, 0, 0, 0, 0, 0, 0, 0, 0, 0, 0, 0, 0, 0, 0, 0, 0, 0, 0, 0, 0, 0, 0, 0, 0, 0, 0, 0, 0, 0, 0, 0, 0, 0, 0, 0, 0, 0, 0, 0, 0, 0, 0, 0, 0, 0, 0, 0, 0, 0, 0, 0, 0, 0, 0, 0, 0, 0, 0, 0, 0, 0, 0, 0, 0, 0, 0, 0, 0, 0, 0, 0, 0, 0, 0, 0, 0, 0, 0, 0, 0, 0, 0, 0, 0, 0, 0, 0, 0, 0, 0, 0, 0, 0, 0, 0, 0, 0, 0, 0, 0, 0, 0, 0, 0, 0, 0, 0, 0, 0, 0, 0, 0, 0, 0, 0, 0, 0, 0, 0, 0, 0, 0, 0, 0, 0, 0, 0, 0, 0, 0, 0, 0, 0, 0, 0, 0, 0, 0, 0, 0, 0, 0, 0, 0, 0, 0, 0, 0, 0, 0, 0, 0, 0, 0, 0, 0, 0, 0, 0, 0, 0, 0, 0, 0, 0, 0, 0, 0, 0, 0, 0, 0, 0, 0, 0, 0, 0, 0, 0, 0, 0, 0, 0, 0] : List Int) _ (by rw [show List.length ([1, 0, 0, 0, 0, 0, 0, 0, 0, 0, 0, 0, 0, 0, 0, 0, 0, 0, 0, 0, 0, 0, 0, 0, 0, 0, 0, 0, 0, 0, 0, 0, 0, 0, 0, 0, 0, 0, 0, 0, 0, 0, 0, 0, 0, 0, 0, 0, 0, 0, 0, 0, 0, 0, 0, 0, 0, 0, 0, 0, 0, 0, 0, 0, 0, 0, 0, 0, 0, 0, 0, 0, 0, 0, 0, 0, 0, 0, 0, 0, 0, 0, 0, 0, 0, 0, 0, 0, 0, 0, 0, 0, 0, 0, 0, 0, 0, 0, 0, 0, 0, 0, 0, 0, 0, 0, 0, 0, 0, 0, 0, 0, 0, 0, 0, 0, 0, 0, 0, 0, 0, 0, 0, 0, 0, 0, 0, 0, 0, 0, 0, 0, 0, 0, 0, 0, 0, 0, 0, 0, 0, 0, 0, 0, 0, 0, 0, 0, 0, 0, 0, 0, 0, 0, 0, 0, 0, 0, 0, 0, 0, 0, 0, 0, 0, 0, 0, 0, 0, 0, 0, 0, 0, 0, 0, 0, 0, 0, 0, 0, 0, 0, 0, 0, 0, 0, 0, 0, 0, 0, 0, 0, 0, 0, 0, 0, 0, 0, 0, 0, 0, 0, 0, 0, 0, 0, 0, 0, 0, 0, 0, 0, 0, 0, 0, 0, 0, 0, 0, 0, 0, 0, 0, 0, 0, 0, 0, 0, 0, 0, 0, 0, 0, 0, 0, 0, 0, 0, 0, 0, 0, 0, 0, 0, 0, 0, 0, 0, 0, 0, 0, 0, 0, 0, 0, 0] : List Int) = 256 from rfl])) ?_
    clear ha a
    rintro e w55 ⟨rfl, hBc⟩
    have hg := grown_call hBc; clear hBc
    replace hB := keepB0 hg hB
    replace hb6 := keepO0 hg hb6
    replace hb24 := keepO0 hg hb24
    replace hb30 := keepO0 hg hb30
    replace hb36 := keepO0 hg hb36
    replace hb42 := keepO0 hg hb42
    replace hb48 := keepO0 hg hb48
    replace hs53 := keepS0 hg hs53
    clear hg
    refine ⟨_, rfl, ?_⟩; intro a ha
    refine svg ha (r_index (C := (spA 1 ([1, 0, 0, 0, 0, 0, 0, 0, 0, 0, 0, 0, 0, 0, 0, 0, 0, 0, 0, 0, 0, 0, 0, 0, 0, 0, 0, 0, 0, 0, 0, 0, 0, 0, 0, 0, 0, 0, 0, 0, 0, 0, 0, 0, 0, 0, 0, 0, 0, 0, 0, 0, 0, 0, 0, 0, 0, 0, 0, 0, 0, 0, 0, 0, 0, 0, 0, 0, 0, 0, 0, 0, 0, 0, 0, 0, 0, 0, 0, 0, 0, 0, 0, 0, 0, 0, 0, 0, 0, 0, 0, 0, 0, 0, 0, 0, 0, 0, 0, 0, 0, 0, 0, 0, 0, 0, 0, 0, 0, 0, 0, 0, 0, 0, 0, 0, 0, 0, 0, 0, 0, 0, 0, 0, 0, 0, 0, 0, 0, 0, 0, 0, 0, 0, 0, 0, 0, 0, 0, 0, 0, 0, 0, 0, 0, 0, 0, 0, 0, 0, 0, 0, 0, 0, 0, 0, 0, 0, 0, 0, 0, 0, 0, 0, 0, 0, 0, 0, 0, 0, 0, 0, 0, 0, 0, 0, 0, 0, 0, 0, 0, 0, 0, 0, 0, 0, 0, 0, 0, 0, 0, 0, 0, 0, 0, 0, 0, 0, 0, 0, 0, 0, 0, 0, 0, 0, 0, 0, 0, 0, 0, 0, 0, 0, 0, 0, 0, 0, 0, 0, 0, 0, 0, 0, 0, 0, 0, 0, 0, 0, 0, 0, 0, 0, 0, 0, 0, 0, 0, 0, 0, 0, 0, 0, 0, 0, 0, 0, 0, 0, 0, 0, 0, 0, 0, 0] : List Int) 256).map ei) ha 0 rfl rfl Tryd.runUnderlying25 Tryd.sizeOf3 Tryd.isAgg3 (by omega) (get_map ei (spA 1 ([1, 0, 0, 0, 0, 0, 0, 0, 0, 0, 0, 0, 0, 0, 0, 0, 0, 0, 0, 0, 0, 0, 0, 0, 0, 0, 0, 0, 0, 0, 0, 0, 0, 0, 0, 0, 0, 0, 0, 0, 0, 0, 0, 0, 0, 0, 0, 0, 0, 0, 0, 0, 0, 0, 0, 0, 0, 0, 0, 0, 0, 0, 0, 0, 0, 0, 0, 0, 0, 0, 0, 0, 0, 0, 0, 0, 0, 0, 0, 0, 0, 0, 0, 0, 0, 0, 0, 0, 0, 0, 0, 0, 0, 0, 0, 0, 0, 0, 0, 0, 0, 0, 0, 0, 0, 0, 0, 0, 0, 0, 0, 0, 0, 0, 0, 0, 0, 0, 0, 0, 0, 0, 0, 0, 0, 0, 0, 0, 0, 0, 0, 0, 0, 0, 0, 0, 0, 0, 0, 0, 0, 0, 0, 0, 0, 0, 0, 0, 0, 0, 0, 0, 0, 0, 0, 0, 0, 0, 0, 0, 0, 0, 0, 0, 0, 0, 0, 0, 0, 0, 0, 0, 0, 0, 0, 0, 0, 0, 0, 0, 0, 0, 0, 0, 0, 0, 0, 0, 0, 0, 0, 0, 0, 0, 0, 0, 0, 0, 0, 0, 0, 0, 0, 0, 0, 0, 0, 0, 0, 0, 0, 0, 0, 0, 0, 0, 0, 0, 0, 0, 0, 0, 0, 0, 0, 0, 0, 0, 0, 0, 0, 0, 0, 0, 0, 0, 0, 0, 0, 0, 0, 0, 0, 0, 0, 0, 0, 0, 0, 0, 0, 0, 0, 0, 0, 0] : List Int) 256) 0 0 (by rw [spA_len, show List.length ([1, 0, 0, 0, 0, 0, 0, 0, 0, 0, 0, 0, 0, 0, 0, 0, 0, 0, 0, 0, 0, 0, 0, 0, 0, 0, 0, 0, 0, 0, 0, 0, 0, 0, 0, 0, 0, 0, 0, 0, 0, 0, 0, 0, 0, 0, 0, 0, 0, 0, 0, 0, 0, 0, 0, 0, 0, 0, 0, 0, 0, 0, 0, 0, 0, 0, 0, 0, 0, 0, 0, 0, 0, 0, 0, 0, 0, 0, 0, 0, 0, 0, 0, 0, 0, 0, 0, 0, 0, 0, 0, 0, 0, 0, 0, 0, 0, 0, 0, 0, 0, 0, 0, 0, 0, 0, 0, 0, 0, 0, 0, 0, 0, 0, 0, 0, 0, 0, 0, 0, 0, 0, 0, 0, 0, 0, 0, 0, 0, 0, 0, 0, 0, 0, 0, 0, 0, 0, 0, 0, 0, 0, 0, 0, 0, 0, 0, 0, 0, 0, 0, 0, 0, 0, 0, 0, 0, 0, 0, 0, 0, 0, 0, 0, 0, 0, 0, 0, 0, 0, 0, 0, 0, 0, 0, 0, 0, 0, 0, 0, 0, 0, 0, 0, 0, 0, 0, 0, 0, 0, 0, 0, 0, 0, 0, 0, 0, 0, 0, 0, 0, 0, 0, 0, 0, 0, 0, 0, 0, 0, 0, 0, 0, 0, 0, 0, 0, 0, 0, 0, 0, 0, 0, 0, 0, 0, 0, 0, 0, 0, 0, 0, 0, 0, 0, 0, 0, 0, 0, 0, 0, 0, 0, 0, 0, 0, 0, 0, 0, 0, 0, 0, 0, 0, 0, 0] : List Int) = 256 from rfl]; omega))) rfl rfl rfl rfl rfl ?_; clear ha a; intro a ha
    refine svg ha (r_eql ha ((spA 1 ([1, 0, 0, 0, 0, 0, 0, 0, 0, 0, 0, 0, 0, 0, 0, 0, 0, 0, 0, 0, 0, 0, 0, 0, 0, 0, 0, 0, 0, 0, 0, 0, 0, 0, 0, 0, 0, 0, 0, 0, 0, 0, 0, 0, 0, 0, 0, 0, 0, 0, 0, 0, 0, 0, 0, 0, 0, 0, 0, 0, 0, 0, 0, 0, 0, 0, 0, 0, 0, 0, 0, 0, 0, 0, 0, 0, 0, 0, 0, 0, 0, 0, 0, 0, 0, 0, 0, 0, 0, 0, 0, 0, 0, 0, 0, 0, 0, 0, 0, 0, 0, 0, 0, 0, 0, 0, 0, 0, 0, 0, 0, 0, 0, 0, 0, 0, 0, 0, 0, 0, 0, 0, 0, 0, 0, 0, 0, 0, 0, 0, 0, 0, 0, 0, 0, 0, 0, 0, 0, 0, 0, 0, 0, 0, 0, 0, 0, 0, 0, 0, 0, 0, 0, 0, 0, 0, 0, 0, 0, 0, 0, 0, 0, 0, 0, 0, 0, 0, 0, 0, 0, 0, 0, 0, 0, 0, 0, 0, 0, 0, 0, 0, 0, 0, 0, 0, 0, 0, 0, 0, 0, 0, 0, 0, 0, 0, 0, 0, 0, 0, 0, 0, 0, 0, 0, 0, 0, 0, 0, 0, 0, 0, 0, 0, 0, 0, 0, 0, 0, 0, 0, 0, 0, 0, 0, 0, 0, 0, 0, 0, 0, 0, 0, 0, 0, 0, 0, 0, 0, 0, 0, 0, 0, 0, 0, 0, 0, 0, 0, 0, 0, 0, 0, 0, 0, 0] : List Int) 256).getD 0 0) 1665 true rfl rfl (decide_eq_true (aw12_t _ rfl rfl))) rfl rfl rfl rfl rfl ?_; clear ha a; intro a ha
    refine sv ha (r_pick ha true rfl rfl) rfl rfl rfl ?_; clear ha a; intro a ha
    refine sv ha (r_assign ha rfl) rfl rfl rfl ?_; clear ha a; intro a ha
    refine hK51 _ _ ?_; clear hK51 K50
    refine wp_ret ?_
    repeat (first | (with_reducible refine t_ret ?_) | (with_reducible refine x_ret ?_))
    exact ret1 ha Tryd.results11 rfl ⟨rfl, hB⟩
end Go.Proofs.YtaignhikdfpbbaaDoor
