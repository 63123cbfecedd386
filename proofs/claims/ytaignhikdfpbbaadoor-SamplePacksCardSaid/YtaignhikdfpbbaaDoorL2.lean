/- WALKS written by gen.py (own program) out of specs. -/
import Derived.Test.YtaignhikdfpbbaaDoorL1
import Derived.Test.YtaignhikdfpbbaaDoorLx
import Derived.Test.YtaignhikdfpbbaaDoorZ1
namespace Go.Proofs.YtaignhikdfpbbaaDoor
open Go.RowKit Go.Rx
set_option maxRecDepth 100000
set_option maxHeartbeats 4000000
set_option linter.unusedVariables false
set_option linter.unusedSimpArgs false

theorem zero_24L2 : ∀ w, (zeroValue 24).run Tryd.prog w = .ok (.agg ((List.replicate 256 (0 : Int)).map ei).toArray) w := fun _ => by kernel_rfl
theorem c_rclean (p : List Int) (w0 : World) (hp : p.length = 256) :
    Calls Tryd.prog 26 #[.agg ((p).map ei).toArray] w0 fun e w' => e = .returned (.agg ((cl p).map ei).toArray) ∧ Below w0.heap.size w0 w' := by
  refine enter (args := [_]) Tryd.func26 rfl Tryd.ntmps26 rfl ?_
  intro a ha
  have hB := Below.refl w0.heap.size w0
  refine wp_seq_k fun K1 hK2 => ?_
  refine region ?_
  refine sbox ha rfl rfl ?_
  clear ha a; intro a w3 b4 ha hg hb4 hge4 hlt4
  have hz4 : w0.heap.size ≤ b4 := Nat.le_trans hB.size hge4
  replace hB := keepB0 hg hB
  clear hg hge4 hlt4
  refine salloc ha zero_24L2 rfl ?_
  clear ha a; intro a w5 b6 ha hg hb6 hge6 hlt6
  have hz6 : w0.heap.size ≤ b6 := Nat.le_trans hB.size hge6
  have hq4_6 : b4 < b6 := Nat.lt_of_lt_of_le (lt_of_block hb4) hge6
  replace hB := keepB0 hg hB
  replace hb4 := keepO0 hg hb4
  clear hg hge6 hlt6
  refine hK2 _ _ ?_; clear hK2 K1
  refine wp_seq_k fun K7 hK8 => ?_
  refine wp_seq_k fun K9 hK10 => ?_
  refine region ?_
  refine sv ha (r_assign ha rfl) rfl rfl rfl ?_; clear ha a; intro a ha
  refine hK10 _ _ ?_; clear hK10 K9
  refine wp_block ?_
  refine loopG (fun (k : Nat) a w => (k ≤ 256) ∧ Has 15 [(0, .agg ((p).map ei).toArray), (1, .pointer (some ⟨b4, 0, none⟩)), (2, .pointer (some ⟨b6, 0, none⟩)), (3, en k)] a ∧ Below w0.heap.size w0 w ∧ w.heap[b4]? = some (.cells ((eaA (fun x _ => zmod x) p p k).map ei).toArray 24 (0, 0)) ∧ w.heap[b6]? = some (.cells ((List.replicate 256 (0 : Int)).map ei).toArray 24 (0, 0))) (fun k => 256 - k) 0 ⟨(by omega), ha.to [0, 1, 2, 3] rfl, hB, hb4, hb6⟩ ?_
  clear ha a hB hb4 hb6
  intro k a w11 ⟨hkk, ha, hB, hb4, hb6⟩
  refine wp_seq_k fun K12 hK13 => ?_
  refine wp_seq_k fun K14 hK15 => ?_
  refine region ?_
  refine sv ha (r_move ha rfl) rfl rfl rfl ?_; clear ha a; intro a ha
  refine sv ha (r_lss ha ((k : Nat) : Int) 256 (decide (k < 256)) rfl rfl (decide_eq_decide.2 (by omega))) rfl rfl rfl ?_; clear ha a; intro a ha
  refine hK15 _ _ ?_; clear hK15 K14
  refine cond_if ha rfl (fun hc16 => ?_) (fun hc16 => ?_)
  · skip
    replace hc16 := of_decide_eq_true hc16
    refine wp_skip ?_
    refine hK13 _ _ ?_; clear hK13 K12
    refine wp_seq_k fun K17 hK18 => ?_
    refine wp_block ?_
    refine region ?_
    refine sv ha (r_move ha rfl) rfl rfl rfl ?_; clear ha a; intro a ha
    refine sv ha (r_move ha rfl) rfl rfl rfl ?_; clear ha a; intro a ha
    refine sv ha (r_indexArr (i := k) ha k Tryd.runUnderlying24 Tryd.sizeOf3 rfl rfl (by omega) (by omega)) rfl rfl rfl ?_; clear ha a; intro a ha
    refine sv ha (r_load ha rfl Tryd.isAgg3 (cell_of hb4 (get_map ei (eaA (fun x _ => zmod x) p p k) 0 k (by rw [eaA_len, hp]; omega)))) rfl rfl rfl ?_; clear ha a; intro a ha
    refine sc ha (r_call ha [ei ((eaA (fun x _ => zmod x) p p k).getD k 0)] rfl Tryd.call43) rfl rfl rfl (c_rmod ((eaA (fun x _ => zmod x) p p k).getD k 0) _ ) ?_
    clear ha a
    rintro e w19 ⟨rfl, hBc⟩
    have hg := grown_call hBc; clear hBc
    replace hB := keepB0 hg hB
    replace hb4 := keepO0 hg hb4
    replace hb6 := keepO0 hg hb6
    clear hg
    refine ⟨_, rfl, ?_⟩; intro a ha
    refine sv ha (r_indexArr (i := k) ha k Tryd.runUnderlying24 Tryd.sizeOf3 rfl rfl (by omega) (by omega)) rfl rfl rfl ?_; clear ha a; intro a ha
    refine sstore ha (v := ei ((zmod ((eaA (fun x _ => zmod x) p p k).getD k 0) : Nat) : Int)) rfl rfl rfl rfl Tryd.sizeOf3 hb4 (by rw [List.length_map, eaA_len, hp]; omega) ?_
    clear ha a; intro a w20 ha hg hb4'
    rw [set_map] at hb4'
    clear hb4; have hb4 := hb4'; clear hb4'
    replace hB := keepB1 hg (by omega) hB
    replace hb6 := keepO1 hg (by omega) hb6
    clear hg
    refine hK18 _ _ ?_; clear hK18 K17
    refine region ?_
    refine sv ha (r_move ha rfl) rfl rfl rfl ?_; clear ha a; intro a ha
    refine sv ha (rn_add ha k 1 rfl rfl (by omega)) rfl rfl rfl ?_; clear ha a; intro a ha
    refine sv ha (r_assign ha rfl) rfl rfl rfl ?_; clear ha a; intro a ha
    exact ⟨k + 1, by omega, (by omega), ha.to [0, 1, 2, 3] rfl, hB, hb4, hb6⟩
  · skip
    replace hc16 := of_decide_eq_false hc16
    refine wp_exit ?_
    obtain rfl : k = 256 := by omega
    refine hK8 _ _ ?_; clear hK13 K12 hK8 K7
    refine wp_seq_k fun K21 hK22 => ?_
    refine region ?_
    refine sv ha (r_loadR ha rfl Tryd.isAgg24 Tryd.sizeOf24 (C := (eaA (fun x _ => zmod x) p p 256).map ei) (by rw [List.length_map, eaA_len, hp]) (cells_all hb4)) rfl rfl rfl ?_; clear ha a; intro a ha
    refine sstoreW ha rfl rfl (one_ei _) Tryd.sizeOf24 (by rw [List.length_map, eaA_len, hp]) hb6 (by rw [List.length_map, List.length_replicate]) ?_
    clear ha a; intro a w23 ha hg hb6'
    clear hb6; have hb6 := hb6'; clear hb6'
    replace hB := keepB1 hg (by omega) hB
    replace hb4 := keepO1 hg (by omega) hb4
    clear hg
    refine hK22 _ _ ?_; clear hK22 K21
    refine wp_ret ?_
    repeat (first | (with_reducible refine t_ret ?_) | (with_reducible refine x_ret ?_))
    exact retC _ ha Tryd.results26 rfl hb6 Tryd.underlying24 rfl (by rw [List.length_map, eaA_len, hp]; kernel_rfl) ⟨rfl, hB⟩

theorem law_SampleUniform (v : Value) (seed : List UInt8) (w0 : World) (hs : Sl w0 v (seed.map e8)) (hG : Glob w0) :
    Calls Tryd.prog 3 #[v] w0 fun e w' => e = .returned (.bool true) ∧ Below w0.heap.size w0 w' := by
  refine enter (args := [_]) Tryd.func3 rfl Tryd.ntmps3 rfl ?_
  intro a ha
  have hB := Below.refl w0.heap.size w0
  refine wp_seq_k fun K1 hK2 => ?_
  refine region ?_
  refine sv ha (r_assign ha rfl) rfl rfl rfl ?_; clear ha a; intro a ha
  refine hK2 _ _ ?_; clear hK2 K1
  refine wp_seq_k fun K3 hK4 => ?_
  refine region ?_
  refine sc ha (r_call ha [] rfl Tryd.call11) rfl rfl rfl (c_awake12  _ (glob_keep hG hB)) ?_
  clear ha a
  rintro e w5 ⟨rfl, hBc⟩
  have hg := grown_call hBc; clear hBc
  replace hB := keepB0 hg hB
  clear hg
  refine ⟨_, rfl, ?_⟩; intro a ha
  refine sv ha (r_assign ha rfl) rfl rfl rfl ?_; clear ha a; intro a ha
  refine hK4 _ _ ?_; clear hK4 K3
  refine wp_seq_k fun K6 hK7 => ?_
  refine wp_seq_k fun K8 hK9 => ?_
  refine region ?_
  refine sv ha (r_move ha rfl) rfl rfl rfl ?_; clear ha a; intro a ha
  refine sv ha (r_not ha true false rfl rfl) rfl rfl rfl ?_; clear ha a; intro a ha
  refine hK9 _ _ ?_; clear hK9 K8
  refine cond_f ha rfl ?_
  refine wp_skip ?_
  refine hK7 _ _ ?_; clear hK7 K6
  refine wp_seq_k fun K10 hK11 => ?_
  refine wp_seq_k fun K12 hK13 => ?_
  refine region ?_
  refine sv ha (r_move ha rfl) rfl rfl rfl ?_; clear ha a; intro a ha
  refine sv ha (r_lenS ha Tryd.runUnderlying22 (hs.below hB) rfl (by rw [List.length_map])) rfl rfl rfl ?_; clear ha a; intro a ha
  refine sv ha (r_gtr ha ((seed.length : Nat) : Int) 1000 (decide (seed.length > 1000)) rfl rfl (decide_eq_decide.2 (by omega))) rfl rfl rfl ?_; clear ha a; intro a ha
  refine hK13 _ _ ?_; clear hK13 K12
  refine cond_if ha rfl (fun hc14 => ?_) (fun hc14 => ?_)
  · skip
    replace hc14 := of_decide_eq_true hc14
    refine wp_seq_k fun K15 hK16 => ?_
    refine region ?_
    refine sv ha (r_assign ha rfl) rfl rfl rfl ?_; clear ha a; intro a ha
    refine hK16 _ _ ?_; clear hK16 K15
    refine wp_ret ?_
    repeat (first | (with_reducible refine t_ret ?_) | (with_reducible refine x_ret ?_))
    exact ret1 ha Tryd.results3 rfl ⟨rfl, hB⟩
  · skip
    replace hc14 := of_decide_eq_false hc14
    refine wp_skip ?_
    refine hK11 _ _ ?_; clear hK11 K10
    refine wp_seq_k fun K17 hK18 => ?_
    refine region ?_
    refine sv ha (r_move ha rfl) rfl rfl rfl ?_; clear ha a; intro a ha
    refine sc ha (r_call ha [v] rfl Tryd.call12) rfl rfl rfl (c_uniform v seed _ (hs.below hB) (glob_keep hG hB)) ?_
    clear ha a
    rintro e w19 ⟨rfl, hBc⟩
    have hg := grown_call hBc; clear hBc
    replace hB := keepB0 hg hB
    clear hg
    refine ⟨_, rfl, ?_⟩; intro a ha
    refine sv ha (r_move ha rfl) rfl rfl rfl ?_; clear ha a; intro a ha
    refine sc ha (r_call ha [v] rfl Tryd.call13) rfl rfl rfl (c_runiform v seed _ (hs.below hB) (by omega)) ?_
    clear ha a
    rintro e w20 ⟨rfl, hBc⟩
    have hg := grown_call hBc; clear hBc
    replace hB := keepB0 hg hB
    clear hg
    refine ⟨_, rfl, ?_⟩; intro a ha
    refine sv ha (r_eqA (f := (fun z : Int => z)) (fun x y h => h) (uni seed) (uni seed) ha rfl rfl (by rw [uni_len]) (by rw [uni_len]) Tryd.eqGuardType25 Tryd.runUnderlying25 Tryd.sizeOf3 Tryd.underlying3 Tryd.isAgg3 true (decide_eq_true rfl)) rfl rfl rfl ?_; clear ha a; intro a ha
    refine sv ha (r_assign ha rfl) rfl rfl rfl ?_; clear ha a; intro a ha
    refine hK18 _ _ ?_; clear hK18 K17
    refine wp_ret ?_
    repeat (first | (with_reducible refine t_ret ?_) | (with_reducible refine x_ret ?_))
    exact ret1 ha Tryd.results3 rfl ⟨rfl, hB⟩

theorem zero_25L2 : ∀ w, (zeroValue 25).run Tryd.prog w = .ok (.agg ((List.replicate 256 (0 : Int)).map ei).toArray) w := fun _ => by kernel_rfl
theorem law_SampleNoise (eta : Int) (v : Value) (b : List UInt8) (n : UInt8) (w0 : World) (hs : Sl w0 v (b.map e8)) (hG : Glob w0) :
    Calls Tryd.prog 4 #[ei eta, v, e8 n] w0 fun e w' => e = .returned (.bool true) ∧ Below w0.heap.size w0 w' := by
  refine enter (args := [_, _, _]) Tryd.func4 rfl Tryd.ntmps4 rfl ?_
  intro a ha
  have hB := Below.refl w0.heap.size w0
  refine wp_seq_k fun K1 hK2 => ?_
  refine region ?_
  refine sv ha (r_assign ha rfl) rfl rfl rfl ?_; clear ha a; intro a ha
  refine hK2 _ _ ?_; clear hK2 K1
  refine wp_seq_k fun K3 hK4 => ?_
  refine region ?_
  refine sc ha (r_call ha [] rfl Tryd.call11) rfl rfl rfl (c_awake12  _ (glob_keep hG hB)) ?_
  clear ha a
  rintro e w5 ⟨rfl, hBc⟩
  have hg := grown_call hBc; clear hBc
  replace hB := keepB0 hg hB
  clear hg
  refine ⟨_, rfl, ?_⟩; intro a ha
  refine sv ha (r_assign ha rfl) rfl rfl rfl ?_; clear ha a; intro a ha
  refine hK4 _ _ ?_; clear hK4 K3
  refine wp_seq_k fun K6 hK7 => ?_
  refine wp_seq_k fun K8 hK9 => ?_
  refine region ?_
  refine sv ha (r_move ha rfl) rfl rfl rfl ?_; clear ha a; intro a ha
  refine sv ha (r_not ha true false rfl rfl) rfl rfl rfl ?_; clear ha a; intro a ha
  refine hK9 _ _ ?_; clear hK9 K8
  refine cond_f ha rfl ?_
  refine wp_skip ?_
  refine hK7 _ _ ?_; clear hK7 K6
  refine wp_seq_k fun K10 hK11 => ?_
  refine wp_seq_k fun K12 hK13 => ?_
  refine region ?_
  refine sv ha (r_move ha rfl) rfl rfl rfl ?_; clear ha a; intro a ha
  refine sv ha (r_lenS ha Tryd.runUnderlying22 (hs.below hB) rfl (by rw [List.length_map])) rfl rfl rfl ?_; clear ha a; intro a ha
  refine sv ha (r_gtr ha ((b.length : Nat) : Int) 1000 (decide (b.length > 1000)) rfl rfl (decide_eq_decide.2 (by omega))) rfl rfl rfl ?_; clear ha a; intro a ha
  refine hK13 _ _ ?_; clear hK13 K12
  refine cond_if ha rfl (fun hc14 => ?_) (fun hc14 => ?_)
  · skip
    replace hc14 := of_decide_eq_true hc14
    refine wp_seq_k fun K15 hK16 => ?_
    refine region ?_
    refine sv ha (r_assign ha rfl) rfl rfl rfl ?_; clear ha a; intro a ha
    refine hK16 _ _ ?_; clear hK16 K15
    refine wp_ret ?_
    repeat (first | (with_reducible refine t_ret ?_) | (with_reducible refine x_ret ?_))
    exact ret1 ha Tryd.results4 rfl ⟨rfl, hB⟩
  · skip
    replace hc14 := of_decide_eq_false hc14
    refine wp_skip ?_
    refine hK11 _ _ ?_; clear hK11 K10
    refine wp_seq_k fun K17 hK18 => ?_
    refine region ?_
    refine sv ha (r_move ha rfl) rfl rfl rfl ?_; clear ha a; intro a ha
    refine sv ha (r_move ha rfl) rfl rfl rfl ?_; clear ha a; intro a ha
    refine sc ha (r_call ha [ei eta, v] rfl Tryd.call14) rfl rfl rfl (c_noiseZ eta v b _ (hs.below hB)) ?_
    clear ha a
    rintro e w19 ⟨rfl, hBc⟩
    have hg := grown_call hBc; clear hBc
    replace hB := keepB0 hg hB
    clear hg
    refine ⟨_, rfl, ?_⟩; intro a ha
    refine sv ha (r_move ha rfl) rfl rfl rfl ?_; clear ha a; intro a ha
    refine sv ha (r_extract ha (vs := #[.agg ((noiP eta b).map ei).toArray, en (noiE eta b)]) rfl rfl) rfl rfl rfl ?_; clear ha a; intro a ha
    refine sv ha (r_extract ha (vs := #[.agg ((noiP eta b).map ei).toArray, en (noiE eta b)]) rfl rfl) rfl rfl rfl ?_; clear ha a; intro a ha
    refine salloc ha zero_25L2 rfl ?_
    clear ha a; intro a w20 b21 ha hg hb21 hge21 hlt21
    have hz21 : w0.heap.size ≤ b21 := Nat.le_trans hB.size hge21
    replace hB := keepB0 hg hB
    clear hg hge21 hlt21
    refine sstoreW ha rfl rfl (one_ei _) Tryd.sizeOf25 (by rw [List.length_map, noiP_len]) hb21 (by rw [List.length_map, List.length_replicate]) ?_
    clear ha a; intro a w22 ha hg hb21'
    clear hb21; have hb21 := hb21'; clear hb21'
    replace hB := keepB1 hg (by omega) hB
    clear hg
    refine sv ha (r_assign ha rfl) rfl rfl rfl ?_; clear ha a; intro a ha
    refine hK18 _ _ ?_; clear hK18 K17
    refine wp_seq_k fun K23 hK24 => ?_
    refine region ?_
    refine sv ha (r_move ha rfl) rfl rfl rfl ?_; clear ha a; intro a ha
    refine sv ha (r_move ha rfl) rfl rfl rfl ?_; clear ha a; intro a ha
    refine sc ha (r_call ha [ei eta, v] rfl Tryd.call15) rfl rfl rfl (c_rnoiseZ eta v b _ (hs.below hB)) ?_
    clear ha a
    rintro e w25 ⟨rfl, hBc⟩
    have hg := grown_call hBc; clear hBc
    replace hB := keepB0 hg hB
    replace hb21 := keepO0 hg hb21
    clear hg
    refine ⟨_, rfl, ?_⟩; intro a ha
    refine sv ha (r_move ha rfl) rfl rfl rfl ?_; clear ha a; intro a ha
    refine sv ha (r_extract ha (vs := #[.agg ((noiP eta b).map ei).toArray, en (noiE eta b)]) rfl rfl) rfl rfl rfl ?_; clear ha a; intro a ha
    refine sv ha (r_extract ha (vs := #[.agg ((noiP eta b).map ei).toArray, en (noiE eta b)]) rfl rfl) rfl rfl rfl ?_; clear ha a; intro a ha
    refine salloc ha zero_24L2 rfl ?_
    clear ha a; intro a w26 b27 ha hg hb27 hge27 hlt27
    have hz27 : w0.heap.size ≤ b27 := Nat.le_trans hB.size hge27
    have hq21_27 : b21 < b27 := Nat.lt_of_lt_of_le (lt_of_block hb21) hge27
    replace hB := keepB0 hg hB
    replace hb21 := keepO0 hg hb21
    clear hg hge27 hlt27
    refine sstoreW ha rfl rfl (one_ei _) Tryd.sizeOf24 (by rw [List.length_map, noiP_len]) hb27 (by rw [List.length_map, List.length_replicate]) ?_
    clear ha a; intro a w28 ha hg hb27'
    clear hb27; have hb27 := hb27'; clear hb27'
    replace hB := keepB1 hg (by omega) hB
    replace hb21 := keepO1 hg (by omega) hb21
    clear hg
    refine sv ha (r_assign ha rfl) rfl rfl rfl ?_; clear ha a; intro a ha
    refine hK24 _ _ ?_; clear hK24 K23
    refine wp_seq_k fun K29 hK30 => ?_
    refine region ?_
    refine sv ha (r_move ha rfl) rfl rfl rfl ?_; clear ha a; intro a ha
    refine sv ha (r_move ha rfl) rfl rfl rfl ?_; clear ha a; intro a ha
    refine sv ha (r_move ha rfl) rfl rfl rfl ?_; clear ha a; intro a ha
    refine sc ha (r_call ha [ei eta, v, e8 n] rfl Tryd.call16) rfl rfl rfl (c_prfZ eta v b n _ (hs.below hB) (by omega) (glob_keep hG hB)) ?_
    clear ha a
    rintro e w31 ⟨rfl, hBc⟩
    have hg := grown_call hBc; clear hBc
    replace hB := keepB0 hg hB
    replace hb21 := keepO0 hg hb21
    replace hb27 := keepO0 hg hb27
    clear hg
    refine ⟨_, rfl, ?_⟩; intro a ha
    refine sv ha (r_move ha rfl) rfl rfl rfl ?_; clear ha a; intro a ha
    refine sv ha (r_extract ha (vs := #[.agg ((prfP eta b n).map ei).toArray, en (prfE eta)]) rfl rfl) rfl rfl rfl ?_; clear ha a; intro a ha
    refine sv ha (r_extract ha (vs := #[.agg ((prfP eta b n).map ei).toArray, en (prfE eta)]) rfl rfl) rfl rfl rfl ?_; clear ha a; intro a ha
    refine salloc ha zero_25L2 rfl ?_
    clear ha a; intro a w32 b33 ha hg hb33 hge33 hlt33
    have hz33 : w0.heap.size ≤ b33 := Nat.le_trans hB.size hge33
    have hq21_33 : b21 < b33 := Nat.lt_of_lt_of_le (lt_of_block hb21) hge33
    have hq27_33 : b27 < b33 := Nat.lt_of_lt_of_le (lt_of_block hb27) hge33
    replace hB := keepB0 hg hB
    replace hb21 := keepO0 hg hb21
    replace hb27 := keepO0 hg hb27
    clear hg hge33 hlt33
    refine sstoreW ha rfl rfl (one_ei _) Tryd.sizeOf25 (by rw [List.length_map, prfP_len]) hb33 (by rw [List.length_map, List.length_replicate]) ?_
    clear ha a; intro a w34 ha hg hb33'
    clear hb33; have hb33 := hb33'; clear hb33'
    replace hB := keepB1 hg (by omega) hB
    replace hb21 := keepO1 hg (by omega) hb21
    replace hb27 := keepO1 hg (by omega) hb27
    clear hg
    refine sv ha (r_assign ha rfl) rfl rfl rfl ?_; clear ha a; intro a ha
    refine hK30 _ _ ?_; clear hK30 K29
    refine wp_seq_k fun K35 hK36 => ?_
    refine region ?_
    refine sv ha (r_move ha rfl) rfl rfl rfl ?_; clear ha a; intro a ha
    refine sv ha (r_move ha rfl) rfl rfl rfl ?_; clear ha a; intro a ha
    refine sv ha (r_move ha rfl) rfl rfl rfl ?_; clear ha a; intro a ha
    refine sc ha (r_call ha [ei eta, v, e8 n] rfl Tryd.call17) rfl rfl rfl (c_rprfZ eta v b n _ (hs.below hB) (by omega)) ?_
    clear ha a
    rintro e w37 ⟨rfl, hBc⟩
    have hg := grown_call hBc; clear hBc
    replace hB := keepB0 hg hB
    replace hb21 := keepO0 hg hb21
    replace hb27 := keepO0 hg hb27
    replace hb33 := keepO0 hg hb33
    clear hg
    refine ⟨_, rfl, ?_⟩; intro a ha
    refine sv ha (r_move ha rfl) rfl rfl rfl ?_; clear ha a; intro a ha
    refine sv ha (r_extract ha (vs := #[.agg ((prfP eta b n).map ei).toArray, en (prfE eta)]) rfl rfl) rfl rfl rfl ?_; clear ha a; intro a ha
    refine sv ha (r_extract ha (vs := #[.agg ((prfP eta b n).map ei).toArray, en (prfE eta)]) rfl rfl) rfl rfl rfl ?_; clear ha a; intro a ha
    refine salloc ha zero_24L2 rfl ?_
    clear ha a; intro a w38 b39 ha hg hb39 hge39 hlt39
    have hz39 : w0.heap.size ≤ b39 := Nat.le_trans hB.size hge39
    have hq21_39 : b21 < b39 := Nat.lt_of_lt_of_le (lt_of_block hb21) hge39
    have hq27_39 : b27 < b39 := Nat.lt_of_lt_of_le (lt_of_block hb27) hge39
    have hq33_39 : b33 < b39 := Nat.lt_of_lt_of_le (lt_of_block hb33) hge39
    replace hB := keepB0 hg hB
    replace hb21 := keepO0 hg hb21
    replace hb27 := keepO0 hg hb27
    replace hb33 := keepO0 hg hb33
    clear hg hge39 hlt39
    refine sstoreW ha rfl rfl (one_ei _) Tryd.sizeOf24 (by rw [List.length_map, prfP_len]) hb39 (by rw [List.length_map, List.length_replicate]) ?_
    clear ha a; intro a w40 ha hg hb39'
    clear hb39; have hb39 := hb39'; clear hb39'
    replace hB := keepB1 hg (by omega) hB
    replace hb21 := keepO1 hg (by omega) hb21
    replace hb27 := keepO1 hg (by omega) hb27
    replace hb33 := keepO1 hg (by omega) hb33
    clear hg
    refine sv ha (r_assign ha rfl) rfl rfl rfl ?_; clear ha a; intro a ha
    refine hK36 _ _ ?_; clear hK36 K35
    refine wp_seq_k fun K41 hK42 => ?_
    refine region ?_
    refine sv ha (r_loadR ha rfl Tryd.isAgg25 Tryd.sizeOf25 (C := (noiP eta b).map ei) (by rw [List.length_map, noiP_len]) (cells_all hb21)) rfl rfl rfl ?_; clear ha a; intro a ha
    refine sv ha (r_loadR ha rfl Tryd.isAgg24 Tryd.sizeOf24 (C := (noiP eta b).map ei) (by rw [List.length_map, noiP_len]) (cells_all hb27)) rfl rfl rfl ?_; clear ha a; intro a ha
    refine sv ha (r_eqA (f := (fun z : Int => z)) (fun x y h => h) (noiP eta b) (noiP eta b) ha rfl rfl (by rw [noiP_len]) (by rw [noiP_len]) Tryd.eqGuardType25 Tryd.runUnderlying25 Tryd.sizeOf3 Tryd.underlying3 Tryd.isAgg3 true (decide_eq_true rfl)) rfl rfl rfl ?_; clear ha a; intro a ha
    refine sv ha (r_move ha rfl) rfl rfl rfl ?_; clear ha a; intro a ha
    refine svg ha (r_move ha rfl) rfl rfl rfl rfl rfl ?_; clear ha a; intro a ha
    refine svg ha (r_move ha rfl) rfl rfl rfl rfl rfl ?_; clear ha a; intro a ha
    refine svg ha (r_eql ha ((noiE eta b : Nat) : Int) ((noiE eta b : Nat) : Int) true rfl rfl (decide_eq_true (by omega))) rfl rfl rfl rfl rfl ?_; clear ha a; intro a ha
    refine sv ha (r_pick ha true rfl rfl) rfl rfl rfl ?_; clear ha a; intro a ha
    refine sv ha (r_move ha rfl) rfl rfl rfl ?_; clear ha a; intro a ha
    refine svg ha (r_loadR ha rfl Tryd.isAgg25 Tryd.sizeOf25 (C := (prfP eta b n).map ei) (by rw [List.length_map, prfP_len]) (cells_all hb33)) rfl rfl rfl rfl rfl ?_; clear ha a; intro a ha
    refine svg ha (r_loadR ha rfl Tryd.isAgg24 Tryd.sizeOf24 (C := (prfP eta b n).map ei) (by rw [List.length_map, prfP_len]) (cells_all hb39)) rfl rfl rfl rfl rfl ?_; clear ha a; intro a ha
    refine svg ha (r_eqA (f := (fun z : Int => z)) (fun x y h => h) (prfP eta b n) (prfP eta b n) ha rfl rfl (by rw [prfP_len]) (by rw [prfP_len]) Tryd.eqGuardType25 Tryd.runUnderlying25 Tryd.sizeOf3 Tryd.underlying3 Tryd.isAgg3 true (decide_eq_true rfl)) rfl rfl rfl rfl rfl ?_; clear ha a; intro a ha
    refine sv ha (r_pick ha true rfl rfl) rfl rfl rfl ?_; clear ha a; intro a ha
    refine sv ha (r_move ha rfl) rfl rfl rfl ?_; clear ha a; intro a ha
    refine svg ha (r_move ha rfl) rfl rfl rfl rfl rfl ?_; clear ha a; intro a ha
    refine svg ha (r_move ha rfl) rfl rfl rfl rfl rfl ?_; clear ha a; intro a ha
    refine svg ha (r_eql ha ((prfE eta : Nat) : Int) ((prfE eta : Nat) : Int) true rfl rfl (decide_eq_true (by omega))) rfl rfl rfl rfl rfl ?_; clear ha a; intro a ha
    refine sv ha (r_pick ha true rfl rfl) rfl rfl rfl ?_; clear ha a; intro a ha
    refine sv ha (r_assign ha rfl) rfl rfl rfl ?_; clear ha a; intro a ha
    refine hK42 _ _ ?_; clear hK42 K41
    refine wp_ret ?_
    repeat (first | (with_reducible refine t_ret ?_) | (with_reducible refine x_ret ?_))
    exact ret1 ha Tryd.results4 rfl ⟨rfl, hB⟩

theorem law_SamplePacks (d : Int) (p : List Int) (v : Value) (b : List UInt8) (w0 : World) (hp : p.length = 256) (hs : Sl w0 v (b.map e8)) (hG : Glob w0) :
    Calls Tryd.prog 5 #[ei d, .agg ((p).map ei).toArray, v] w0 fun e w' => e = .returned (.bool true) ∧ Below w0.heap.size w0 w' := by
  refine enter (args := [_, _, _]) Tryd.func5 rfl Tryd.ntmps5 rfl ?_
  intro a ha
  have hB := Below.refl w0.heap.size w0
  refine wp_seq_k fun K1 hK2 => ?_
  refine region ?_
  refine sbox ha rfl rfl ?_
  clear ha a; intro a w3 b4 ha hg hb4 hge4 hlt4
  have hz4 : w0.heap.size ≤ b4 := Nat.le_trans hB.size hge4
  replace hB := keepB0 hg hB
  clear hg hge4 hlt4
  refine sv ha (r_assign ha rfl) rfl rfl rfl ?_; clear ha a; intro a ha
  refine hK2 _ _ ?_; clear hK2 K1
  refine wp_seq_k fun K5 hK6 => ?_
  refine region ?_
  refine sc ha (r_call ha [] rfl Tryd.call11) rfl rfl rfl (c_awake12  _ (glob_keep hG hB)) ?_
  clear ha a
  rintro e w7 ⟨rfl, hBc⟩
  have hg := grown_call hBc; clear hBc
  replace hB := keepB0 hg hB
  replace hb4 := keepO0 hg hb4
  clear hg
  refine ⟨_, rfl, ?_⟩; intro a ha
  refine sv ha (r_assign ha rfl) rfl rfl rfl ?_; clear ha a; intro a ha
  refine hK6 _ _ ?_; clear hK6 K5
  refine wp_seq_k fun K8 hK9 => ?_
  refine wp_seq_k fun K10 hK11 => ?_
  refine region ?_
  refine sv ha (r_move ha rfl) rfl rfl rfl ?_; clear ha a; intro a ha
  refine sv ha (r_not ha true false rfl rfl) rfl rfl rfl ?_; clear ha a; intro a ha
  refine hK11 _ _ ?_; clear hK11 K10
  refine cond_f ha rfl ?_
  refine wp_skip ?_
  refine hK9 _ _ ?_; clear hK9 K8
  refine wp_seq_k fun K12 hK13 => ?_
  refine wp_seq_k fun K14 hK15 => ?_
  refine region ?_
  refine sv ha (r_move ha rfl) rfl rfl rfl ?_; clear ha a; intro a ha
  refine sv ha (r_lenS ha Tryd.runUnderlying22 (hs.below hB) rfl (by rw [List.length_map])) rfl rfl rfl ?_; clear ha a; intro a ha
  refine sv ha (r_gtr ha ((b.length : Nat) : Int) 1000 (decide (b.length > 1000)) rfl rfl (decide_eq_decide.2 (by omega))) rfl rfl rfl ?_; clear ha a; intro a ha
  refine hK15 _ _ ?_; clear hK15 K14
  refine cond_if ha rfl (fun hc16 => ?_) (fun hc16 => ?_)
  · skip
    replace hc16 := of_decide_eq_true hc16
    refine wp_seq_k fun K17 hK18 => ?_
    refine region ?_
    refine sv ha (r_assign ha rfl) rfl rfl rfl ?_; clear ha a; intro a ha
    refine hK18 _ _ ?_; clear hK18 K17
    refine wp_ret ?_
    repeat (first | (with_reducible refine t_ret ?_) | (with_reducible refine x_ret ?_))
    exact ret1 ha Tryd.results5 rfl ⟨rfl, hB⟩
  · skip
    replace hc16 := of_decide_eq_false hc16
    refine wp_skip ?_
    refine hK13 _ _ ?_; clear hK13 K12
    refine wp_seq_k fun K19 hK20 => ?_
    refine region ?_
    refine sv ha (r_move ha rfl) rfl rfl rfl ?_; clear ha a; intro a ha
    refine sv ha (r_move ha rfl) rfl rfl rfl ?_; clear ha a; intro a ha
    refine sc ha (r_call ha [ei d, v] rfl Tryd.call18) rfl rfl rfl (c_unpackZ d v b _ (hs.below hB)) ?_
    clear ha a
    rintro e w21 ⟨rfl, hBc⟩
    have hg := grown_call hBc; clear hBc
    replace hB := keepB0 hg hB
    replace hb4 := keepO0 hg hb4
    clear hg
    refine ⟨_, rfl, ?_⟩; intro a ha
    refine sv ha (r_move ha rfl) rfl rfl rfl ?_; clear ha a; intro a ha
    refine sv ha (r_extract ha (vs := #[.agg ((unpP d b).map ei).toArray, en (unpE d b)]) rfl rfl) rfl rfl rfl ?_; clear ha a; intro a ha
    refine sv ha (r_extract ha (vs := #[.agg ((unpP d b).map ei).toArray, en (unpE d b)]) rfl rfl) rfl rfl rfl ?_; clear ha a; intro a ha
    refine salloc ha zero_25L2 rfl ?_
    clear ha a; intro a w22 b23 ha hg hb23 hge23 hlt23
    have hz23 : w0.heap.size ≤ b23 := Nat.le_trans hB.size hge23
    have hq4_23 : b4 < b23 := Nat.lt_of_lt_of_le (lt_of_block hb4) hge23
    replace hB := keepB0 hg hB
    replace hb4 := keepO0 hg hb4
    clear hg hge23 hlt23
    refine sstoreW ha rfl rfl (one_ei _) Tryd.sizeOf25 (by rw [List.length_map, unpP_len]) hb23 (by rw [List.length_map, List.length_replicate]) ?_
    clear ha a; intro a w24 ha hg hb23'
    clear hb23; have hb23 := hb23'; clear hb23'
    replace hB := keepB1 hg (by omega) hB
    replace hb4 := keepO1 hg (by omega) hb4
    clear hg
    refine sv ha (r_assign ha rfl) rfl rfl rfl ?_; clear ha a; intro a ha
    refine hK20 _ _ ?_; clear hK20 K19
    refine wp_seq_k fun K25 hK26 => ?_
    refine region ?_
    refine sv ha (r_move ha rfl) rfl rfl rfl ?_; clear ha a; intro a ha
    refine sv ha (r_move ha rfl) rfl rfl rfl ?_; clear ha a; intro a ha
    refine sc ha (r_call ha [ei d, v] rfl Tryd.call19) rfl rfl rfl (c_runpackZ d v b _ (hs.below hB)) ?_
    clear ha a
    rintro e w27 ⟨rfl, hBc⟩
    have hg := grown_call hBc; clear hBc
    replace hB := keepB0 hg hB
    replace hb4 := keepO0 hg hb4
    replace hb23 := keepO0 hg hb23
    clear hg
    refine ⟨_, rfl, ?_⟩; intro a ha
    refine sv ha (r_move ha rfl) rfl rfl rfl ?_; clear ha a; intro a ha
    refine sv ha (r_extract ha (vs := #[.agg ((unpP d b).map ei).toArray, en (unpE d b)]) rfl rfl) rfl rfl rfl ?_; clear ha a; intro a ha
    refine sv ha (r_extract ha (vs := #[.agg ((unpP d b).map ei).toArray, en (unpE d b)]) rfl rfl) rfl rfl rfl ?_; clear ha a; intro a ha
    refine salloc ha zero_24L2 rfl ?_
    clear ha a; intro a w28 b29 ha hg hb29 hge29 hlt29
    have hz29 : w0.heap.size ≤ b29 := Nat.le_trans hB.size hge29
    have hq4_29 : b4 < b29 := Nat.lt_of_lt_of_le (lt_of_block hb4) hge29
    have hq23_29 : b23 < b29 := Nat.lt_of_lt_of_le (lt_of_block hb23) hge29
    replace hB := keepB0 hg hB
    replace hb4 := keepO0 hg hb4
    replace hb23 := keepO0 hg hb23
    clear hg hge29 hlt29
    refine sstoreW ha rfl rfl (one_ei _) Tryd.sizeOf24 (by rw [List.length_map, unpP_len]) hb29 (by rw [List.length_map, List.length_replicate]) ?_
    clear ha a; intro a w30 ha hg hb29'
    clear hb29; have hb29 := hb29'; clear hb29'
    replace hB := keepB1 hg (by omega) hB
    replace hb4 := keepO1 hg (by omega) hb4
    replace hb23 := keepO1 hg (by omega) hb23
    clear hg
    refine sv ha (r_assign ha rfl) rfl rfl rfl ?_; clear ha a; intro a ha
    refine hK26 _ _ ?_; clear hK26 K25
    refine wp_seq_k fun K31 hK32 => ?_
    refine regionD (S := fun w => Below w0.heap.size w0 w ∧ w.heap[b4]? = some (.cells ((p).map ei).toArray 24 (0, 0)) ∧ w.heap[b23]? = some (.cells ((unpP d b).map ei).toArray 25 (0, 0)) ∧ w.heap[b29]? = some (.cells ((unpP d b).map ei).toArray 24 (0, 0)) ∧ True) [] [0, 1, 4, 5, 3, 7, 8, 9, 10, 11, 12, 13, 14, 15, 16, 17, 18, 19] [0, 1, 4, 5, 2, 3, 6, 7, 8, 9, 10, 11, 12, 13, 14, 15, 16, 17, 18, 19] mixed (by kernel_rfl) (fun w hg => ⟨keepB0 hg hB, keepO0 hg hb4, keepO0 hg hb23, keepO0 hg hb29, trivial⟩) ?_
    intro w33 hg
    replace hB := keepB0 hg hB
    replace hb4 := keepO0 hg hb4
    replace hb23 := keepO0 hg hb23
    replace hb29 := keepO0 hg hb29
    clear hg
    refine cv ha rfl rfl (fun w _ => r_move ha rfl) rfl rfl rfl ?_; clear ha a; intro a ha
    refine cv ha rfl rfl (fun w ⟨hB, hb4, hb23, hb29, _⟩ => r_loadR ha rfl Tryd.isAgg24 Tryd.sizeOf24 (C := (p).map ei) (by rw [List.length_map, hp]) (cells_all hb4)) rfl rfl rfl ?_; clear ha a; intro a ha
    refine cv ha rfl rfl (fun w _ => r_move ha rfl) rfl rfl rfl ?_; clear ha a; intro a ha
    refine cv ha rfl rfl (fun w ⟨hB, hb4, hb23, hb29, _⟩ => r_loadR ha rfl Tryd.isAgg24 Tryd.sizeOf24 (C := (p).map ei) (by rw [List.length_map, hp]) (cells_all hb4)) rfl rfl rfl ?_; clear ha a; intro a ha
    refine ccx ha rfl rfl (r_call ha [ei d, .agg ((p).map ei).toArray] rfl Tryd.call20) rfl rfl rfl (c_packZ d p _ (by rw [hp])) ?_
    clear ha a
    rintro e w34 ⟨u35, rfl, hBc, hs35, hd35⟩
    have hg := grown_call hBc; clear hBc
    have hnb_hs35_b4 : ∀ j, u35.ownBlock = some j → j ≠ b4 := fun j hj => by have h1 := hd35 j hj; have h2 := lt_of_block hb4; omega
    have hnb_hs35_b23 : ∀ j, u35.ownBlock = some j → j ≠ b23 := fun j hj => by have h1 := hd35 j hj; have h2 := lt_of_block hb23; omega
    have hnb_hs35_b29 : ∀ j, u35.ownBlock = some j → j ≠ b29 := fun j hj => by have h1 := hd35 j hj; have h2 := lt_of_block hb29; omega
    replace hd35 : ∀ j, u35.ownBlock = some j → w0.heap.size ≤ j := fun j hj => Nat.le_trans hB.size (hd35 j hj)
    replace hB := keepB0 hg hB
    replace hb4 := keepO0 hg hb4
    replace hb23 := keepO0 hg hb23
    replace hb29 := keepO0 hg hb29
    clear hg
    refine ⟨fun w => (Sl w u35 ((pack d p).map e8)) ∧ Below w0.heap.size w0 w ∧ w.heap[b4]? = some (.cells ((p).map ei).toArray 24 (0, 0)) ∧ w.heap[b23]? = some (.cells ((unpP d b).map ei).toArray 25 (0, 0)) ∧ w.heap[b29]? = some (.cells ((unpP d b).map ei).toArray 24 (0, 0)) ∧ True, fun w h => h.2, fun _ => ⟨hs35, hB, hb4, hb23, hb29, trivial⟩, _, rfl, ?_⟩; intro a ha
    refine cv ha rfl rfl (fun w ⟨hs35, hB, hb4, hb23, hb29, _⟩ => r_str (l := pack d p) ha Tryd.underlying22 Tryd.underlying5 Tryd.underlying9 rfl hs35) rfl rfl rfl ?_; clear ha a; intro a ha
    refine ccx ha rfl rfl (r_call ha [ei d, .agg ((p).map ei).toArray] rfl Tryd.call21) rfl rfl rfl (c_rpackZ d p _ (by rw [hp])) ?_
    clear ha a
    rintro e w36 ⟨u37, rfl, hBc, hs37, hd37⟩
    have hg := grown_call hBc; clear hBc
    have hnb_hs37_b4 : ∀ j, u37.ownBlock = some j → j ≠ b4 := fun j hj => by have h1 := hd37 j hj; have h2 := lt_of_block hb4; omega
    have hnb_hs37_b23 : ∀ j, u37.ownBlock = some j → j ≠ b23 := fun j hj => by have h1 := hd37 j hj; have h2 := lt_of_block hb23; omega
    have hnb_hs37_b29 : ∀ j, u37.ownBlock = some j → j ≠ b29 := fun j hj => by have h1 := hd37 j hj; have h2 := lt_of_block hb29; omega
    have hds_hs37_hs35 : ∀ j, u37.ownBlock = some j → u35.ownBlock ≠ some j := fun j h1 h2 => by have h3 := hd37 j h1; have h4 := (fun j hj => hs35.lt j hj) j h2; omega
    replace hd37 : ∀ j, u37.ownBlock = some j → w0.heap.size ≤ j := fun j hj => Nat.le_trans hB.size (hd37 j hj)
    replace hB := keepB0 hg hB
    replace hb4 := keepO0 hg hb4
    replace hb23 := keepO0 hg hb23
    replace hb29 := keepO0 hg hb29
    replace hs35 := keepS0 hg hs35
    clear hg
    refine ⟨fun w => (Sl w u37 ((pack d p).map e8)) ∧ (Sl w u35 ((pack d p).map e8)) ∧ Below w0.heap.size w0 w ∧ w.heap[b4]? = some (.cells ((p).map ei).toArray 24 (0, 0)) ∧ w.heap[b23]? = some (.cells ((unpP d b).map ei).toArray 25 (0, 0)) ∧ w.heap[b29]? = some (.cells ((unpP d b).map ei).toArray 24 (0, 0)) ∧ True, fun w h => h.2, fun _ => ⟨hs37, hs35, hB, hb4, hb23, hb29, trivial⟩, _, rfl, ?_⟩; intro a ha
    refine cv ha rfl rfl (fun w ⟨hs37, hs35, hB, hb4, hb23, hb29, _⟩ => r_str (l := pack d p) ha Tryd.underlying22 Tryd.underlying5 Tryd.underlying9 rfl hs37) rfl rfl rfl ?_; clear ha a; intro a ha
    refine cv ha rfl rfl (fun w _ => r_eqlS ha (pack d p) (pack d p) true rfl rfl (decide_eq_true rfl)) rfl rfl rfl ?_; clear ha a; intro a ha
    refine cv ha rfl rfl (fun w _ => r_move ha rfl) rfl rfl rfl ?_; clear ha a; intro a ha
    refine cvg ha rfl rfl (fun w ⟨hs37, hs35, hB, hb4, hb23, hb29, _⟩ => r_loadR ha rfl Tryd.isAgg25 Tryd.sizeOf25 (C := (unpP d b).map ei) (by rw [List.length_map, unpP_len]) (cells_all hb23)) rfl rfl rfl rfl rfl ?_; clear ha a; intro a ha
    refine cvg ha rfl rfl (fun w ⟨hs37, hs35, hB, hb4, hb23, hb29, _⟩ => r_loadR ha rfl Tryd.isAgg24 Tryd.sizeOf24 (C := (unpP d b).map ei) (by rw [List.length_map, unpP_len]) (cells_all hb29)) rfl rfl rfl rfl rfl ?_; clear ha a; intro a ha
    refine cvg ha rfl rfl (fun w _ => r_eqA (f := (fun z : Int => z)) (fun x y h => h) (unpP d b) (unpP d b) ha rfl rfl (by rw [unpP_len]) (by rw [unpP_len]) Tryd.eqGuardType25 Tryd.runUnderlying25 Tryd.sizeOf3 Tryd.underlying3 Tryd.isAgg3 true (decide_eq_true rfl)) rfl rfl rfl rfl rfl ?_; clear ha a; intro a ha
    refine cv ha rfl rfl (fun w _ => r_pick ha true rfl rfl) rfl rfl rfl ?_; clear ha a; intro a ha
    refine cv ha rfl rfl (fun w _ => r_move ha rfl) rfl rfl rfl ?_; clear ha a; intro a ha
    refine cvg ha rfl rfl (fun w _ => r_move ha rfl) rfl rfl rfl rfl rfl ?_; clear ha a; intro a ha
    refine cvg ha rfl rfl (fun w _ => r_move ha rfl) rfl rfl rfl rfl rfl ?_; clear ha a; intro a ha
    refine cvg ha rfl rfl (fun w _ => r_eql ha ((unpE d b : Nat) : Int) ((unpE d b : Nat) : Int) true rfl rfl (decide_eq_true (by omega))) rfl rfl rfl rfl rfl ?_; clear ha a; intro a ha
    refine cv ha rfl rfl (fun w _ => r_pick ha true rfl rfl) rfl rfl rfl ?_; clear ha a; intro a ha
    refine cv ha rfl rfl (fun w _ => r_assign ha rfl) rfl rfl rfl ?_; clear ha a; intro a ha
    refine cfin (hK32 _ _ ?_); clear hK32 K31
    refine wp_ret ?_
    repeat (first | (with_reducible refine t_ret ?_) | (with_reducible refine x_ret ?_))
    exact ret1 ha Tryd.results5 rfl ⟨rfl, hB⟩

theorem law_SampleRounds (d : Int) (p : List Int) (w0 : World) (hp : p.length = 256) (hG : Glob w0) :
    Calls Tryd.prog 6 #[ei d, .agg ((p).map ei).toArray] w0 fun e w' => e = .returned (.bool true) ∧ Below w0.heap.size w0 w' := by
  refine enter (args := [_, _]) Tryd.func6 rfl Tryd.ntmps6 rfl ?_
  intro a ha
  have hB := Below.refl w0.heap.size w0
  refine wp_seq_k fun K1 hK2 => ?_
  refine region ?_
  refine sbox ha rfl rfl ?_
  clear ha a; intro a w3 b4 ha hg hb4 hge4 hlt4
  have hz4 : w0.heap.size ≤ b4 := Nat.le_trans hB.size hge4
  replace hB := keepB0 hg hB
  clear hg hge4 hlt4
  refine sv ha (r_assign ha rfl) rfl rfl rfl ?_; clear ha a; intro a ha
  refine hK2 _ _ ?_; clear hK2 K1
  refine wp_seq_k fun K5 hK6 => ?_
  refine region ?_
  refine sc ha (r_call ha [] rfl Tryd.call11) rfl rfl rfl (c_awake12  _ (glob_keep hG hB)) ?_
  clear ha a
  rintro e w7 ⟨rfl, hBc⟩
  have hg := grown_call hBc; clear hBc
  replace hB := keepB0 hg hB
  replace hb4 := keepO0 hg hb4
  clear hg
  refine ⟨_, rfl, ?_⟩; intro a ha
  refine sv ha (r_assign ha rfl) rfl rfl rfl ?_; clear ha a; intro a ha
  refine hK6 _ _ ?_; clear hK6 K5
  refine wp_seq_k fun K8 hK9 => ?_
  refine wp_seq_k fun K10 hK11 => ?_
  refine region ?_
  refine sv ha (r_move ha rfl) rfl rfl rfl ?_; clear ha a; intro a ha
  refine sv ha (r_not ha true false rfl rfl) rfl rfl rfl ?_; clear ha a; intro a ha
  refine hK11 _ _ ?_; clear hK11 K10
  refine cond_f ha rfl ?_
  refine wp_skip ?_
  refine hK9 _ _ ?_; clear hK9 K8
  refine wp_seq_k fun K12 hK13 => ?_
  refine regionD (S := fun w => Below w0.heap.size w0 w ∧ w.heap[b4]? = some (.cells ((p).map ei).toArray 24 (0, 0)) ∧ True) [] [0, 1, 3, 4, 6, 7, 8, 9, 11, 12, 14, 15, 16] [0, 1, 3, 4, 2, 5, 6, 7, 8, 9, 11, 12, 10, 13, 14, 15, 16] mixed (by kernel_rfl) (fun w hg => ⟨keepB0 hg hB, keepO0 hg hb4, trivial⟩) ?_
  intro w14 hg
  replace hB := keepB0 hg hB
  replace hb4 := keepO0 hg hb4
  clear hg
  refine cv ha rfl rfl (fun w _ => r_move ha rfl) rfl rfl rfl ?_; clear ha a; intro a ha
  refine cv ha rfl rfl (fun w ⟨hB, hb4, _⟩ => r_loadR ha rfl Tryd.isAgg24 Tryd.sizeOf24 (C := (p).map ei) (by rw [List.length_map, hp]) (cells_all hb4)) rfl rfl rfl ?_; clear ha a; intro a ha
  refine cv ha rfl rfl (fun w _ => r_move ha rfl) rfl rfl rfl ?_; clear ha a; intro a ha
  refine cv ha rfl rfl (fun w ⟨hB, hb4, _⟩ => r_loadR ha rfl Tryd.isAgg24 Tryd.sizeOf24 (C := (p).map ei) (by rw [List.length_map, hp]) (cells_all hb4)) rfl rfl rfl ?_; clear ha a; intro a ha
  refine cc ha rfl rfl (r_call ha [ei d, .agg ((p).map ei).toArray] rfl Tryd.call22) rfl rfl rfl (c_squeeze d p _ (by rw [hp])) ?_
  clear ha a
  rintro e w15 ⟨rfl, hBc⟩
  have hg := grown_call hBc; clear hBc
  replace hB := keepB0 hg hB
  replace hb4 := keepO0 hg hb4
  clear hg
  refine ⟨fun _ => ⟨hB, hb4, trivial⟩, _, rfl, ?_⟩; intro a ha
  refine cc ha rfl rfl (r_call ha [ei d, .agg ((p).map ei).toArray] rfl Tryd.call23) rfl rfl rfl (c_rsqueeze d p _ (by rw [hp])) ?_
  clear ha a
  rintro e w16 ⟨rfl, hBc⟩
  have hg := grown_call hBc; clear hBc
  replace hB := keepB0 hg hB
  replace hb4 := keepO0 hg hb4
  clear hg
  refine ⟨fun _ => ⟨hB, hb4, trivial⟩, _, rfl, ?_⟩; intro a ha
  refine cv ha rfl rfl (fun w _ => r_eqA (f := (fun z : Int => z)) (fun x y h => h) (sqA d p 256) (sqA d p 256) ha rfl rfl (by rw [sqA_len, hp]) (by rw [sqA_len, hp]) Tryd.eqGuardType25 Tryd.runUnderlying25 Tryd.sizeOf3 Tryd.underlying3 Tryd.isAgg3 true (decide_eq_true rfl)) rfl rfl rfl ?_; clear ha a; intro a ha
  refine cv ha rfl rfl (fun w _ => r_move ha rfl) rfl rfl rfl ?_; clear ha a; intro a ha
  refine cvg ha rfl rfl (fun w _ => r_move ha rfl) rfl rfl rfl rfl rfl ?_; clear ha a; intro a ha
  refine cvg ha rfl rfl (fun w ⟨hB, hb4, _⟩ => r_loadR ha rfl Tryd.isAgg24 Tryd.sizeOf24 (C := (p).map ei) (by rw [List.length_map, hp]) (cells_all hb4)) rfl rfl rfl rfl rfl ?_; clear ha a; intro a ha
  refine cvg ha rfl rfl (fun w _ => r_move ha rfl) rfl rfl rfl rfl rfl ?_; clear ha a; intro a ha
  refine cvg ha rfl rfl (fun w ⟨hB, hb4, _⟩ => r_loadR ha rfl Tryd.isAgg24 Tryd.sizeOf24 (C := (p).map ei) (by rw [List.length_map, hp]) (cells_all hb4)) rfl rfl rfl rfl rfl ?_; clear ha a; intro a ha
  refine ccg ha rfl rfl (r_call ha [ei d, .agg ((p).map ei).toArray] rfl Tryd.call24) rfl rfl rfl rfl rfl (c_spread d p _ (by rw [hp])) ?_
  clear ha a
  rintro e w17 ⟨rfl, hBc⟩
  have hg := grown_call hBc; clear hBc
  replace hB := keepB0 hg hB
  replace hb4 := keepO0 hg hb4
  clear hg
  refine ⟨fun _ => ⟨hB, hb4, trivial⟩, _, rfl, ?_⟩; intro a ha
  refine ccg ha rfl rfl (r_call ha [ei d, .agg ((p).map ei).toArray] rfl Tryd.call25) rfl rfl rfl rfl rfl (c_rspread d p _ (by rw [hp])) ?_
  clear ha a
  rintro e w18 ⟨rfl, hBc⟩
  have hg := grown_call hBc; clear hBc
  replace hB := keepB0 hg hB
  replace hb4 := keepO0 hg hb4
  clear hg
  refine ⟨fun _ => ⟨hB, hb4, trivial⟩, _, rfl, ?_⟩; intro a ha
  refine cvg ha rfl rfl (fun w _ => r_eqA (f := (fun z : Int => z)) (fun x y h => h) (spA d p 256) (spA d p 256) ha rfl rfl (by rw [spA_len, hp]) (by rw [spA_len, hp]) Tryd.eqGuardType25 Tryd.runUnderlying25 Tryd.sizeOf3 Tryd.underlying3 Tryd.isAgg3 true (decide_eq_true rfl)) rfl rfl rfl rfl rfl ?_; clear ha a; intro a ha
  refine cv ha rfl rfl (fun w _ => r_pick ha true rfl rfl) rfl rfl rfl ?_; clear ha a; intro a ha
  refine cv ha rfl rfl (fun w _ => r_assign ha rfl) rfl rfl rfl ?_; clear ha a; intro a ha
  refine cfin (hK13 _ _ ?_); clear hK13 K12
  refine wp_ret ?_
  repeat (first | (with_reducible refine t_ret ?_) | (with_reducible refine x_ret ?_))
  exact ret1 ha Tryd.results6 rfl ⟨rfl, hB⟩
end Go.Proofs.YtaignhikdfpbbaaDoor
