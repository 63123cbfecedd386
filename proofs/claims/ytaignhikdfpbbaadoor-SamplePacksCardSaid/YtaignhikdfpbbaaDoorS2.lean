/- WALKS written by gen.py (own program) out of specs. -/
import Derived.Test.YtaignhikdfpbbaaDoorS1
import Derived.Test.YtaignhikdfpbbaaDoorUn
namespace Go.Proofs.YtaignhikdfpbbaaDoor
open Go.RowKit Go.Rx
set_option maxRecDepth 100000
set_option maxHeartbeats 4000000
set_option linter.unusedVariables false
set_option linter.unusedSimpArgs false

theorem zero_25S2 : ∀ w, (zeroValue 25).run Tryd.prog w = .ok (.agg ((List.replicate 256 (0 : Int)).map ei).toArray) w := fun _ => by kernel_rfl
theorem zero_53S2 : ∀ w, (zeroValue 53).run Tryd.prog w = .ok (.agg ((List.replicate 2 (0 : Int)).map ei).toArray) w := fun _ => by kernel_rfl
theorem c_uniform (v : Value) (seed : List UInt8) (w0 : World) (hs : Sl w0 v (seed.map e8)) (hG : Glob w0) :
    Calls Tryd.prog 12 #[v] w0 fun e w' => e = .returned (.agg ((uni seed).map ei).toArray) ∧ Below w0.heap.size w0 w' := by
  refine enter (args := [_]) Tryd.func12 rfl Tryd.ntmps12 rfl ?_
  intro a ha
  have hB := Below.refl w0.heap.size w0
  refine wp_seq_k fun K1 hK2 => ?_
  refine region ?_
  refine salloc ha zero_25S2 rfl ?_
  clear ha a; intro a w3 b4 ha hg hb4 hge4 hlt4
  have hz4 : w0.heap.size ≤ b4 := Nat.le_trans hB.size hge4
  replace hB := keepB0 hg hB
  clear hg hge4 hlt4
  refine hK2 _ _ ?_; clear hK2 K1
  refine wp_seq_k fun K5 hK6 => ?_
  refine region ?_
  refine salloc ha zero_25S2 rfl ?_
  clear ha a; intro a w7 b8 ha hg hb8 hge8 hlt8
  have hz8 : w0.heap.size ≤ b8 := Nat.le_trans hB.size hge8
  have hq4_8 : b4 < b8 := Nat.lt_of_lt_of_le (lt_of_block hb4) hge8
  replace hB := keepB0 hg hB
  replace hb4 := keepO0 hg hb4
  clear hg hge8 hlt8
  refine hK6 _ _ ?_; clear hK6 K5
  refine wp_seq_k fun K9 hK10 => ?_
  refine region ?_
  refine sv ha (r_move ha rfl) rfl rfl rfl ?_; clear ha a; intro a ha
  refine sc ha (r_call ha [v] rfl Tryd.call30) rfl rfl rfl (c_shake128 v seed _ (hs.below hB) (glob_keep hG hB)) ?_
  clear ha a
  rintro e w11 ⟨b12, u12, rfl, hBc, hb12, hge12, hs12, hd12, hnx12⟩
  have hg := grown_call hBc; clear hBc
  have hnb_hs12_b4 : ∀ j, u12.ownBlock = some j → j ≠ b4 := fun j hj => by have h1 := hd12 j hj; have h2 := lt_of_block hb4; omega
  have hnb_hs12_b8 : ∀ j, u12.ownBlock = some j → j ≠ b8 := fun j hj => by have h1 := hd12 j hj; have h2 := lt_of_block hb8; omega
  have hz12 : w0.heap.size ≤ b12 := Nat.le_trans hB.size hge12
  have hq4_12 : b4 < b12 := Nat.lt_of_lt_of_le (lt_of_block hb4) hge12
  have hq8_12 : b8 < b12 := Nat.lt_of_lt_of_le (lt_of_block hb8) hge12
  replace hd12 : ∀ j, u12.ownBlock = some j → w0.heap.size ≤ j := fun j hj => Nat.le_trans hB.size (hd12 j hj)
  replace hB := keepB0 hg hB
  replace hb4 := keepO0 hg hb4
  replace hb8 := keepO0 hg hb8
  clear hg hge12
  refine ⟨_, rfl, ?_⟩; intro a ha
  refine sv ha (r_assign ha rfl) rfl rfl rfl ?_; clear ha a; intro a ha
  refine hK10 _ _ ?_; clear hK10 K9
  refine wp_seq_k fun K13 hK14 => ?_
  refine region ?_
  refine sv ha (r_assign ha rfl) rfl rfl rfl ?_; clear ha a; intro a ha
  refine hK14 _ _ ?_; clear hK14 K13
  refine wp_seq_k fun K15 hK16 => ?_
  refine wp_seq_k fun K17 hK18 => ?_
  refine region ?_
  refine sv ha (r_move ha rfl) rfl rfl rfl ?_; clear ha a; intro a ha
  refine hK18 _ _ ?_; clear hK18 K17
  refine wp_block ?_
  have hLA := absR_len 168 31 seed
  generalize hA : absR 168 31 noughts seed = A at *
  refine loopG (fun (g : Nat × List Int × Nat) a w => ∃ vl : Value, (g.1 ≤ 24) ∧ (g.2.1.length = 256) ∧ (g.2.2 ≤ 256) ∧ (g.2 = unU (ch A) g.1) ∧ (∀ j, vl.ownBlock = some j → w0.heap.size ≤ j) ∧ (∀ j, vl.ownBlock = some j → j ≠ b4) ∧ (∀ j, vl.ownBlock = some j → j ≠ b8) ∧ (∀ j, vl.ownBlock = some j → j ≠ b12) ∧ Has 73 [(0, v), (2, .pointer (some ⟨b4, 0, none⟩)), (3, .pointer (some ⟨b8, 0, none⟩)), (11, v), (12, .pointer (some ⟨b12, 0, none⟩)), (4, .pointer (some ⟨b12, 0, none⟩)), (13, en g.1), (5, en g.2.2)] a ∧ Below w0.heap.size w0 w ∧ w.heap[b4]? = some (.cells ((List.replicate 256 (0 : Int)).map ei).toArray 25 (0, 0)) ∧ w.heap[b8]? = some (.cells ((g.2.1).map ei).toArray 25 (0, 0)) ∧ w.heap[b12]? = some (.cells (((xU A g.1).1).map e64 ++ [en 168, vl]).toArray 86 (0, 0)) ∧ Sl w vl (((xU A g.1).2).map e8)) (fun g => 24 - g.1) (0, zero256, 0) ⟨u12, (Nat.zero_le _), List.length_replicate, (Nat.zero_le _), (by rw [unU]), hd12, hnb_hs12_b4, hnb_hs12_b8, hnx12, ha.to [0, 2, 3, 11, 12, 4, 13, 5] rfl, hB, hb4, hb8, hb12, (Sl.castM (l := tk A 168) hs12 (by rw [xU_0]))⟩ ?_
  clear ha a hB hb4 hb8 hb12 hs12
  intro g a w19 ⟨vl, hgk, hgl, hgn, hgr, hfr_vl, hnb_vl_b4, hnb_vl_b8, hnb_vl_b12, ha, hB, hb4, hb8, hb12, hsl⟩
  refine wp_seq_k fun K20 hK21 => ?_
  refine region ?_
  refine sv ha (r_lss ha ((g.1 : Nat) : Int) 24 (decide (g.1 < 24)) rfl rfl (decide_eq_decide.2 (by omega))) rfl rfl rfl ?_; clear ha a; intro a ha
  refine hK21 _ _ ?_; clear hK21 K20
  refine wp_seq_k fun K22 hK23 => ?_
  refine cond_if ha rfl (fun hc24 => ?_) (fun hc24 => ?_)
  · skip
    replace hc24 := of_decide_eq_true hc24
    refine wp_skip ?_
    refine hK23 _ _ ?_; clear hK23 K22
    refine wp_seq_k fun K25 hK26 => ?_
    refine wp_block ?_
    refine wp_seq_k fun K27 hK28 => ?_
    refine region ?_
    refine sv ha (r_move ha rfl) rfl rfl rfl ?_; clear ha a; intro a ha
    refine sc ha (r_call ha [.pointer (some ⟨b12, 0, none⟩), ei 168] rfl Tryd.call31) rfl rfl rfl (c_read b12 ((xU A g.1).1) 168 vl ((xU A g.1).2) 168 _ hb12 (by rw [xU_len _ hLA]) hsl hnb_vl_b12 (by omega) (xU_le A g.1) (by omega) (fun _ hg => glob_keep hG (keepB1 hg (hz12) hB))) ?_
    clear ha a
    rintro e w29 ⟨u30, v30, rfl, hg, hb12', hsv30, hov30, ho30, hds_ho30_hsv30⟩
    have hnb_ho30_b4 : ∀ j, u30.ownBlock = some j → j ≠ b4 := fun j hj => by have h1 := (own_row ho30) j hj; have h2 := lt_of_block hb4; omega
    have hnb_ho30_b8 : ∀ j, u30.ownBlock = some j → j ≠ b8 := fun j hj => by have h1 := (own_row ho30) j hj; have h2 := lt_of_block hb8; omega
    have hnb_ho30_b12 : ∀ j, u30.ownBlock = some j → j ≠ b12 := fun j hj => by have h1 := (own_row ho30) j hj; have h2 := lt_of_block hb12; omega
    have hds_ho30_hsl : ∀ j, u30.ownBlock = some j → vl.ownBlock ≠ some j := fun j h1 h2 => by have h3 := (own_row ho30) j h1; have h4 := (fun j hj => hsl.lt j hj) j h2; omega
    have hnb_hsv30_b4 : ∀ j, v30.ownBlock = some j → j ≠ b4 := fun j hj => (hov30 j hj).elim (fun h => hnb_vl_b4 j h) (fun h => by have := lt_of_block hb4; omega)
    have hnb_hsv30_b8 : ∀ j, v30.ownBlock = some j → j ≠ b8 := fun j hj => (hov30 j hj).elim (fun h => hnb_vl_b8 j h) (fun h => by have := lt_of_block hb8; omega)
    have hnb_hsv30_b12 : ∀ j, v30.ownBlock = some j → j ≠ b12 := fun j hj => (hov30 j hj).elim (fun h => hnb_vl_b12 j h) (fun h => by have := lt_of_block hb12; omega)
    have hdv30 : ∀ j, v30.ownBlock = some j → w0.heap.size ≤ j := fun j hj => (hov30 j hj).elim (fun h => hfr_vl j h) (fun h => Nat.le_trans hB.size h)
    replace ho30 := own_base ho30 hB.size
    clear hb12; have hb12 := hb12'; clear hb12'
    replace hB := keepB1 hg (by omega) hB
    replace hb4 := keepO1 hg (by omega) hb4
    replace hb8 := keepO1 hg (by omega) hb8
    clear hg
    refine ⟨_, rfl, ?_⟩; intro a ha
    refine sv ha (r_assign ha rfl) rfl rfl rfl ?_; clear ha a; intro a ha
    refine hK28 _ _ ?_; clear hK28 K27
    refine wp_seq_k fun K31 hK32 => ?_
    refine wp_seq_k fun K33 hK34 => ?_
    refine region ?_
    refine sv ha (r_assign ha rfl) rfl rfl rfl ?_; clear ha a; intro a ha
    refine hK34 _ _ ?_; clear hK34 K33
    refine wp_block ?_
    have hX := xU_out A hLA g.1
    have hXl : (xrun 168 (168 : Int).toNat ((xU A g.1).1, (xU A g.1).2, [])).2.2.length = 168 := by rw [hX, ch_len]
    generalize hX : (xrun 168 (168 : Int).toNat ((xU A g.1).1, (xU A g.1).2, [])).2.2 = X at *
    refine loopG (fun (y : Nat × List Int × Nat) a w => (y.1 ≤ 56) ∧ (y.2.1.length = 256) ∧ (y.2.2 ≤ 256) ∧ (y.2 = rjB (ch A g.1) g.2 y.1) ∧ Has 73 [(0, v), (2, .pointer (some ⟨b4, 0, none⟩)), (3, .pointer (some ⟨b8, 0, none⟩)), (11, v), (12, .pointer (some ⟨b12, 0, none⟩)), (4, .pointer (some ⟨b12, 0, none⟩)), (13, en g.1), (14, .bool (decide (g.1 < 24))), (15, .pointer (some ⟨b12, 0, none⟩)), (16, u30), (6, u30), (7, en (3 * y.1)), (5, en y.2.2)] a ∧ Below w0.heap.size w0 w ∧ w.heap[b4]? = some (.cells ((List.replicate 256 (0 : Int)).map ei).toArray 25 (0, 0)) ∧ w.heap[b8]? = some (.cells ((y.2.1).map ei).toArray 25 (0, 0)) ∧ w.heap[b12]? = some (.cells (((xrun 168 (168 : Int).toNat ((xU A g.1).1, (xU A g.1).2, [])).1).map e64 ++ [en 168, v30]).toArray 86 (0, 0)) ∧ Sl w v30 (((xrun 168 (168 : Int).toNat ((xU A g.1).1, (xU A g.1).2, [])).2.1).map e8) ∧ w.ownsRow w0.heap.size 5 1 u30 X.length (X.map e8)) (fun y => 56 - y.1) (0, g.2) ⟨(Nat.zero_le _), hgl, hgn, (by rw [rjB]), ha.to [0, 2, 3, 11, 12, 4, 13, 14, 15, 16, 6, 7, 5] rfl, hB, hb4, hb8, hb12, hsv30, ho30⟩ ?_
    clear ha a hB hb4 hb8 hb12 hsv30 ho30
    intro y a w35 ⟨hyk, hyl, hyn, hyr, ha, hB, hb4, hb8, hb12, hsv30, ho30⟩
    have hbx1 := (X.getD (3 * y.1) 0).toNat_lt
    have hbx2 := (X.getD (3 * y.1 + 1) 0 &&& 15).toNat_lt
    have hbx3 := (X.getD (3 * y.1 + 1) 0 >>> UInt8.ofNat 4).toNat_lt
    have hbx4 := (X.getD (3 * y.1 + 2) 0).toNat_lt
    refine wp_seq_k fun K36 hK37 => ?_
    refine wp_seq_k fun K38 hK39 => ?_
    refine region ?_
    refine sv ha (r_move ha rfl) rfl rfl rfl ?_; clear ha a; intro a ha
    refine sv ha (r_move ha rfl) rfl rfl rfl ?_; clear ha a; intro a ha
    refine sv ha (r_lenS ha Tryd.runUnderlying22 (Sl.ofOwns ho30) rfl (by rw [List.length_map])) rfl rfl rfl ?_; clear ha a; intro a ha
    refine sv ha (r_lss ha ((3 * y.1 : Nat) : Int) ((X.length : Nat) : Int) (decide (3 * y.1 < X.length)) rfl rfl (decide_eq_decide.2 (by omega))) rfl rfl rfl ?_; clear ha a; intro a ha
    refine hK39 _ _ ?_; clear hK39 K38
    refine cond_if ha rfl (fun hc40 => ?_) (fun hc40 => ?_)
    · skip
      replace hc40 := of_decide_eq_true hc40
      refine wp_skip ?_
      refine hK37 _ _ ?_; clear hK37 K36
      refine wp_seq_k fun K41 hK42 => ?_
      refine wp_block ?_
      refine wp_seq_k fun K43 hK44 => ?_
      refine regionD (S := fun w => Below w0.heap.size w0 w ∧ w.heap[b4]? = some (.cells ((List.replicate 256 (0 : Int)).map ei).toArray 25 (0, 0)) ∧ w.heap[b8]? = some (.cells ((y.2.1).map ei).toArray 25 (0, 0)) ∧ w.heap[b12]? = some (.cells (((xrun 168 (168 : Int).toNat ((xU A g.1).1, (xU A g.1).2, [])).1).map e64 ++ [en 168, v30]).toArray 86 (0, 0)) ∧ Sl w v30 (((xrun 168 (168 : Int).toNat ((xU A g.1).1, (xU A g.1).2, [])).2.1).map e8) ∧ w.ownsRow w0.heap.size 5 1 u30 X.length (X.map e8) ∧ True) [31] [0, 1, 2, 3, 4, 5, 6, 7, 8, 9, 10, 11, 12, 13, 14, 15, 16, 17, 18, 19, 20, 21, 22, 23, 24, 25, 26, 27, 28, 29] [0, 1, 2, 3, 4, 5, 6, 7, 8, 9, 10, 11, 12, 13, 14, 15, 16, 17, 18, 19, 20, 21, 22, 23, 24, 25, 26, 27, 28, 29, 30, 31] mixed (by kernel_rfl) (fun w hg => ⟨keepB0 hg hB, keepO0 hg hb4, keepO0 hg hb8, keepO0 hg hb12, keepS0 hg hsv30, keepW0 hg ho30, trivial⟩) ?_
      intro w45 hg
      replace hB := keepB0 hg hB
      replace hb4 := keepO0 hg hb4
      replace hb8 := keepO0 hg hb8
      replace hb12 := keepO0 hg hb12
      replace hsv30 := keepS0 hg hsv30
      replace ho30 := keepW0 hg ho30
      clear hg
      refine cv ha rfl rfl (fun w _ => r_move ha rfl) rfl rfl rfl ?_; clear ha a; intro a ha
      refine cv ha rfl rfl (fun w _ => r_move ha rfl) rfl rfl rfl ?_; clear ha a; intro a ha
      refine cv ha rfl rfl (fun w ⟨hB, hb4, hb8, hb12, hsv30, ho30, _⟩ => r_indexS (i := 3 * y.1) ha Tryd.runUnderlying22 Tryd.sizeOf5 (Sl.ofOwns ho30) (C := (X).map e8) rfl rfl (by rw [List.length_map]; omega)) rfl rfl rfl ?_; clear ha a; intro a ha
      refine cv ha rfl rfl (fun w ⟨hB, hb4, hb8, hb12, hsv30, ho30, _⟩ => r_loadS ha rfl Tryd.isAgg5 (Sl.ofOwns ho30) (get_map e8 X 0 (3 * y.1) (by omega))) rfl rfl rfl ?_; clear ha a; intro a ha
      refine cv ha rfl rfl (fun w _ => r_conv_u8_i64 ha (X.getD (3 * y.1) 0) Tryd.runUnderlying5 Tryd.runUnderlying3 rfl) rfl rfl rfl ?_; clear ha a; intro a ha
      refine cv ha rfl rfl (fun w _ => r_move ha rfl) rfl rfl rfl ?_; clear ha a; intro a ha
      refine cv ha rfl rfl (fun w _ => r_move ha rfl) rfl rfl rfl ?_; clear ha a; intro a ha
      refine cv ha rfl rfl (fun w _ => rn_add ha (3 * y.1) 1 rfl rfl (by omega)) rfl rfl rfl ?_; clear ha a; intro a ha
      refine cv ha rfl rfl (fun w ⟨hB, hb4, hb8, hb12, hsv30, ho30, _⟩ => r_indexS (i := (3 * y.1) + 1) ha Tryd.runUnderlying22 Tryd.sizeOf5 (Sl.ofOwns ho30) (C := (X).map e8) rfl rfl (by rw [List.length_map]; omega)) rfl rfl rfl ?_; clear ha a; intro a ha
      refine cv ha rfl rfl (fun w ⟨hB, hb4, hb8, hb12, hsv30, ho30, _⟩ => r_loadS ha rfl Tryd.isAgg5 (Sl.ofOwns ho30) (get_map e8 X 0 ((3 * y.1) + 1) (by omega))) rfl rfl rfl ?_; clear ha a; intro a ha
      refine cv ha rfl rfl (fun w _ => rb_and ha (X.getD ((3 * y.1) + 1) 0) (15 : UInt8) rfl rfl) rfl rfl rfl ?_; clear ha a; intro a ha
      refine cv ha rfl rfl (fun w _ => r_conv_u8_i64 ha ((X.getD ((3 * y.1) + 1) 0) &&& (15 : UInt8)) Tryd.runUnderlying5 Tryd.runUnderlying3 rfl) rfl rfl rfl ?_; clear ha a; intro a ha
      refine cv ha rfl rfl (fun w _ => rn_shl ha (((X.getD ((3 * y.1) + 1) 0) &&& (15 : UInt8)).toNat) 8 rfl rfl (by omega) (by omega)) rfl rfl rfl ?_; clear ha a; intro a ha
      refine cv ha rfl rfl (fun w _ => rn_or ha ((X.getD (3 * y.1) 0).toNat) ((((X.getD ((3 * y.1) + 1) 0) &&& (15 : UInt8)).toNat) * 2 ^ 8) rfl rfl (by omega) (by omega)) rfl rfl rfl ?_; clear ha a; intro a ha
      refine cv ha rfl rfl (fun w _ => r_move ha rfl) rfl rfl rfl ?_; clear ha a; intro a ha
      refine cv ha rfl rfl (fun w _ => r_move ha rfl) rfl rfl rfl ?_; clear ha a; intro a ha
      refine cv ha rfl rfl (fun w _ => rn_add ha (3 * y.1) 1 rfl rfl (by omega)) rfl rfl rfl ?_; clear ha a; intro a ha
      refine cv ha rfl rfl (fun w ⟨hB, hb4, hb8, hb12, hsv30, ho30, _⟩ => r_indexS (i := (3 * y.1) + 1) ha Tryd.runUnderlying22 Tryd.sizeOf5 (Sl.ofOwns ho30) (C := (X).map e8) rfl rfl (by rw [List.length_map]; omega)) rfl rfl rfl ?_; clear ha a; intro a ha
      refine cv ha rfl rfl (fun w ⟨hB, hb4, hb8, hb12, hsv30, ho30, _⟩ => r_loadS ha rfl Tryd.isAgg5 (Sl.ofOwns ho30) (get_map e8 X 0 ((3 * y.1) + 1) (by omega))) rfl rfl rfl ?_; clear ha a; intro a ha
      refine cv ha rfl rfl (fun w _ => rb_shr ha (X.getD ((3 * y.1) + 1) 0) 4 rfl rfl (by omega)) rfl rfl rfl ?_; clear ha a; intro a ha
      refine cv ha rfl rfl (fun w _ => r_conv_u8_i64 ha ((X.getD ((3 * y.1) + 1) 0) >>> UInt8.ofNat 4) Tryd.runUnderlying5 Tryd.runUnderlying3 rfl) rfl rfl rfl ?_; clear ha a; intro a ha
      refine cv ha rfl rfl (fun w _ => r_move ha rfl) rfl rfl rfl ?_; clear ha a; intro a ha
      refine cv ha rfl rfl (fun w _ => r_move ha rfl) rfl rfl rfl ?_; clear ha a; intro a ha
      refine cv ha rfl rfl (fun w _ => rn_add ha (3 * y.1) 2 rfl rfl (by omega)) rfl rfl rfl ?_; clear ha a; intro a ha
      refine cv ha rfl rfl (fun w ⟨hB, hb4, hb8, hb12, hsv30, ho30, _⟩ => r_indexS (i := (3 * y.1) + 2) ha Tryd.runUnderlying22 Tryd.sizeOf5 (Sl.ofOwns ho30) (C := (X).map e8) rfl rfl (by rw [List.length_map]; omega)) rfl rfl rfl ?_; clear ha a; intro a ha
      refine cv ha rfl rfl (fun w ⟨hB, hb4, hb8, hb12, hsv30, ho30, _⟩ => r_loadS ha rfl Tryd.isAgg5 (Sl.ofOwns ho30) (get_map e8 X 0 ((3 * y.1) + 2) (by omega))) rfl rfl rfl ?_; clear ha a; intro a ha
      refine cv ha rfl rfl (fun w _ => r_conv_u8_i64 ha (X.getD ((3 * y.1) + 2) 0) Tryd.runUnderlying5 Tryd.runUnderlying3 rfl) rfl rfl rfl ?_; clear ha a; intro a ha
      refine cv ha rfl rfl (fun w _ => rn_shl ha ((X.getD ((3 * y.1) + 2) 0).toNat) 4 rfl rfl (by omega) (by omega)) rfl rfl rfl ?_; clear ha a; intro a ha
      refine cv ha rfl rfl (fun w _ => rn_or ha (((X.getD ((3 * y.1) + 1) 0) >>> UInt8.ofNat 4).toNat) (((X.getD ((3 * y.1) + 2) 0).toNat) * 2 ^ 4) rfl rfl (by omega) (by omega)) rfl rfl rfl ?_; clear ha a; intro a ha
      refine cv ha rfl rfl (fun w _ => r_build (Z := (List.replicate 2 (0 : Int)).map ei) (C := (([((((X.getD (3 * y.1) 0).toNat) ||| ((((X.getD ((3 * y.1) + 1) 0) &&& (15 : UInt8)).toNat) * 2 ^ 8) : Nat) : Int), (((((X.getD ((3 * y.1) + 1) 0) >>> UInt8.ofNat 4).toNat) ||| (((X.getD ((3 * y.1) + 2) 0).toNat) * 2 ^ 4) : Nat) : Int)] : List Int)).map ei) ha _ [(0, en (((X.getD (3 * y.1) 0).toNat) ||| ((((X.getD ((3 * y.1) + 1) 0) &&& (15 : UInt8)).toNat) * 2 ^ 8))), (1, en ((((X.getD ((3 * y.1) + 1) 0) >>> UInt8.ofNat 4).toNat) ||| (((X.getD ((3 * y.1) + 2) 0).toNat) * 2 ^ 4)))] rfl zero_53S2 Tryd.runUnderlying53 Tryd.sizeOf3 rfl) rfl rfl rfl ?_; clear ha a; intro a ha
      refine calloc ha rfl rfl zero_53S2 rfl (fun w hg => ⟨keepB0 hg hB, keepO0 hg hb4, keepO0 hg hb8, keepO0 hg hb12, keepS0 hg hsv30, keepW0 hg ho30, trivial⟩) ?_
      clear ha a; intro a w46 b47 ha hg hb47 hge47 hlt47
      have hz47 : w0.heap.size ≤ b47 := Nat.le_trans hB.size hge47
      have hne_hsv30_b47 : ∀ j, Value.ownBlock v30 = some j → j ≠ b47 := fun j hj => by have := hsv30.lt j hj; omega
      have hne_ho30_b47 : ∀ j, Value.ownBlock u30 = some j → j ≠ b47 := fun j hj => by have := (ho30.lt j hj).2; omega
      have hq4_47 : b4 < b47 := Nat.lt_of_lt_of_le (lt_of_block hb4) hge47
      have hq8_47 : b8 < b47 := Nat.lt_of_lt_of_le (lt_of_block hb8) hge47
      have hq12_47 : b12 < b47 := Nat.lt_of_lt_of_le (lt_of_block hb12) hge47
      replace hB := keepB0 hg hB
      replace hb4 := keepO0 hg hb4
      replace hb8 := keepO0 hg hb8
      replace hb12 := keepO0 hg hb12
      replace hsv30 := keepS0 hg hsv30
      replace ho30 := keepW0 hg ho30
      clear hg hge47 hlt47
      refine cstoreW ha rfl rfl rfl rfl (one_ei _) Tryd.sizeOf53 (by rw [List.length_map, show List.length ([((((X.getD (3 * y.1) 0).toNat) ||| ((((X.getD ((3 * y.1) + 1) 0) &&& (15 : UInt8)).toNat) * 2 ^ 8) : Nat) : Int), (((((X.getD ((3 * y.1) + 1) 0) >>> UInt8.ofNat 4).toNat) ||| (((X.getD ((3 * y.1) + 2) 0).toNat) * 2 ^ 4) : Nat) : Int)] : List Int) = 2 from rfl]) hb47 (by rw [List.length_map, List.length_replicate]) rfl ?_
      clear ha a; intro a w48 ha hg hb47'
      clear hb47; have hb47 := hb47'; clear hb47'
      have hb47 : w48.heap[b47]? = some (.cells ((pcd X y.1).map ei).toArray 53 (0, 0)) := hb47
      replace hB := keepB1 hg (by omega) hB
      replace hb4 := keepO1 hg (by omega) hb4
      replace hb8 := keepO1 hg (by omega) hb8
      replace hb12 := keepO1 hg (by omega) hb12
      replace hsv30 := keepS1 hg (ne_of_ap hne_hsv30_b47) hsv30
      replace ho30 := keepW1 hg (ne_of_ap hne_ho30_b47) ho30
      clear hg
      refine cfin (hK44 _ _ ?_); clear hK44 K43
      refine wp_seq_k fun K49 hK50 => ?_
      refine region ?_
      refine sv ha (r_loadR ha rfl Tryd.isAgg53 Tryd.sizeOf53 (C := (pcd X y.1).map ei) (by rw [List.length_map, pcd_len _ _]) (cells_all hb47)) rfl rfl rfl ?_; clear ha a; intro a ha
      refine sv ha (r_move ha rfl) rfl rfl rfl ?_; clear ha a; intro a ha
      refine hK50 _ _ ?_; clear hK50 K49
      refine wp_block ?_
      refine loopG (fun (z : Nat × List Int × Nat) a w => (z.1 ≤ 2) ∧ (z.2.1.length = 256) ∧ (z.2.2 ≤ 256) ∧ (z.2 = rjC (pcd X y.1) y.2 z.1) ∧ Has 73 [(0, v), (2, .pointer (some ⟨b4, 0, none⟩)), (3, .pointer (some ⟨b8, 0, none⟩)), (11, v), (12, .pointer (some ⟨b12, 0, none⟩)), (4, .pointer (some ⟨b12, 0, none⟩)), (13, en g.1), (14, .bool (decide (g.1 < 24))), (15, .pointer (some ⟨b12, 0, none⟩)), (16, u30), (6, u30), (7, en (3 * y.1)), (17, en (3 * y.1)), (18, u30), (19, en X.length), (20, .bool (decide (3 * y.1 < X.length))), (23, u30), (24, en (3 * y.1)), (25, ptrOf u30 (3 * y.1)), (26, e8 (X.getD (3 * y.1) 0)), (27, en ((X.getD (3 * y.1) 0).toNat)), (28, u30), (29, en (3 * y.1)), (30, en ((3 * y.1) + 1)), (31, ptrOf u30 ((3 * y.1) + 1)), (32, e8 (X.getD ((3 * y.1) + 1) 0)), (33, e8 ((X.getD ((3 * y.1) + 1) 0) &&& (15 : UInt8))), (34, en (((X.getD ((3 * y.1) + 1) 0) &&& (15 : UInt8)).toNat)), (35, en ((((X.getD ((3 * y.1) + 1) 0) &&& (15 : UInt8)).toNat) * 2 ^ 8)), (36, en (((X.getD (3 * y.1) 0).toNat) ||| ((((X.getD ((3 * y.1) + 1) 0) &&& (15 : UInt8)).toNat) * 2 ^ 8))), (37, u30), (38, en (3 * y.1)), (39, en ((3 * y.1) + 1)), (40, ptrOf u30 ((3 * y.1) + 1)), (41, e8 (X.getD ((3 * y.1) + 1) 0)), (42, e8 ((X.getD ((3 * y.1) + 1) 0) >>> UInt8.ofNat 4)), (43, en (((X.getD ((3 * y.1) + 1) 0) >>> UInt8.ofNat 4).toNat)), (44, u30), (45, en (3 * y.1)), (46, en ((3 * y.1) + 2)), (47, ptrOf u30 ((3 * y.1) + 2)), (48, e8 (X.getD ((3 * y.1) + 2) 0)), (49, en ((X.getD ((3 * y.1) + 2) 0).toNat)), (50, en (((X.getD ((3 * y.1) + 2) 0).toNat) * 2 ^ 4)), (51, en ((((X.getD ((3 * y.1) + 1) 0) >>> UInt8.ofNat 4).toNat) ||| (((X.getD ((3 * y.1) + 2) 0).toNat) * 2 ^ 4))), (52, .agg ((([((((X.getD (3 * y.1) 0).toNat) ||| ((((X.getD ((3 * y.1) + 1) 0) &&& (15 : UInt8)).toNat) * 2 ^ 8) : Nat) : Int), (((((X.getD ((3 * y.1) + 1) 0) >>> UInt8.ofNat 4).toNat) ||| (((X.getD ((3 * y.1) + 2) 0).toNat) * 2 ^ 4) : Nat) : Int)] : List Int)).map ei).toArray), (8, .pointer (some ⟨b47, 0, none⟩)), (53, .agg ((pcd X y.1).map ei).toArray), (54, en z.1), (5, en z.2.2)] a ∧ Below w0.heap.size w0 w ∧ w.heap[b4]? = some (.cells ((List.replicate 256 (0 : Int)).map ei).toArray 25 (0, 0)) ∧ w.heap[b8]? = some (.cells ((z.2.1).map ei).toArray 25 (0, 0)) ∧ w.heap[b12]? = some (.cells (((xrun 168 (168 : Int).toNat ((xU A g.1).1, (xU A g.1).2, [])).1).map e64 ++ [en 168, v30]).toArray 86 (0, 0)) ∧ w.heap[b47]? = some (.cells ((pcd X y.1).map ei).toArray 53 (0, 0)) ∧ Sl w v30 (((xrun 168 (168 : Int).toNat ((xU A g.1).1, (xU A g.1).2, [])).2.1).map e8) ∧ w.ownsRow w0.heap.size 5 1 u30 X.length (X.map e8)) (fun z => 2 - z.1) (0, y.2) ⟨(Nat.zero_le _), hyl, hyn, (by rw [rjC]), ha.to [0, 2, 3, 11, 12, 4, 13, 14, 15, 16, 6, 7, 17, 18, 19, 20, 23, 24, 25, 26, 27, 28, 29, 30, 31, 32, 33, 34, 35, 36, 37, 38, 39, 40, 41, 42, 43, 44, 45, 46, 47, 48, 49, 50, 51, 52, 8, 53, 54, 5] rfl, hB, hb4, hb8, hb12, hb47, hsv30, ho30⟩ ?_
      clear ha a hB hb4 hb8 hb12 hb47 hsv30 ho30
      intro z a w51 ⟨hzk, hzl, hzn, hzr, ha, hB, hb4, hb8, hb12, hb47, hsv30, ho30⟩
      refine wp_seq_k fun K52 hK53 => ?_
      refine region ?_
      refine sv ha (r_lss ha ((z.1 : Nat) : Int) 2 (decide (z.1 < 2)) rfl rfl (decide_eq_decide.2 (by omega))) rfl rfl rfl ?_; clear ha a; intro a ha
      refine hK53 _ _ ?_; clear hK53 K52
      refine wp_seq_k fun K54 hK55 => ?_
      refine cond_if ha rfl (fun hc56 => ?_) (fun hc56 => ?_)
      · skip
        replace hc56 := of_decide_eq_true hc56
        refine wp_skip ?_
        refine hK55 _ _ ?_; clear hK55 K54
        refine wp_seq_k fun K57 hK58 => ?_
        refine wp_block ?_
        refine wp_seq_k fun K59 hK60 => ?_
        refine region ?_
        refine sv ha (r_index (C := (pcd X y.1).map ei) ha z.1 rfl rfl Tryd.runUnderlying53 Tryd.sizeOf3 Tryd.isAgg3 (by omega) (get_map ei (pcd X y.1) 0 z.1 (by rw [pcd_len _ _]; omega))) rfl rfl rfl ?_; clear ha a; intro a ha
        refine sv ha (r_assign ha rfl) rfl rfl rfl ?_; clear ha a; intro a ha
        refine hK60 _ _ ?_; clear hK60 K59
        refine wp_seq_k fun K61 hK62 => ?_
        refine region ?_
        refine sv ha (r_move ha rfl) rfl rfl rfl ?_; clear ha a; intro a ha
        refine sv ha (r_lss ha ((pcd X y.1).getD z.1 0) 3329 (decide ((pcd X y.1).getD z.1 0 < 3329)) rfl rfl (decide_eq_decide.2 (by omega))) rfl rfl rfl ?_; clear ha a; intro a ha
        refine sv ha (r_move ha rfl) rfl rfl rfl ?_; clear ha a; intro a ha
        cases hq63 : (decide ((pcd X y.1).getD z.1 0 < 3329))
        all_goals rw [hq63] at ha
        case false =>
          replace hq63 := of_decide_eq_false hq63
          refine sno ha rfl rfl rfl rfl rfl rfl ?_; clear ha a; intro a ha
          refine sno ha rfl rfl rfl rfl rfl rfl ?_; clear ha a; intro a ha
          refine sv ha (r_pick ha false rfl rfl) rfl rfl rfl ?_; clear ha a; intro a ha
          refine hK62 _ _ ?_; clear hK62 K61
          refine cond_f ha rfl ?_
          refine wp_skip ?_
          refine hK58 _ _ ?_; clear hK58 K57
          refine region ?_
          refine sv ha (rn_add ha z.1 1 rfl rfl (by omega)) rfl rfl rfl ?_; clear ha a; intro a ha
          refine sv ha (r_move ha rfl) rfl rfl rfl ?_; clear ha a; intro a ha
          exact ⟨(z.1 + 1, z.2.1, z.2.2), (by show 2 - (z.1 + 1) < 2 - z.1; omega), (by show z.1 + 1 ≤ 2; omega), (by first | exact hzl | (show (List.set _ _ _).length = 256; rw [List.length_set]; exact hzl)), (by first | exact hzn | (show z.2.2 + 1 ≤ 256; omega)), (by rw [rjC, ← hzr, rej]; first | (rw [if_pos (by omega)]; done) | (rw [if_neg (by omega)]; done)), ha.to [0, 2, 3, 11, 12, 4, 13, 14, 15, 16, 6, 7, 17, 18, 19, 20, 23, 24, 25, 26, 27, 28, 29, 30, 31, 32, 33, 34, 35, 36, 37, 38, 39, 40, 41, 42, 43, 44, 45, 46, 47, 48, 49, 50, 51, 52, 8, 53, 54, 5] rfl, hB, hb4, hb8, hb12, hb47, hsv30, ho30⟩
        case true =>
          replace hq63 := of_decide_eq_true hq63
          refine svg ha (r_move ha rfl) rfl rfl rfl rfl rfl ?_; clear ha a; intro a ha
          refine svg ha (r_lss ha ((z.2.2 : Nat) : Int) 256 (decide (z.2.2 < 256)) rfl rfl (decide_eq_decide.2 (by omega))) rfl rfl rfl rfl rfl ?_; clear ha a; intro a ha
          refine sv ha (r_pick ha true rfl rfl) rfl rfl rfl ?_; clear ha a; intro a ha
          refine hK62 _ _ ?_; clear hK62 K61
          refine cond_if ha rfl (fun hc64 => ?_) (fun hc64 => ?_)
          · skip
            replace hc64 := of_decide_eq_true hc64
            refine wp_seq_k fun K65 hK66 => ?_
            refine region ?_
            refine sv ha (r_move ha rfl) rfl rfl rfl ?_; clear ha a; intro a ha
            refine sv ha (r_move ha rfl) rfl rfl rfl ?_; clear ha a; intro a ha
            refine sv ha (r_indexArr (i := z.2.2) ha z.2.2 Tryd.runUnderlying25 Tryd.sizeOf3 rfl rfl (by omega) (by omega)) rfl rfl rfl ?_; clear ha a; intro a ha
            refine sstore ha (v := ei ((pcd X y.1).getD z.1 0)) rfl rfl rfl rfl Tryd.sizeOf3 hb8 (by rw [List.length_map, hzl]; omega) ?_
            clear ha a; intro a w67 ha hg hb8'
            rw [set_map] at hb8'
            clear hb8; have hb8 := hb8'; clear hb8'
            replace hB := keepB1 hg (by omega) hB
            replace hb4 := keepO1 hg (by omega) hb4
            replace hb12 := keepO1 hg (by omega) hb12
            replace hb47 := keepO1 hg (by omega) hb47
            replace hsv30 := keepS1 hg (ne_of_ap hnb_hsv30_b8) hsv30
            replace ho30 := keepW1 hg (ne_of_ap hnb_ho30_b8) ho30
            clear hg
            refine hK66 _ _ ?_; clear hK66 K65
            refine region ?_
            refine sv ha (r_move ha rfl) rfl rfl rfl ?_; clear ha a; intro a ha
            refine sv ha (rn_add ha z.2.2 1 rfl rfl (by omega)) rfl rfl rfl ?_; clear ha a; intro a ha
            refine sv ha (r_assign ha rfl) rfl rfl rfl ?_; clear ha a; intro a ha
            refine hK58 _ _ ?_; clear hK58 K57
            refine region ?_
            refine sv ha (rn_add ha z.1 1 rfl rfl (by omega)) rfl rfl rfl ?_; clear ha a; intro a ha
            refine sv ha (r_move ha rfl) rfl rfl rfl ?_; clear ha a; intro a ha
            exact ⟨(z.1 + 1, z.2.1.set z.2.2 ((pcd X y.1).getD z.1 0), z.2.2 + 1), (by show 2 - (z.1 + 1) < 2 - z.1; omega), (by show z.1 + 1 ≤ 2; omega), (by first | exact hzl | (show (List.set _ _ _).length = 256; rw [List.length_set]; exact hzl)), (by first | exact hzn | (show z.2.2 + 1 ≤ 256; omega)), (by rw [rjC, ← hzr, rej]; first | (rw [if_pos (by omega)]; done) | (rw [if_neg (by omega)]; done)), ha.to [0, 2, 3, 11, 12, 4, 13, 14, 15, 16, 6, 7, 17, 18, 19, 20, 23, 24, 25, 26, 27, 28, 29, 30, 31, 32, 33, 34, 35, 36, 37, 38, 39, 40, 41, 42, 43, 44, 45, 46, 47, 48, 49, 50, 51, 52, 8, 53, 54, 5] rfl, hB, hb4, hb8, hb12, hb47, hsv30, ho30⟩
          · skip
            replace hc64 := of_decide_eq_false hc64
            refine wp_skip ?_
            refine hK58 _ _ ?_; clear hK58 K57
            refine region ?_
            refine sv ha (rn_add ha z.1 1 rfl rfl (by omega)) rfl rfl rfl ?_; clear ha a; intro a ha
            refine sv ha (r_move ha rfl) rfl rfl rfl ?_; clear ha a; intro a ha
            exact ⟨(z.1 + 1, z.2.1, z.2.2), (by show 2 - (z.1 + 1) < 2 - z.1; omega), (by show z.1 + 1 ≤ 2; omega), (by first | exact hzl | (show (List.set _ _ _).length = 256; rw [List.length_set]; exact hzl)), (by first | exact hzn | (show z.2.2 + 1 ≤ 256; omega)), (by rw [rjC, ← hzr, rej]; first | (rw [if_pos (by omega)]; done) | (rw [if_neg (by omega)]; done)), ha.to [0, 2, 3, 11, 12, 4, 13, 14, 15, 16, 6, 7, 17, 18, 19, 20, 23, 24, 25, 26, 27, 28, 29, 30, 31, 32, 33, 34, 35, 36, 37, 38, 39, 40, 41, 42, 43, 44, 45, 46, 47, 48, 49, 50, 51, 52, 8, 53, 54, 5] rfl, hB, hb4, hb8, hb12, hb47, hsv30, ho30⟩
      · skip
        replace hc56 := of_decide_eq_false hc56
        refine wp_exit ?_
        have hz1 : z.1 = 2 := by omega
        refine hK42 _ _ ?_; clear hK55 K54 hK42 K41
        refine region ?_
        refine sv ha (r_move ha rfl) rfl rfl rfl ?_; clear ha a; intro a ha
        refine sv ha (rn_add ha (3 * y.1) 3 rfl rfl (by omega)) rfl rfl rfl ?_; clear ha a; intro a ha
        refine sv ha (r_assign ha rfl) rfl rfl rfl ?_; clear ha a; intro a ha
        exact ⟨(y.1 + 1, z.2), (by show 56 - (y.1 + 1) < 56 - y.1; omega), (by show y.1 + 1 ≤ 56; omega), hzl, hzn, (by show z.2 = _; rw [hzr, hz1, hyr, rjB, hX]), ha.to [0, 2, 3, 11, 12, 4, 13, 14, 15, 16, 6, 7, 5] rfl, hB, hb4, hb8, hb12, hsv30, ho30⟩
    · skip
      replace hc40 := of_decide_eq_false hc40
      refine wp_exit ?_
      refine hK32 _ _ ?_; clear hK37 K36 hK32 K31
      refine wp_seq_k fun K68 hK69 => ?_
      refine region ?_
      refine sv ha (r_move ha rfl) rfl rfl rfl ?_; clear ha a; intro a ha
      refine sv ha (r_eql ha ((y.2.2 : Nat) : Int) 256 (decide (y.2.2 = 256)) rfl rfl (decide_eq_decide.2 (by omega))) rfl rfl rfl ?_; clear ha a; intro a ha
      refine hK69 _ _ ?_; clear hK69 K68
      refine cond_if ha rfl (fun hc70 => ?_) (fun hc70 => ?_)
      · skip
        replace hc70 := of_decide_eq_true hc70
        refine wp_exit ?_
        refine hK16 _ _ ?_; clear hK26 K25 hK16 K15
        refine wp_seq_k fun K71 hK72 => ?_
        refine region ?_
        refine sv ha (r_loadR ha rfl Tryd.isAgg25 Tryd.sizeOf25 (C := (y.2.1).map ei) (by rw [List.length_map, hyl]) (cells_all hb8)) rfl rfl rfl ?_; clear ha a; intro a ha
        refine sstoreW ha rfl rfl (one_ei _) Tryd.sizeOf25 (by rw [List.length_map, hyl]) hb4 (by rw [List.length_map, List.length_replicate]) ?_
        clear ha a; intro a w73 ha hg hb4'
        clear hb4; have hb4 := hb4'; clear hb4'
        replace hB := keepB1 hg (by omega) hB
        replace hb8 := keepO1 hg (by omega) hb8
        replace hb12 := keepO1 hg (by omega) hb12
        replace hsv30 := keepS1 hg (ne_of_ap hnb_hsv30_b4) hsv30
        replace ho30 := keepW1 hg (ne_of_ap hnb_ho30_b4) ho30
        clear hg
        refine hK72 _ _ ?_; clear hK72 K71
        refine wp_ret ?_
        repeat (first | (with_reducible refine t_ret ?_) | (with_reducible refine x_ret ?_))
        exact retC _ ha Tryd.results12 rfl hb4 Tryd.underlying25 rfl (by rw [List.length_map, hyl]; kernel_rfl) ⟨(congrArg (fun l : List Int => Ending.returned (Value.agg (l.map ei).toArray)) (by first | exact uni_of seed A hA (g.1 + 1) (by omega) y.2 (by rw [hyr, hgr]; exact unU_end _ _ _ (.inl (by omega)) (by omega)) (.inr (by omega)) | exact uni_of seed A hA g.1 (by omega) g.2 hgr (.inl (by omega)))), hB⟩
      · skip
        replace hc70 := of_decide_eq_false hc70
        refine wp_skip ?_
        refine hK26 _ _ ?_; clear hK26 K25
        refine region ?_
        refine sv ha (rn_add ha g.1 1 rfl rfl (by omega)) rfl rfl rfl ?_; clear ha a; intro a ha
        refine sv ha (r_move ha rfl) rfl rfl rfl ?_; clear ha a; intro a ha
        exact ⟨(g.1 + 1, y.2), (by show 24 - (g.1 + 1) < 24 - g.1; omega), v30, (by show g.1 + 1 ≤ 24; omega), hyl, hyn, (by show y.2 = _; rw [hyr, hgr]; exact unU_end _ _ _ (.inl (by omega)) (by omega)), hdv30, hnb_hsv30_b4, hnb_hsv30_b8, hnb_hsv30_b12, ha.to [0, 2, 3, 11, 12, 4, 13, 5] rfl, hB, hb4, hb8, (by rw [← xU_sa _ hLA]; exact hb12), (Sl.castM (l := (xrun 168 (168 : Int).toNat ((xU A g.1).1, (xU A g.1).2, [])).2.1) hsv30 (xU_sl _ hLA _))⟩
  · skip
    replace hc24 := of_decide_eq_false hc24
    refine wp_exit ?_
    refine hK16 _ _ ?_; clear hK23 K22 hK16 K15
    refine wp_seq_k fun K74 hK75 => ?_
    refine region ?_
    refine sv ha (r_loadR ha rfl Tryd.isAgg25 Tryd.sizeOf25 (C := (g.2.1).map ei) (by rw [List.length_map, hgl]) (cells_all hb8)) rfl rfl rfl ?_; clear ha a; intro a ha
    refine sstoreW ha rfl rfl (one_ei _) Tryd.sizeOf25 (by rw [List.length_map, hgl]) hb4 (by rw [List.length_map, List.length_replicate]) ?_
    clear ha a; intro a w76 ha hg hb4'
    clear hb4; have hb4 := hb4'; clear hb4'
    replace hB := keepB1 hg (by omega) hB
    replace hb8 := keepO1 hg (by omega) hb8
    replace hb12 := keepO1 hg (by omega) hb12
    replace hsl := keepS1 hg (ne_of_ap hnb_vl_b4) hsl
    clear hg
    refine hK75 _ _ ?_; clear hK75 K74
    refine wp_ret ?_
    repeat (first | (with_reducible refine t_ret ?_) | (with_reducible refine x_ret ?_))
    exact retC _ ha Tryd.results12 rfl hb4 Tryd.underlying25 rfl (by rw [List.length_map, hgl]; kernel_rfl) ⟨(congrArg (fun l : List Int => Ending.returned (Value.agg (l.map ei).toArray)) (by first | exact uni_of seed A hA (g.1 + 1) (by omega) y.2 (by rw [hyr, hgr]; exact unU_end _ _ _ (.inl (by omega)) (by omega)) (.inr (by omega)) | exact uni_of seed A hA g.1 (by omega) g.2 hgr (.inl (by omega)))), hB⟩
end Go.Proofs.YtaignhikdfpbbaaDoor
