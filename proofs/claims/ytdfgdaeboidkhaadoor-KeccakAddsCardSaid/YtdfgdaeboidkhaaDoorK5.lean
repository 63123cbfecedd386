/- WALKS written by gen.py (own program) out of specs. -/
import Derived.Test.YtdfgdaeboidkhaaDoorK4
import Derived.Test.YtdfgdaeboidkhaaDoorPy
namespace Go.Proofs.YtdfgdaeboidkhaaDoor
open Go.RowKit Go.Rx
set_option maxRecDepth 100000
set_option maxHeartbeats 4000000
set_option linter.unusedVariables false

theorem zero_23K5 : ∀ w, (zeroValue 23).run Tryd.prog w = .ok (.agg ((List.replicate 25 (0 : UInt64)).map e64).toArray) w := fun _ => by kernel_rfl
theorem law_KeccakMany (l : List UInt64) (f m : Int) (w0 : World) (hl : l.length = 25) (hG : Glob w0) :
    Calls Tryd.prog 11 #[.agg ((l).map e64).toArray, ei f, ei m] w0 fun e w' => e = .returned (.bool true) ∧ Below w0.heap.size w0 w' := by
  refine enter (args := [_, _, _]) Tryd.func11 rfl Tryd.ntmps11 rfl ?_
  intro a ha
  have hB := Below.refl w0.heap.size w0
  refine wp_seq_k fun K1 hK2 => ?_
  refine region ?_
  refine sbox ha rfl rfl ?_
  clear ha a; intro a w3 b4 ha hg hb4 hge4 hlt4
  have hz4 : w0.heap.size ≤ b4 := Nat.le_trans hB.size hge4
  replace hB := keepB0 hg hB
  clear hg hge4 hlt4
  refine sv ha (r_assign ha rfl) rfl rfl rfl ?_; clear ha a; intro a ha
  refine hK2 _ _ ?_; clear hK2 K1
  refine wp_seq_k fun K5 hK6 => ?_
  refine region ?_
  refine sc ha (r_call ha [] rfl Tryd.call13) rfl rfl rfl (c_awake  _ (glob_keep hG hB)) ?_
  clear ha a
  rintro e w7 ⟨rfl, hBc⟩
  have hg := grown_call hBc; clear hBc
  replace hB := keepB0 hg hB
  replace hb4 := keepO0 hg hb4
  clear hg
  refine ⟨_, rfl, ?_⟩; intro a ha
  refine sv ha (r_assign ha rfl) rfl rfl rfl ?_; clear ha a; intro a ha
  refine hK6 _ _ ?_; clear hK6 K5
  refine wp_seq_k fun K8 hK9 => ?_
  refine wp_seq_k fun K10 hK11 => ?_
  refine region ?_
  refine sv ha (r_move ha rfl) rfl rfl rfl ?_; clear ha a; intro a ha
  refine sv ha (r_not ha true false rfl rfl) rfl rfl rfl ?_; clear ha a; intro a ha
  refine hK11 _ _ ?_; clear hK11 K10
  refine cond_f ha rfl ?_
  refine wp_skip ?_
  refine hK9 _ _ ?_; clear hK9 K8
  refine wp_seq_k fun K12 hK13 => ?_
  refine region ?_
  refine sv ha (r_sliceA ha Tryd.runUnderlying23 Tryd.sizeOf22 rfl) rfl rfl rfl ?_; clear ha a; intro a ha
  refine sv ha (r_assign ha rfl) rfl rfl rfl ?_; clear ha a; intro a ha
  refine hK13 _ _ ?_; clear hK13 K12
  refine wp_seq_k fun K14 hK15 => ?_
  refine wp_seq_k fun K16 hK17 => ?_
  refine region ?_
  refine sv ha (r_assign ha rfl) rfl rfl rfl ?_; clear ha a; intro a ha
  refine hK17 _ _ ?_; clear hK17 K16
  refine wp_block ?_
  refine loopG (fun (i : Nat) a w => ∃ vw : Value, (i ≤ (m % (2 ^ 3 : Nat)).toNat) ∧ Has 44 [(0, .agg ((l).map e64).toArray), (1, ei f), (2, ei m), (3, .pointer (some ⟨b4, 0, none⟩)), (6, .bool false), (12, .bool true), (7, .bool true), (13, .bool true), (14, .bool false), (15, .slice (some ⟨b4, 0, none⟩) 25 25), (9, en i), (8, vw)] a ∧ Below w0.heap.size w0 w ∧ w.heap[b4]? = some (.cells ((l).map e64).toArray 23 (0, 0)) ∧ Sl w vw ((rmany l (f % (2 ^ 5 : Nat)).toNat i).map e64)) (fun i => (m % (2 ^ 3 : Nat)).toNat - i) 0 ⟨.slice (some ⟨b4, 0, none⟩) 25 25, (by omega), ha.to [0, 1, 2, 3, 6, 12, 7, 13, 14, 15, 9, 8] rfl, hB, hb4, (show Sl _ _ ((l).map e64) from (Sl.ofBlockM hb4 (by rw [hl]) (by omega)))⟩ ?_
  clear ha a hB hb4
  intro i a w18 ⟨vw, hki, ha, hB, hb4, hsw⟩
  refine wp_seq_k fun K19 hK20 => ?_
  refine wp_seq_k fun K21 hK22 => ?_
  refine region ?_
  refine sv ha (r_move ha rfl) rfl rfl rfl ?_; clear ha a; intro a ha
  refine sv ha (r_move ha rfl) rfl rfl rfl ?_; clear ha a; intro a ha
  refine sv ha (r_mask ha m 3 (by omega) (m := 7) rfl rfl rfl) rfl rfl rfl ?_; clear ha a; intro a ha
  refine sv ha (r_lss ha ((i : Nat) : Int) (((m % (2 ^ 3 : Nat)).toNat : Nat) : Int) (decide (i < (m % (2 ^ 3 : Nat)).toNat)) rfl rfl (decide_eq_decide.2 (by omega))) rfl rfl rfl ?_; clear ha a; intro a ha
  refine hK22 _ _ ?_; clear hK22 K21
  refine cond_if ha rfl (fun hc23 => ?_) (fun hc23 => ?_)
  · skip
    replace hc23 := of_decide_eq_true hc23
    refine wp_skip ?_
    refine hK20 _ _ ?_; clear hK20 K19
    refine wp_seq_k fun K24 hK25 => ?_
    refine wp_block ?_
    refine region ?_
    refine sv ha (r_move ha rfl) rfl rfl rfl ?_; clear ha a; intro a ha
    refine sv ha (r_move ha rfl) rfl rfl rfl ?_; clear ha a; intro a ha
    refine sv ha (r_mask ha f 5 (by omega) (m := 31) rfl rfl rfl) rfl rfl rfl ?_; clear ha a; intro a ha
    refine sv ha (r_move ha rfl) rfl rfl rfl ?_; clear ha a; intro a ha
    refine sv ha (rn_add ha ((f % (2 ^ 5 : Nat)).toNat) i rfl rfl (by omega)) rfl rfl rfl ?_; clear ha a; intro a ha
    refine sc ha (r_call ha [vw, ei ((((f % (2 ^ 5 : Nat)).toNat) + i : Nat) : Int)] rfl Tryd.call26) rfl rfl rfl (c_rRoundZ vw (rmany l (f % (2 ^ 5 : Nat)).toNat i) ((((f % (2 ^ 5 : Nat)).toNat) + i : Nat) : Int) _ hsw (by rw [rmany_len l hl _ _])) ?_
    clear ha a
    rintro e w26 ⟨u27, rfl, hBc, hs27⟩
    have hg := grown_call hBc; clear hBc
    replace hB := keepB0 hg hB
    replace hb4 := keepO0 hg hb4
    replace hsw := keepS0 hg hsw
    clear hg
    refine ⟨_, rfl, ?_⟩; intro a ha
    refine sv ha (r_assign ha rfl) rfl rfl rfl ?_; clear ha a; intro a ha
    refine hK25 _ _ ?_; clear hK25 K24
    refine region ?_
    refine sv ha (r_move ha rfl) rfl rfl rfl ?_; clear ha a; intro a ha
    refine sv ha (rn_add ha i 1 rfl rfl (by omega)) rfl rfl rfl ?_; clear ha a; intro a ha
    refine sv ha (r_assign ha rfl) rfl rfl rfl ?_; clear ha a; intro a ha
    exact ⟨i + 1, by omega, u27, (by omega), ha.to [0, 1, 2, 3, 6, 12, 7, 13, 14, 15, 9, 8] rfl, hB, hb4, (show Sl _ _ ((rroundZ (rmany l (f % (2 ^ 5 : Nat)).toNat i) ((((f % (2 ^ 5 : Nat)).toNat) + i : Nat) : Int)).map e64) from hs27)⟩
  · skip
    replace hc23 := of_decide_eq_false hc23
    refine wp_exit ?_
    obtain rfl : i = (m % (2 ^ 3 : Nat)).toNat := by omega
    refine hK15 _ _ ?_; clear hK20 K19 hK15 K14
    refine wp_seq_k fun K28 hK29 => ?_
    refine region ?_
    refine sv ha (r_loadR ha rfl Tryd.isAgg23 Tryd.sizeOf23 (C := (l).map e64) (by rw [List.length_map, hl]) (cells_all hb4)) rfl rfl rfl ?_; clear ha a; intro a ha
    refine salloc ha zero_23K5 rfl ?_
    clear ha a; intro a w30 b31 ha hg hb31 hge31 hlt31
    have hz31 : w0.heap.size ≤ b31 := Nat.le_trans hB.size hge31
    have hne_hsw_b31 : ∀ j, Value.ownBlock vw = some j → j ≠ b31 := fun j hj => by have := hsw.lt j hj; omega
    have hq4_31 : b4 < b31 := Nat.lt_of_lt_of_le (lt_of_block hb4) hge31
    replace hB := keepB0 hg hB
    replace hb4 := keepO0 hg hb4
    replace hsw := keepS0 hg hsw
    clear hg hge31 hlt31
    refine sstoreW ha rfl rfl (one_e64 _) Tryd.sizeOf23 (by rw [List.length_map, hl]) hb31 (by rw [List.length_map, List.length_replicate]) ?_
    clear ha a; intro a w32 ha hg hb31'
    clear hb31; have hb31 := hb31'; clear hb31'
    replace hB := keepB1 hg (by omega) hB
    replace hb4 := keepO1 hg (by omega) hb4
    replace hsw := keepS1 hg (fun e => hne_hsw_b31 _ e rfl) hsw
    clear hg
    refine hK29 _ _ ?_; clear hK29 K28
    refine wp_seq_k fun K33 hK34 => ?_
    refine wp_seq_k fun K35 hK36 => ?_
    refine region ?_
    refine sv ha (r_assign ha rfl) rfl rfl rfl ?_; clear ha a; intro a ha
    refine hK36 _ _ ?_; clear hK36 K35
    refine wp_block ?_
    refine loopG (fun (i : Nat) a w => (i ≤ (m % (2 ^ 3 : Nat)).toNat) ∧ Has 44 [(0, .agg ((l).map e64).toArray), (1, ei f), (2, ei m), (3, .pointer (some ⟨b4, 0, none⟩)), (6, .bool false), (12, .bool true), (7, .bool true), (13, .bool true), (14, .bool false), (15, .slice (some ⟨b4, 0, none⟩) 25 25), (9, en ((m % (2 ^ 3 : Nat)).toNat)), (8, vw), (16, en ((m % (2 ^ 3 : Nat)).toNat)), (17, ei m), (18, en ((m % (2 ^ 3 : Nat)).toNat)), (19, .bool (decide (((m % (2 ^ 3 : Nat)).toNat) < (m % (2 ^ 3 : Nat)).toNat))), (28, .agg ((l).map e64).toArray), (10, .pointer (some ⟨b31, 0, none⟩)), (11, en i)] a ∧ Below w0.heap.size w0 w ∧ w.heap[b4]? = some (.cells ((l).map e64).toArray 23 (0, 0)) ∧ w.heap[b31]? = some (.cells ((kmany l (f % (2 ^ 5 : Nat)).toNat i).map e64).toArray 23 (0, 0)) ∧ Sl w vw ((rmany l (f % (2 ^ 5 : Nat)).toNat ((m % (2 ^ 3 : Nat)).toNat)).map e64)) (fun i => (m % (2 ^ 3 : Nat)).toNat - i) 0 ⟨(by omega), ha.to [0, 1, 2, 3, 6, 12, 7, 13, 14, 15, 9, 8, 16, 17, 18, 19, 28, 10, 11] rfl, hB, hb4, hb31, hsw⟩ ?_
    clear ha a hB hb4 hb31 hsw
    intro i a w37 ⟨hki, ha, hB, hb4, hb31, hsw⟩
    refine wp_seq_k fun K38 hK39 => ?_
    refine wp_seq_k fun K40 hK41 => ?_
    refine region ?_
    refine sv ha (r_move ha rfl) rfl rfl rfl ?_; clear ha a; intro a ha
    refine sv ha (r_move ha rfl) rfl rfl rfl ?_; clear ha a; intro a ha
    refine sv ha (r_mask ha m 3 (by omega) (m := 7) rfl rfl rfl) rfl rfl rfl ?_; clear ha a; intro a ha
    refine sv ha (r_lss ha ((i : Nat) : Int) (((m % (2 ^ 3 : Nat)).toNat : Nat) : Int) (decide (i < (m % (2 ^ 3 : Nat)).toNat)) rfl rfl (decide_eq_decide.2 (by omega))) rfl rfl rfl ?_; clear ha a; intro a ha
    refine hK41 _ _ ?_; clear hK41 K40
    refine cond_if ha rfl (fun hc42 => ?_) (fun hc42 => ?_)
    · skip
      replace hc42 := of_decide_eq_true hc42
      refine wp_skip ?_
      refine hK39 _ _ ?_; clear hK39 K38
      refine wp_seq_k fun K43 hK44 => ?_
      refine wp_block ?_
      refine region ?_
      refine sv ha (r_loadR ha rfl Tryd.isAgg23 Tryd.sizeOf23 (C := (kmany l (f % (2 ^ 5 : Nat)).toNat i).map e64) (by rw [List.length_map, kmany_len l hl _ _]) (cells_all hb31)) rfl rfl rfl ?_; clear ha a; intro a ha
      refine sv ha (r_move ha rfl) rfl rfl rfl ?_; clear ha a; intro a ha
      refine sv ha (r_mask ha f 5 (by omega) (m := 31) rfl rfl rfl) rfl rfl rfl ?_; clear ha a; intro a ha
      refine sv ha (r_move ha rfl) rfl rfl rfl ?_; clear ha a; intro a ha
      refine sv ha (rn_add ha ((f % (2 ^ 5 : Nat)).toNat) i rfl rfl (by omega)) rfl rfl rfl ?_; clear ha a; intro a ha
      refine sc ha (r_call ha [.agg (((kmany l (f % (2 ^ 5 : Nat)).toNat i)).map e64).toArray, ei ((((f % (2 ^ 5 : Nat)).toNat) + i : Nat) : Int)] rfl Tryd.call25) rfl rfl rfl (c_roundZ (kmany l (f % (2 ^ 5 : Nat)).toNat i) ((((f % (2 ^ 5 : Nat)).toNat) + i : Nat) : Int) _ (by rw [kmany_len l hl _ _]) (glob_keep hG hB)) ?_
      clear ha a
      rintro e w45 ⟨rfl, hBc⟩
      have hg := grown_call hBc; clear hBc
      replace hB := keepB0 hg hB
      replace hb4 := keepO0 hg hb4
      replace hb31 := keepO0 hg hb31
      replace hsw := keepS0 hg hsw
      clear hg
      refine ⟨_, rfl, ?_⟩; intro a ha
      refine sstoreW ha rfl rfl (one_e64 _) Tryd.sizeOf23 (by rw [List.length_map, kroundZ_len _ _ (by rw [kmany_len l hl _ _])]) hb31 (by rw [List.length_map, kmany_len l hl _ _]) ?_
      clear ha a; intro a w46 ha hg hb31'
      clear hb31; have hb31 := hb31'; clear hb31'
      replace hB := keepB1 hg (by omega) hB
      replace hb4 := keepO1 hg (by omega) hb4
      replace hsw := keepS1 hg (fun e => hne_hsw_b31 _ e rfl) hsw
      clear hg
      refine hK44 _ _ ?_; clear hK44 K43
      refine region ?_
      refine sv ha (r_move ha rfl) rfl rfl rfl ?_; clear ha a; intro a ha
      refine sv ha (rn_add ha i 1 rfl rfl (by omega)) rfl rfl rfl ?_; clear ha a; intro a ha
      refine sv ha (r_assign ha rfl) rfl rfl rfl ?_; clear ha a; intro a ha
      exact ⟨i + 1, by omega, (by omega), ha.to [0, 1, 2, 3, 6, 12, 7, 13, 14, 15, 9, 8, 16, 17, 18, 19, 28, 10, 11] rfl, hB, hb4, hb31, hsw⟩
    · skip
      replace hc42 := of_decide_eq_false hc42
      refine wp_exit ?_
      obtain rfl : i = (m % (2 ^ 3 : Nat)).toNat := by omega
      refine hK34 _ _ ?_; clear hK39 K38 hK34 K33
      refine wp_seq_k fun K47 hK48 => ?_
      refine region ?_
      refine sv ha (r_loadR ha rfl Tryd.isAgg23 Tryd.sizeOf23 (C := (kmany l (f % (2 ^ 5 : Nat)).toNat ((m % (2 ^ 3 : Nat)).toNat)).map e64) (by rw [List.length_map, kmany_len l hl _ _]) (cells_all hb31)) rfl rfl rfl ?_; clear ha a; intro a ha
      refine sv ha (r_move ha rfl) rfl rfl rfl ?_; clear ha a; intro a ha
      refine sc ha (r_call ha [.agg (((kmany l (f % (2 ^ 5 : Nat)).toNat ((m % (2 ^ 3 : Nat)).toNat))).map e64).toArray, vw] rfl Tryd.call14) rfl rfl rfl (c_same vw (kmany l (f % (2 ^ 5 : Nat)).toNat ((m % (2 ^ 3 : Nat)).toNat)) (rmany l (f % (2 ^ 5 : Nat)).toNat ((m % (2 ^ 3 : Nat)).toNat)) _ (by rw [kmany_len l hl _ _]) hsw (by rw [rmany_len l hl _ _])) ?_
      clear ha a
      rintro e w49 ⟨rfl, hBc⟩
      have hg := grown_call hBc; clear hBc
      replace hB := keepB0 hg hB
      replace hb4 := keepO0 hg hb4
      replace hb31 := keepO0 hg hb31
      replace hsw := keepS0 hg hsw
      clear hg
      refine ⟨_, rfl, ?_⟩; intro a ha
      rw [show (decide ((kmany l (f % (2 ^ 5 : Nat)).toNat ((m % (2 ^ 3 : Nat)).toNat)) = (rmany l (f % (2 ^ 5 : Nat)).toNat ((m % (2 ^ 3 : Nat)).toNat)))) = true from decide_eq_true (many_eq l hl _ _)] at ha
      refine sv ha (r_assign ha rfl) rfl rfl rfl ?_; clear ha a; intro a ha
      refine hK48 _ _ ?_; clear hK48 K47
      refine wp_ret ?_
      repeat (first | (with_reducible refine t_ret ?_) | (with_reducible refine x_ret ?_))
      exact ret1 ha Tryd.results11 rfl ⟨rfl, hB⟩

theorem c_ones (l : List UInt64) (w0 : World) (hl : l.length = 25) :
    Calls Tryd.prog 30 #[.agg ((l).map e64).toArray] w0 fun e w' => e = .returned (en (onesL l)) ∧ Below w0.heap.size w0 w' := by
  refine enter (args := [_]) Tryd.func30 rfl Tryd.ntmps30 rfl ?_
  intro a ha
  have hB := Below.refl w0.heap.size w0
  refine wp_seq_k fun K1 hK2 => ?_
  refine region ?_
  refine sbox ha rfl rfl ?_
  clear ha a; intro a w3 b4 ha hg hb4 hge4 hlt4
  have hz4 : w0.heap.size ≤ b4 := Nat.le_trans hB.size hge4
  replace hB := keepB0 hg hB
  clear hg hge4 hlt4
  refine sv ha (r_assign ha rfl) rfl rfl rfl ?_; clear ha a; intro a ha
  refine hK2 _ _ ?_; clear hK2 K1
  refine wp_seq_k fun K5 hK6 => ?_
  refine region ?_
  refine sv ha (r_assign ha rfl) rfl rfl rfl ?_; clear ha a; intro a ha
  refine hK6 _ _ ?_; clear hK6 K5
  refine wp_seq_k fun K7 hK8 => ?_
  refine wp_seq_k fun K9 hK10 => ?_
  refine region ?_
  refine sv ha (r_assign ha rfl) rfl rfl rfl ?_; clear ha a; intro a ha
  refine hK10 _ _ ?_; clear hK10 K9
  refine wp_block ?_
  refine loopG (fun (i : Nat) a w => (i ≤ 25) ∧ Has 23 [(0, .agg ((l).map e64).toArray), (1, .pointer (some ⟨b4, 0, none⟩)), (2, .int .i64 0), (4, en i), (3, en (onesA l i))] a ∧ Below w0.heap.size w0 w ∧ w.heap[b4]? = some (.cells ((l).map e64).toArray 23 (0, 0))) (fun i => 25 - i) 0 ⟨(by omega), ha.to [0, 1, 2, 4, 3] rfl, hB, hb4⟩ ?_
  clear ha a hB hb4
  intro i a w11 ⟨hki, ha, hB, hb4⟩
  refine wp_seq_k fun K12 hK13 => ?_
  refine wp_seq_k fun K14 hK15 => ?_
  refine region ?_
  refine sv ha (r_move ha rfl) rfl rfl rfl ?_; clear ha a; intro a ha
  refine sv ha (r_lss ha ((i : Nat) : Int) 25 (decide (i < 25)) rfl rfl (decide_eq_decide.2 (by omega))) rfl rfl rfl ?_; clear ha a; intro a ha
  refine hK15 _ _ ?_; clear hK15 K14
  refine cond_if ha rfl (fun hc16 => ?_) (fun hc16 => ?_)
  · skip
    replace hc16 := of_decide_eq_true hc16
    refine wp_skip ?_
    refine hK13 _ _ ?_; clear hK13 K12
    refine wp_seq_k fun K17 hK18 => ?_
    refine wp_block ?_
    refine wp_seq_k fun K19 hK20 => ?_
    refine region ?_
    refine sv ha (r_move ha rfl) rfl rfl rfl ?_; clear ha a; intro a ha
    refine sv ha (r_indexArr (i := i) ha i Tryd.runUnderlying23 Tryd.sizeOf22 rfl rfl (by omega) (by omega)) rfl rfl rfl ?_; clear ha a; intro a ha
    refine sv ha (r_load ha rfl Tryd.isAgg22 (cell_of hb4 (get_map e64 l 0 i (by rw [hl]; omega)))) rfl rfl rfl ?_; clear ha a; intro a ha
    refine sv ha (r_assign ha rfl) rfl rfl rfl ?_; clear ha a; intro a ha
    refine hK20 _ _ ?_; clear hK20 K19
    refine wp_block ?_
    refine loopG (fun (k : Nat) a w => (k ≤ 64) ∧ Has 23 [(0, .agg ((l).map e64).toArray), (1, .pointer (some ⟨b4, 0, none⟩)), (2, .int .i64 0), (4, en i), (6, en i), (7, .bool (decide (i < 25))), (10, en i), (11, .pointer (some ⟨b4, i, none⟩)), (12, e64 (l.getD i 0)), (5, e64 (xs (l.getD i 0) k)), (3, en (onesA l i + pc (l.getD i 0) k))] a ∧ Below w0.heap.size w0 w ∧ w.heap[b4]? = some (.cells ((l).map e64).toArray 23 (0, 0))) (fun k => 64 - k) 0 ⟨(by omega), ha.to [0, 1, 2, 4, 6, 7, 10, 11, 12, 5, 3] rfl, hB, hb4⟩ ?_
    clear ha a hB hb4
    intro k a w21 ⟨hkk, ha, hB, hb4⟩
    have hm2 : (xs (l.getD i 0) k % 2).toNat < 2 := by rw [UInt64.toNat_mod]; exact Nat.mod_lt _ (by decide)
    have hb1 := onesA_le l i
    have hb2 := pc_le (l.getD i 0) k
    refine wp_seq_k fun K22 hK23 => ?_
    refine wp_seq_k fun K24 hK25 => ?_
    refine region ?_
    refine sv ha (r_move ha rfl) rfl rfl rfl ?_; clear ha a; intro a ha
    refine sv ha (r_gtr ha ((xs (l.getD i 0) k).toNat : Int) 0 (decide (((xs (l.getD i 0) k).toNat : Int) > 0)) rfl rfl (decide_eq_decide.2 (by omega))) rfl rfl rfl ?_; clear ha a; intro a ha
    refine hK25 _ _ ?_; clear hK25 K24
    refine cond_if ha rfl (fun hc26 => ?_) (fun hc26 => ?_)
    · skip
      replace hc26 := of_decide_eq_true hc26
      refine wp_skip ?_
      refine hK23 _ _ ?_; clear hK23 K22
      refine wp_seq_k fun K27 hK28 => ?_
      refine wp_block ?_
      refine region ?_
      refine sv ha (r_move ha rfl) rfl rfl rfl ?_; clear ha a; intro a ha
      refine sv ha (r_move ha rfl) rfl rfl rfl ?_; clear ha a; intro a ha
      refine sv ha (ru_rem ha (xs (l.getD i 0) k) (2) rfl rfl (by decide)) rfl rfl rfl ?_; clear ha a; intro a ha
      refine sv ha (r_conv_u64_i64 ha ((xs (l.getD i 0) k) % (2)) Tryd.runUnderlying22 Tryd.runUnderlying3 rfl (by omega)) rfl rfl rfl ?_; clear ha a; intro a ha
      refine sv ha (rn_add ha (onesA l i + pc (l.getD i 0) k) (((xs (l.getD i 0) k) % (2)).toNat) rfl rfl (by omega)) rfl rfl rfl ?_; clear ha a; intro a ha
      refine sv ha (r_assign ha rfl) rfl rfl rfl ?_; clear ha a; intro a ha
      refine hK28 _ _ ?_; clear hK28 K27
      refine region ?_
      refine sv ha (r_move ha rfl) rfl rfl rfl ?_; clear ha a; intro a ha
      refine sv ha (ru_quo ha (xs (l.getD i 0) k) (2) rfl rfl (by decide)) rfl rfl rfl ?_; clear ha a; intro a ha
      refine sv ha (r_assign ha rfl) rfl rfl rfl ?_; clear ha a; intro a ha
      have hk64 := xs_small (l.getD i 0) k (by omega)
      exact ⟨k + 1, by omega, (by omega), ha.to [0, 1, 2, 4, 6, 7, 10, 11, 12, 5, 3] (by rw [show onesA l i + pc (l.getD i 0) (k + 1) = onesA l i + pc (l.getD i 0) k + (xs (l.getD i 0) k % 2).toNat from (Nat.add_assoc _ _ _).symm]; rfl), hB, hb4⟩
    · skip
      replace hc26 := of_decide_eq_false hc26
      refine wp_exit ?_
      rw [pc_done (l.getD i 0) k hkk (by omega)] at ha
      refine hK18 _ _ ?_; clear hK23 K22 hK18 K17
      refine region ?_
      refine sv ha (r_move ha rfl) rfl rfl rfl ?_; clear ha a; intro a ha
      refine sv ha (rn_add ha i 1 rfl rfl (by omega)) rfl rfl rfl ?_; clear ha a; intro a ha
      refine sv ha (r_assign ha rfl) rfl rfl rfl ?_; clear ha a; intro a ha
      exact ⟨i + 1, by omega, (by omega), ha.to [0, 1, 2, 4, 3] rfl, hB, hb4⟩
  · skip
    replace hc16 := of_decide_eq_false hc16
    refine wp_exit ?_
    obtain rfl : i = 25 := by omega
    refine hK8 _ _ ?_; clear hK13 K12 hK8 K7
    refine wp_seq_k fun K29 hK30 => ?_
    refine region ?_
    refine sv ha (r_move ha rfl) rfl rfl rfl ?_; clear ha a; intro a ha
    refine sv ha (r_assign ha rfl) rfl rfl rfl ?_; clear ha a; intro a ha
    refine hK30 _ _ ?_; clear hK30 K29
    refine wp_ret ?_
    repeat (first | (with_reducible refine t_ret ?_) | (with_reducible refine x_ret ?_))
    exact ret1 ha Tryd.results30 rfl ⟨rfl, hB⟩

theorem law_KeccakOnes (l : List UInt64) (w0 : World) (hl : l.length = 25) (hG : Glob w0) :
    Calls Tryd.prog 12 #[.agg ((l).map e64).toArray] w0 fun e w' => e = .returned (.bool true) ∧ Below w0.heap.size w0 w' := by
  refine enter (args := [_]) Tryd.func12 rfl Tryd.ntmps12 rfl ?_
  intro a ha
  have hB := Below.refl w0.heap.size w0
  refine wp_seq_k fun K1 hK2 => ?_
  refine region ?_
  refine sbox ha rfl rfl ?_
  clear ha a; intro a w3 b4 ha hg hb4 hge4 hlt4
  have hz4 : w0.heap.size ≤ b4 := Nat.le_trans hB.size hge4
  replace hB := keepB0 hg hB
  clear hg hge4 hlt4
  refine sv ha (r_assign ha rfl) rfl rfl rfl ?_; clear ha a; intro a ha
  refine hK2 _ _ ?_; clear hK2 K1
  refine wp_seq_k fun K5 hK6 => ?_
  refine region ?_
  refine sc ha (r_call ha [] rfl Tryd.call13) rfl rfl rfl (c_awake  _ (glob_keep hG hB)) ?_
  clear ha a
  rintro e w7 ⟨rfl, hBc⟩
  have hg := grown_call hBc; clear hBc
  replace hB := keepB0 hg hB
  replace hb4 := keepO0 hg hb4
  clear hg
  refine ⟨_, rfl, ?_⟩; intro a ha
  refine sv ha (r_assign ha rfl) rfl rfl rfl ?_; clear ha a; intro a ha
  refine hK6 _ _ ?_; clear hK6 K5
  refine wp_seq_k fun K8 hK9 => ?_
  refine wp_seq_k fun K10 hK11 => ?_
  refine region ?_
  refine sv ha (r_move ha rfl) rfl rfl rfl ?_; clear ha a; intro a ha
  refine sv ha (r_not ha true false rfl rfl) rfl rfl rfl ?_; clear ha a; intro a ha
  refine hK11 _ _ ?_; clear hK11 K10
  refine cond_f ha rfl ?_
  refine wp_skip ?_
  refine hK9 _ _ ?_; clear hK9 K8
  refine wp_seq_k fun K12 hK13 => ?_
  refine region ?_
  refine sv ha (r_loadR ha rfl Tryd.isAgg23 Tryd.sizeOf23 (C := (l).map e64) (by rw [List.length_map, hl]) (cells_all hb4)) rfl rfl rfl ?_; clear ha a; intro a ha
  refine sc ha (r_call ha [.agg ((l).map e64).toArray] rfl Tryd.call30) rfl rfl rfl (c_ones l _ (by rw [hl])) ?_
  clear ha a
  rintro e w14 ⟨rfl, hBc⟩
  have hg := grown_call hBc; clear hBc
  replace hB := keepB0 hg hB
  replace hb4 := keepO0 hg hb4
  clear hg
  refine ⟨_, rfl, ?_⟩; intro a ha
  refine sv ha (r_assign ha rfl) rfl rfl rfl ?_; clear ha a; intro a ha
  refine hK13 _ _ ?_; clear hK13 K12
  refine wp_seq_k fun K15 hK16 => ?_
  refine region ?_
  refine salloc ha zero_23K5 rfl ?_
  clear ha a; intro a w17 b18 ha hg hb18 hge18 hlt18
  have hz18 : w0.heap.size ≤ b18 := Nat.le_trans hB.size hge18
  have hq4_18 : b4 < b18 := Nat.lt_of_lt_of_le (lt_of_block hb4) hge18
  replace hB := keepB0 hg hB
  replace hb4 := keepO0 hg hb4
  clear hg hge18 hlt18
  refine hK16 _ _ ?_; clear hK16 K15
  refine wp_seq_k fun K19 hK20 => ?_
  refine regionD (S := fun w => Below w0.heap.size w0 w ∧ w.heap[b4]? = some (.cells ((l).map e64).toArray 23 (0, 0)) ∧ w.heap[b18]? = some (.cells ((List.replicate 25 (0 : UInt64)).map e64).toArray 23 (0, 0)) ∧ True) 22 [0, 3, 4, 5, 6, 9, 10, 11, 12, 13, 18, 19, 20, 21] [0, 3, 1, 2, 4, 5, 6, 9, 7, 8, 10, 11, 12, 13, 18, 14, 15, 16, 17, 19, 20, 21] mixed (by kernel_rfl) (by kernel_rfl) (fun w hg => ⟨keepB0 hg hB, keepO0 hg hb4, keepO0 hg hb18, trivial⟩) ?_
  intro w21 hg
  replace hB := keepB0 hg hB
  replace hb4 := keepO0 hg hb4
  replace hb18 := keepO0 hg hb18
  clear hg
  refine cv ha rfl rfl (fun w ⟨hB, hb4, hb18, _⟩ => r_loadR ha rfl Tryd.isAgg23 Tryd.sizeOf23 (C := (l).map e64) (by rw [List.length_map, hl]) (cells_all hb4)) rfl rfl rfl ?_; clear ha a; intro a ha
  refine cv ha rfl rfl (fun w _ => r_move ha rfl) rfl rfl rfl ?_; clear ha a; intro a ha
  refine cc ha rfl rfl (r_call ha [.agg ((l).map e64).toArray] rfl Tryd.call17) rfl rfl rfl (c_rho l _ (by rw [hl]) (glob_keep hG hB)) ?_
  clear ha a
  rintro e w22 ⟨rfl, hBc⟩
  have hg := grown_call hBc; clear hBc
  replace hB := keepB0 hg hB
  replace hb4 := keepO0 hg hb4
  replace hb18 := keepO0 hg hb18
  clear hg
  refine ⟨fun _ => ⟨hB, hb4, hb18, trivial⟩, _, rfl, ?_⟩; intro a ha
  refine cc ha rfl rfl (r_call ha [.agg (((rho l)).map e64).toArray] rfl Tryd.call30) rfl rfl rfl (c_ones (rho l) _ (by rw [rho_len, hl])) ?_
  clear ha a
  rintro e w23 ⟨rfl, hBc⟩
  have hg := grown_call hBc; clear hBc
  replace hB := keepB0 hg hB
  replace hb4 := keepO0 hg hb4
  replace hb18 := keepO0 hg hb18
  clear hg
  refine ⟨fun _ => ⟨hB, hb4, hb18, trivial⟩, _, rfl, ?_⟩; intro a ha
  refine cv ha rfl rfl (fun w _ => r_eql ha ((onesL (rho l) : Nat) : Int) ((onesL l : Nat) : Int) true rfl rfl (decide_eq_true (by rw [ones_rho l hl]))) rfl rfl rfl ?_; clear ha a; intro a ha
  refine cv ha rfl rfl (fun w _ => r_move ha rfl) rfl rfl rfl ?_; clear ha a; intro a ha
  refine cvg ha rfl rfl (fun w ⟨hB, hb4, hb18, _⟩ => r_loadR ha rfl Tryd.isAgg23 Tryd.sizeOf23 (C := (l).map e64) (by rw [List.length_map, hl]) (cells_all hb4)) rfl rfl rfl rfl rfl ?_; clear ha a; intro a ha
  refine cvg ha rfl rfl (fun w _ => r_move ha rfl) rfl rfl rfl rfl rfl ?_; clear ha a; intro a ha
  refine ccg ha rfl rfl (r_call ha [.agg ((l).map e64).toArray] rfl Tryd.call19) rfl rfl rfl rfl rfl (c_pi l _ (by rw [hl])) ?_
  clear ha a
  rintro e w24 ⟨rfl, hBc⟩
  have hg := grown_call hBc; clear hBc
  replace hB := keepB0 hg hB
  replace hb4 := keepO0 hg hb4
  replace hb18 := keepO0 hg hb18
  clear hg
  refine ⟨fun _ => ⟨hB, hb4, hb18, trivial⟩, _, rfl, ?_⟩; intro a ha
  refine ccg ha rfl rfl (r_call ha [.agg (((pi l)).map e64).toArray] rfl Tryd.call30) rfl rfl rfl rfl rfl (c_ones (pi l) _ (by rw [pi_len])) ?_
  clear ha a
  rintro e w25 ⟨rfl, hBc⟩
  have hg := grown_call hBc; clear hBc
  replace hB := keepB0 hg hB
  replace hb4 := keepO0 hg hb4
  replace hb18 := keepO0 hg hb18
  clear hg
  refine ⟨fun _ => ⟨hB, hb4, hb18, trivial⟩, _, rfl, ?_⟩; intro a ha
  refine cvg ha rfl rfl (fun w _ => r_eql ha ((onesL (pi l) : Nat) : Int) ((onesL l : Nat) : Int) true rfl rfl (decide_eq_true (by rw [ones_pi l]))) rfl rfl rfl rfl rfl ?_; clear ha a; intro a ha
  refine cv ha rfl rfl (fun w _ => r_pick ha true rfl rfl) rfl rfl rfl ?_; clear ha a; intro a ha
  refine cv ha rfl rfl (fun w _ => r_move ha rfl) rfl rfl rfl ?_; clear ha a; intro a ha
  refine cvg ha rfl rfl (fun w ⟨hB, hb4, hb18, _⟩ => r_loadR ha rfl Tryd.isAgg23 Tryd.sizeOf23 (C := (List.replicate 25 (0 : UInt64)).map e64) (by rw [List.length_map, List.length_replicate]) (cells_all hb18)) rfl rfl rfl rfl rfl ?_; clear ha a; intro a ha
  refine cvg ha rfl rfl (fun w ⟨hB, hb4, hb18, _⟩ => r_loadR ha rfl Tryd.isAgg23 Tryd.sizeOf23 (C := (List.replicate 25 (0 : UInt64)).map e64) (by rw [List.length_map, List.length_replicate]) (cells_all hb18)) rfl rfl rfl rfl rfl ?_; clear ha a; intro a ha
  refine ccg ha rfl rfl (r_call ha [.agg (((List.replicate 25 (0 : UInt64))).map e64).toArray] rfl Tryd.call15) rfl rfl rfl rfl rfl (c_theta (List.replicate 25 (0 : UInt64)) _ (by rw [List.length_replicate])) ?_
  clear ha a
  rintro e w26 ⟨rfl, hBc⟩
  have hg := grown_call hBc; clear hBc
  replace hB := keepB0 hg hB
  replace hb4 := keepO0 hg hb4
  replace hb18 := keepO0 hg hb18
  clear hg
  refine ⟨fun _ => ⟨hB, hb4, hb18, trivial⟩, _, rfl, ?_⟩; intro a ha
  refine ccg ha rfl rfl (r_call ha [.agg (((theta (List.replicate 25 (0 : UInt64)))).map e64).toArray] rfl Tryd.call17) rfl rfl rfl rfl rfl (c_rho (theta (List.replicate 25 (0 : UInt64))) _ (by rw [theta_len, List.length_replicate]) (glob_keep hG hB)) ?_
  clear ha a
  rintro e w27 ⟨rfl, hBc⟩
  have hg := grown_call hBc; clear hBc
  replace hB := keepB0 hg hB
  replace hb4 := keepO0 hg hb4
  replace hb18 := keepO0 hg hb18
  clear hg
  refine ⟨fun _ => ⟨hB, hb4, hb18, trivial⟩, _, rfl, ?_⟩; intro a ha
  refine ccg ha rfl rfl (r_call ha [.agg (((rho (theta (List.replicate 25 (0 : UInt64))))).map e64).toArray] rfl Tryd.call19) rfl rfl rfl rfl rfl (c_pi (rho (theta (List.replicate 25 (0 : UInt64)))) _ (by rw [rho_len, theta_len, List.length_replicate])) ?_
  clear ha a
  rintro e w28 ⟨rfl, hBc⟩
  have hg := grown_call hBc; clear hBc
  replace hB := keepB0 hg hB
  replace hb4 := keepO0 hg hb4
  replace hb18 := keepO0 hg hb18
  clear hg
  refine ⟨fun _ => ⟨hB, hb4, hb18, trivial⟩, _, rfl, ?_⟩; intro a ha
  refine ccg ha rfl rfl (r_call ha [.agg (((pi (rho (theta (List.replicate 25 (0 : UInt64)))))).map e64).toArray] rfl Tryd.call21) rfl rfl rfl rfl rfl (c_chi (pi (rho (theta (List.replicate 25 (0 : UInt64))))) _ (by rw [pi_len])) ?_
  clear ha a
  rintro e w29 ⟨rfl, hBc⟩
  have hg := grown_call hBc; clear hBc
  replace hB := keepB0 hg hB
  replace hb4 := keepO0 hg hb4
  replace hb18 := keepO0 hg hb18
  clear hg
  refine ⟨fun _ => ⟨hB, hb4, hb18, trivial⟩, _, rfl, ?_⟩; intro a ha
  refine cvg ha rfl rfl (fun w _ => r_eqA (f := (fun z : UInt64 => (z.toNat : Int))) (inj64) (chi (pi (rho (theta (List.replicate 25 (0 : UInt64)))))) (List.replicate 25 (0 : UInt64)) ha rfl rfl (by rw [chi_len, pi_len]) (by rw [List.length_replicate]) Tryd.eqGuardType23 Tryd.runUnderlying23 Tryd.sizeOf22 Tryd.underlying22 Tryd.isAgg22 true (decide_eq_true nought_stays)) rfl rfl rfl rfl rfl ?_; clear ha a; intro a ha
  refine cv ha rfl rfl (fun w _ => r_pick ha true rfl rfl) rfl rfl rfl ?_; clear ha a; intro a ha
  refine cv ha rfl rfl (fun w _ => r_assign ha rfl) rfl rfl rfl ?_; clear ha a; intro a ha
  refine cfin (hK20 _ _ ?_); clear hK20 K19
  refine wp_ret ?_
  repeat (first | (with_reducible refine t_ret ?_) | (with_reducible refine x_ret ?_))
  exact ret1 ha Tryd.results12 rfl ⟨rfl, hB⟩

theorem law_KeccakAdds (l m : List UInt64) (w0 : World) (hl : l.length = 25) (hm : m.length = 25) (hG : Glob w0) :
    Calls Tryd.prog 10 #[.agg ((l).map e64).toArray, .agg ((m).map e64).toArray] w0 fun e w' => e = .returned (.bool true) ∧ Below w0.heap.size w0 w' := by
  refine enter (args := [_, _]) Tryd.func10 rfl Tryd.ntmps10 rfl ?_
  intro a ha
  have hB := Below.refl w0.heap.size w0
  refine wp_seq_k fun K1 hK2 => ?_
  refine region ?_
  refine sbox ha rfl rfl ?_
  clear ha a; intro a w3 b4 ha hg hb4 hge4 hlt4
  have hz4 : w0.heap.size ≤ b4 := Nat.le_trans hB.size hge4
  replace hB := keepB0 hg hB
  clear hg hge4 hlt4
  refine sbox ha rfl rfl ?_
  clear ha a; intro a w5 b6 ha hg hb6 hge6 hlt6
  have hz6 : w0.heap.size ≤ b6 := Nat.le_trans hB.size hge6
  have hq4_6 : b4 < b6 := Nat.lt_of_lt_of_le (lt_of_block hb4) hge6
  replace hB := keepB0 hg hB
  replace hb4 := keepO0 hg hb4
  clear hg hge6 hlt6
  refine sv ha (r_assign ha rfl) rfl rfl rfl ?_; clear ha a; intro a ha
  refine hK2 _ _ ?_; clear hK2 K1
  refine wp_seq_k fun K7 hK8 => ?_
  refine region ?_
  refine sc ha (r_call ha [] rfl Tryd.call13) rfl rfl rfl (c_awake  _ (glob_keep hG hB)) ?_
  clear ha a
  rintro e w9 ⟨rfl, hBc⟩
  have hg := grown_call hBc; clear hBc
  replace hB := keepB0 hg hB
  replace hb4 := keepO0 hg hb4
  replace hb6 := keepO0 hg hb6
  clear hg
  refine ⟨_, rfl, ?_⟩; intro a ha
  refine sv ha (r_assign ha rfl) rfl rfl rfl ?_; clear ha a; intro a ha
  refine hK8 _ _ ?_; clear hK8 K7
  refine wp_seq_k fun K10 hK11 => ?_
  refine wp_seq_k fun K12 hK13 => ?_
  refine region ?_
  refine sv ha (r_move ha rfl) rfl rfl rfl ?_; clear ha a; intro a ha
  refine sv ha (r_not ha true false rfl rfl) rfl rfl rfl ?_; clear ha a; intro a ha
  refine hK13 _ _ ?_; clear hK13 K12
  refine cond_f ha rfl ?_
  refine wp_skip ?_
  refine hK11 _ _ ?_; clear hK11 K10
  refine wp_seq_k fun K14 hK15 => ?_
  refine region ?_
  refine salloc ha zero_23K5 rfl ?_
  clear ha a; intro a w16 b17 ha hg hb17 hge17 hlt17
  have hz17 : w0.heap.size ≤ b17 := Nat.le_trans hB.size hge17
  have hq4_17 : b4 < b17 := Nat.lt_of_lt_of_le (lt_of_block hb4) hge17
  have hq6_17 : b6 < b17 := Nat.lt_of_lt_of_le (lt_of_block hb6) hge17
  replace hB := keepB0 hg hB
  replace hb4 := keepO0 hg hb4
  replace hb6 := keepO0 hg hb6
  clear hg hge17 hlt17
  refine hK15 _ _ ?_; clear hK15 K14
  refine wp_seq_k fun K18 hK19 => ?_
  refine wp_seq_k fun K20 hK21 => ?_
  refine region ?_
  refine sv ha (r_assign ha rfl) rfl rfl rfl ?_; clear ha a; intro a ha
  refine hK21 _ _ ?_; clear hK21 K20
  refine wp_block ?_
  refine loopG (fun (k : Nat) a w => (k ≤ 25) ∧ Has 102 [(0, .agg ((l).map e64).toArray), (1, .agg ((m).map e64).toArray), (2, .pointer (some ⟨b4, 0, none⟩)), (3, .pointer (some ⟨b6, 0, none⟩)), (4, .bool false), (18, .bool true), (5, .bool true), (19, .bool true), (20, .bool false), (6, .pointer (some ⟨b17, 0, none⟩)), (7, en k)] a ∧ Below w0.heap.size w0 w ∧ w.heap[b4]? = some (.cells ((l).map e64).toArray 23 (0, 0)) ∧ w.heap[b6]? = some (.cells ((m).map e64).toArray 23 (0, 0)) ∧ w.heap[b17]? = some (.cells ((xoA l m k).map e64).toArray 23 (0, 0))) (fun k => 25 - k) 0 ⟨(by omega), ha.to [0, 1, 2, 3, 4, 18, 5, 19, 20, 6, 7] rfl, hB, hb4, hb6, hb17⟩ ?_
  clear ha a hB hb4 hb6 hb17
  intro k a w22 ⟨hkk, ha, hB, hb4, hb6, hb17⟩
  refine wp_seq_k fun K23 hK24 => ?_
  refine wp_seq_k fun K25 hK26 => ?_
  refine region ?_
  refine sv ha (r_move ha rfl) rfl rfl rfl ?_; clear ha a; intro a ha
  refine sv ha (r_lss ha ((k : Nat) : Int) 25 (decide (k < 25)) rfl rfl (decide_eq_decide.2 (by omega))) rfl rfl rfl ?_; clear ha a; intro a ha
  refine hK26 _ _ ?_; clear hK26 K25
  refine cond_if ha rfl (fun hc27 => ?_) (fun hc27 => ?_)
  · skip
    replace hc27 := of_decide_eq_true hc27
    refine wp_skip ?_
    refine hK24 _ _ ?_; clear hK24 K23
    refine wp_seq_k fun K28 hK29 => ?_
    refine wp_block ?_
    refine regionD (S := fun w => Below w0.heap.size w0 w ∧ w.heap[b4]? = some (.cells ((l).map e64).toArray 23 (0, 0)) ∧ w.heap[b6]? = some (.cells ((m).map e64).toArray 23 (0, 0)) ∧ w.heap[b17]? = some (.cells ((xoA l m k).map e64).toArray 23 (0, 0)) ∧ True) 9 [0, 1, 2, 3, 4, 5, 6, 7, 8] [0, 1, 2, 3, 4, 5, 6, 7, 8, 9] mixed (by kernel_rfl) (by kernel_rfl) (fun w hg => ⟨keepB0 hg hB, keepO0 hg hb4, keepO0 hg hb6, keepO0 hg hb17, trivial⟩) ?_
    intro w30 hg
    replace hB := keepB0 hg hB
    replace hb4 := keepO0 hg hb4
    replace hb6 := keepO0 hg hb6
    replace hb17 := keepO0 hg hb17
    clear hg
    refine cv ha rfl rfl (fun w _ => r_move ha rfl) rfl rfl rfl ?_; clear ha a; intro a ha
    refine cv ha rfl rfl (fun w _ => r_move ha rfl) rfl rfl rfl ?_; clear ha a; intro a ha
    refine cv ha rfl rfl (fun w _ => r_indexArr (i := k) ha k Tryd.runUnderlying23 Tryd.sizeOf22 rfl rfl (by omega) (by omega)) rfl rfl rfl ?_; clear ha a; intro a ha
    refine cv ha rfl rfl (fun w ⟨hB, hb4, hb6, hb17, _⟩ => r_load ha rfl Tryd.isAgg22 (cell_of hb4 (get_map e64 l 0 k (by rw [hl]; omega)))) rfl rfl rfl ?_; clear ha a; intro a ha
    refine cv ha rfl rfl (fun w _ => r_move ha rfl) rfl rfl rfl ?_; clear ha a; intro a ha
    refine cv ha rfl rfl (fun w _ => r_indexArr (i := k) ha k Tryd.runUnderlying23 Tryd.sizeOf22 rfl rfl (by omega) (by omega)) rfl rfl rfl ?_; clear ha a; intro a ha
    refine cv ha rfl rfl (fun w ⟨hB, hb4, hb6, hb17, _⟩ => r_load ha rfl Tryd.isAgg22 (cell_of hb6 (get_map e64 m 0 k (by rw [hm]; omega)))) rfl rfl rfl ?_; clear ha a; intro a ha
    refine cv ha rfl rfl (fun w _ => ru_xor ha (l.getD k 0) (m.getD k 0) rfl rfl) rfl rfl rfl ?_; clear ha a; intro a ha
    refine cv ha rfl rfl (fun w _ => r_indexArr (i := k) ha k Tryd.runUnderlying23 Tryd.sizeOf22 rfl rfl (by omega) (by omega)) rfl rfl rfl ?_; clear ha a; intro a ha
    refine cstore ha rfl rfl (v := e64 ((l.getD k 0) ^^^ (m.getD k 0))) rfl rfl rfl rfl Tryd.sizeOf22 hb17 (by rw [List.length_map, xoA_len]; omega) rfl ?_
    clear ha a; intro a w31 ha hg hb17'
    rw [set_map] at hb17'
    clear hb17; have hb17 := hb17'; clear hb17'
    replace hB := keepB1 hg (by omega) hB
    replace hb4 := keepO1 hg (by omega) hb4
    replace hb6 := keepO1 hg (by omega) hb6
    clear hg
    refine cfin (hK29 _ _ ?_); clear hK29 K28
    refine region ?_
    refine sv ha (r_move ha rfl) rfl rfl rfl ?_; clear ha a; intro a ha
    refine sv ha (rn_add ha k 1 rfl rfl (by omega)) rfl rfl rfl ?_; clear ha a; intro a ha
    refine sv ha (r_assign ha rfl) rfl rfl rfl ?_; clear ha a; intro a ha
    exact ⟨k + 1, by omega, (by omega), ha.to [0, 1, 2, 3, 4, 18, 5, 19, 20, 6, 7] rfl, hB, hb4, hb6, hb17⟩
  · skip
    replace hc27 := of_decide_eq_false hc27
    refine wp_exit ?_
    obtain rfl : k = 25 := by omega
    refine hK19 _ _ ?_; clear hK24 K23 hK19 K18
    refine wp_seq_k fun K32 hK33 => ?_
    refine region ?_
    refine sv ha (r_loadR ha rfl Tryd.isAgg23 Tryd.sizeOf23 (C := (l).map e64) (by rw [List.length_map, hl]) (cells_all hb4)) rfl rfl rfl ?_; clear ha a; intro a ha
    refine sc ha (r_call ha [.agg ((l).map e64).toArray] rfl Tryd.call15) rfl rfl rfl (c_theta l _ (by rw [hl])) ?_
    clear ha a
    rintro e w34 ⟨rfl, hBc⟩
    have hg := grown_call hBc; clear hBc
    replace hB := keepB0 hg hB
    replace hb4 := keepO0 hg hb4
    replace hb6 := keepO0 hg hb6
    replace hb17 := keepO0 hg hb17
    clear hg
    refine ⟨_, rfl, ?_⟩; intro a ha
    refine salloc ha zero_23K5 rfl ?_
    clear ha a; intro a w35 b36 ha hg hb36 hge36 hlt36
    have hz36 : w0.heap.size ≤ b36 := Nat.le_trans hB.size hge36
    have hq4_36 : b4 < b36 := Nat.lt_of_lt_of_le (lt_of_block hb4) hge36
    have hq6_36 : b6 < b36 := Nat.lt_of_lt_of_le (lt_of_block hb6) hge36
    have hq17_36 : b17 < b36 := Nat.lt_of_lt_of_le (lt_of_block hb17) hge36
    replace hB := keepB0 hg hB
    replace hb4 := keepO0 hg hb4
    replace hb6 := keepO0 hg hb6
    replace hb17 := keepO0 hg hb17
    clear hg hge36 hlt36
    refine sstoreW ha rfl rfl (one_e64 _) Tryd.sizeOf23 (by rw [List.length_map, theta_len, hl]) hb36 (by rw [List.length_map, List.length_replicate]) ?_
    clear ha a; intro a w37 ha hg hb36'
    clear hb36; have hb36 := hb36'; clear hb36'
    replace hB := keepB1 hg (by omega) hB
    replace hb4 := keepO1 hg (by omega) hb4
    replace hb6 := keepO1 hg (by omega) hb6
    replace hb17 := keepO1 hg (by omega) hb17
    clear hg
    refine hK33 _ _ ?_; clear hK33 K32
    refine wp_seq_k fun K38 hK39 => ?_
    refine region ?_
    refine sv ha (r_loadR ha rfl Tryd.isAgg23 Tryd.sizeOf23 (C := (m).map e64) (by rw [List.length_map, hm]) (cells_all hb6)) rfl rfl rfl ?_; clear ha a; intro a ha
    refine sc ha (r_call ha [.agg ((m).map e64).toArray] rfl Tryd.call15) rfl rfl rfl (c_theta m _ (by rw [hm])) ?_
    clear ha a
    rintro e w40 ⟨rfl, hBc⟩
    have hg := grown_call hBc; clear hBc
    replace hB := keepB0 hg hB
    replace hb4 := keepO0 hg hb4
    replace hb6 := keepO0 hg hb6
    replace hb17 := keepO0 hg hb17
    replace hb36 := keepO0 hg hb36
    clear hg
    refine ⟨_, rfl, ?_⟩; intro a ha
    refine salloc ha zero_23K5 rfl ?_
    clear ha a; intro a w41 b42 ha hg hb42 hge42 hlt42
    have hz42 : w0.heap.size ≤ b42 := Nat.le_trans hB.size hge42
    have hq4_42 : b4 < b42 := Nat.lt_of_lt_of_le (lt_of_block hb4) hge42
    have hq6_42 : b6 < b42 := Nat.lt_of_lt_of_le (lt_of_block hb6) hge42
    have hq17_42 : b17 < b42 := Nat.lt_of_lt_of_le (lt_of_block hb17) hge42
    have hq36_42 : b36 < b42 := Nat.lt_of_lt_of_le (lt_of_block hb36) hge42
    replace hB := keepB0 hg hB
    replace hb4 := keepO0 hg hb4
    replace hb6 := keepO0 hg hb6
    replace hb17 := keepO0 hg hb17
    replace hb36 := keepO0 hg hb36
    clear hg hge42 hlt42
    refine sstoreW ha rfl rfl (one_e64 _) Tryd.sizeOf23 (by rw [List.length_map, theta_len, hm]) hb42 (by rw [List.length_map, List.length_replicate]) ?_
    clear ha a; intro a w43 ha hg hb42'
    clear hb42; have hb42 := hb42'; clear hb42'
    replace hB := keepB1 hg (by omega) hB
    replace hb4 := keepO1 hg (by omega) hb4
    replace hb6 := keepO1 hg (by omega) hb6
    replace hb17 := keepO1 hg (by omega) hb17
    replace hb36 := keepO1 hg (by omega) hb36
    clear hg
    refine hK39 _ _ ?_; clear hK39 K38
    refine wp_seq_k fun K44 hK45 => ?_
    refine region ?_
    refine sv ha (r_loadR ha rfl Tryd.isAgg23 Tryd.sizeOf23 (C := (xoA l m 25).map e64) (by rw [List.length_map, xoA_len]) (cells_all hb17)) rfl rfl rfl ?_; clear ha a; intro a ha
    refine sc ha (r_call ha [.agg (((xoA l m 25)).map e64).toArray] rfl Tryd.call15) rfl rfl rfl (c_theta (xoA l m 25) _ (by rw [xoA_len])) ?_
    clear ha a
    rintro e w46 ⟨rfl, hBc⟩
    have hg := grown_call hBc; clear hBc
    replace hB := keepB0 hg hB
    replace hb4 := keepO0 hg hb4
    replace hb6 := keepO0 hg hb6
    replace hb17 := keepO0 hg hb17
    replace hb36 := keepO0 hg hb36
    replace hb42 := keepO0 hg hb42
    clear hg
    refine ⟨_, rfl, ?_⟩; intro a ha
    refine salloc ha zero_23K5 rfl ?_
    clear ha a; intro a w47 b48 ha hg hb48 hge48 hlt48
    have hz48 : w0.heap.size ≤ b48 := Nat.le_trans hB.size hge48
    have hq4_48 : b4 < b48 := Nat.lt_of_lt_of_le (lt_of_block hb4) hge48
    have hq6_48 : b6 < b48 := Nat.lt_of_lt_of_le (lt_of_block hb6) hge48
    have hq17_48 : b17 < b48 := Nat.lt_of_lt_of_le (lt_of_block hb17) hge48
    have hq36_48 : b36 < b48 := Nat.lt_of_lt_of_le (lt_of_block hb36) hge48
    have hq42_48 : b42 < b48 := Nat.lt_of_lt_of_le (lt_of_block hb42) hge48
    replace hB := keepB0 hg hB
    replace hb4 := keepO0 hg hb4
    replace hb6 := keepO0 hg hb6
    replace hb17 := keepO0 hg hb17
    replace hb36 := keepO0 hg hb36
    replace hb42 := keepO0 hg hb42
    clear hg hge48 hlt48
    refine sstoreW ha rfl rfl (one_e64 _) Tryd.sizeOf23 (by rw [List.length_map, theta_len, xoA_len]) hb48 (by rw [List.length_map, List.length_replicate]) ?_
    clear ha a; intro a w49 ha hg hb48'
    clear hb48; have hb48 := hb48'; clear hb48'
    replace hB := keepB1 hg (by omega) hB
    replace hb4 := keepO1 hg (by omega) hb4
    replace hb6 := keepO1 hg (by omega) hb6
    replace hb17 := keepO1 hg (by omega) hb17
    replace hb36 := keepO1 hg (by omega) hb36
    replace hb42 := keepO1 hg (by omega) hb42
    clear hg
    refine hK45 _ _ ?_; clear hK45 K44
    refine wp_seq_k fun K50 hK51 => ?_
    refine region ?_
    refine sv ha (r_loadR ha rfl Tryd.isAgg23 Tryd.sizeOf23 (C := (l).map e64) (by rw [List.length_map, hl]) (cells_all hb4)) rfl rfl rfl ?_; clear ha a; intro a ha
    refine sc ha (r_call ha [.agg ((l).map e64).toArray] rfl Tryd.call17) rfl rfl rfl (c_rho l _ (by rw [hl]) (glob_keep hG hB)) ?_
    clear ha a
    rintro e w52 ⟨rfl, hBc⟩
    have hg := grown_call hBc; clear hBc
    replace hB := keepB0 hg hB
    replace hb4 := keepO0 hg hb4
    replace hb6 := keepO0 hg hb6
    replace hb17 := keepO0 hg hb17
    replace hb36 := keepO0 hg hb36
    replace hb42 := keepO0 hg hb42
    replace hb48 := keepO0 hg hb48
    clear hg
    refine ⟨_, rfl, ?_⟩; intro a ha
    refine salloc ha zero_23K5 rfl ?_
    clear ha a; intro a w53 b54 ha hg hb54 hge54 hlt54
    have hz54 : w0.heap.size ≤ b54 := Nat.le_trans hB.size hge54
    have hq4_54 : b4 < b54 := Nat.lt_of_lt_of_le (lt_of_block hb4) hge54
    have hq6_54 : b6 < b54 := Nat.lt_of_lt_of_le (lt_of_block hb6) hge54
    have hq17_54 : b17 < b54 := Nat.lt_of_lt_of_le (lt_of_block hb17) hge54
    have hq36_54 : b36 < b54 := Nat.lt_of_lt_of_le (lt_of_block hb36) hge54
    have hq42_54 : b42 < b54 := Nat.lt_of_lt_of_le (lt_of_block hb42) hge54
    have hq48_54 : b48 < b54 := Nat.lt_of_lt_of_le (lt_of_block hb48) hge54
    replace hB := keepB0 hg hB
    replace hb4 := keepO0 hg hb4
    replace hb6 := keepO0 hg hb6
    replace hb17 := keepO0 hg hb17
    replace hb36 := keepO0 hg hb36
    replace hb42 := keepO0 hg hb42
    replace hb48 := keepO0 hg hb48
    clear hg hge54 hlt54
    refine sstoreW ha rfl rfl (one_e64 _) Tryd.sizeOf23 (by rw [List.length_map, rho_len, hl]) hb54 (by rw [List.length_map, List.length_replicate]) ?_
    clear ha a; intro a w55 ha hg hb54'
    clear hb54; have hb54 := hb54'; clear hb54'
    replace hB := keepB1 hg (by omega) hB
    replace hb4 := keepO1 hg (by omega) hb4
    replace hb6 := keepO1 hg (by omega) hb6
    replace hb17 := keepO1 hg (by omega) hb17
    replace hb36 := keepO1 hg (by omega) hb36
    replace hb42 := keepO1 hg (by omega) hb42
    replace hb48 := keepO1 hg (by omega) hb48
    clear hg
    refine hK51 _ _ ?_; clear hK51 K50
    refine wp_seq_k fun K56 hK57 => ?_
    refine region ?_
    refine sv ha (r_loadR ha rfl Tryd.isAgg23 Tryd.sizeOf23 (C := (m).map e64) (by rw [List.length_map, hm]) (cells_all hb6)) rfl rfl rfl ?_; clear ha a; intro a ha
    refine sc ha (r_call ha [.agg ((m).map e64).toArray] rfl Tryd.call17) rfl rfl rfl (c_rho m _ (by rw [hm]) (glob_keep hG hB)) ?_
    clear ha a
    rintro e w58 ⟨rfl, hBc⟩
    have hg := grown_call hBc; clear hBc
    replace hB := keepB0 hg hB
    replace hb4 := keepO0 hg hb4
    replace hb6 := keepO0 hg hb6
    replace hb17 := keepO0 hg hb17
    replace hb36 := keepO0 hg hb36
    replace hb42 := keepO0 hg hb42
    replace hb48 := keepO0 hg hb48
    replace hb54 := keepO0 hg hb54
    clear hg
    refine ⟨_, rfl, ?_⟩; intro a ha
    refine salloc ha zero_23K5 rfl ?_
    clear ha a; intro a w59 b60 ha hg hb60 hge60 hlt60
    have hz60 : w0.heap.size ≤ b60 := Nat.le_trans hB.size hge60
    have hq4_60 : b4 < b60 := Nat.lt_of_lt_of_le (lt_of_block hb4) hge60
    have hq6_60 : b6 < b60 := Nat.lt_of_lt_of_le (lt_of_block hb6) hge60
    have hq17_60 : b17 < b60 := Nat.lt_of_lt_of_le (lt_of_block hb17) hge60
    have hq36_60 : b36 < b60 := Nat.lt_of_lt_of_le (lt_of_block hb36) hge60
    have hq42_60 : b42 < b60 := Nat.lt_of_lt_of_le (lt_of_block hb42) hge60
    have hq48_60 : b48 < b60 := Nat.lt_of_lt_of_le (lt_of_block hb48) hge60
    have hq54_60 : b54 < b60 := Nat.lt_of_lt_of_le (lt_of_block hb54) hge60
    replace hB := keepB0 hg hB
    replace hb4 := keepO0 hg hb4
    replace hb6 := keepO0 hg hb6
    replace hb17 := keepO0 hg hb17
    replace hb36 := keepO0 hg hb36
    replace hb42 := keepO0 hg hb42
    replace hb48 := keepO0 hg hb48
    replace hb54 := keepO0 hg hb54
    clear hg hge60 hlt60
    refine sstoreW ha rfl rfl (one_e64 _) Tryd.sizeOf23 (by rw [List.length_map, rho_len, hm]) hb60 (by rw [List.length_map, List.length_replicate]) ?_
    clear ha a; intro a w61 ha hg hb60'
    clear hb60; have hb60 := hb60'; clear hb60'
    replace hB := keepB1 hg (by omega) hB
    replace hb4 := keepO1 hg (by omega) hb4
    replace hb6 := keepO1 hg (by omega) hb6
    replace hb17 := keepO1 hg (by omega) hb17
    replace hb36 := keepO1 hg (by omega) hb36
    replace hb42 := keepO1 hg (by omega) hb42
    replace hb48 := keepO1 hg (by omega) hb48
    replace hb54 := keepO1 hg (by omega) hb54
    clear hg
    refine hK57 _ _ ?_; clear hK57 K56
    refine wp_seq_k fun K62 hK63 => ?_
    refine region ?_
    refine sv ha (r_loadR ha rfl Tryd.isAgg23 Tryd.sizeOf23 (C := (xoA l m 25).map e64) (by rw [List.length_map, xoA_len]) (cells_all hb17)) rfl rfl rfl ?_; clear ha a; intro a ha
    refine sc ha (r_call ha [.agg (((xoA l m 25)).map e64).toArray] rfl Tryd.call17) rfl rfl rfl (c_rho (xoA l m 25) _ (by rw [xoA_len]) (glob_keep hG hB)) ?_
    clear ha a
    rintro e w64 ⟨rfl, hBc⟩
    have hg := grown_call hBc; clear hBc
    replace hB := keepB0 hg hB
    replace hb4 := keepO0 hg hb4
    replace hb6 := keepO0 hg hb6
    replace hb17 := keepO0 hg hb17
    replace hb36 := keepO0 hg hb36
    replace hb42 := keepO0 hg hb42
    replace hb48 := keepO0 hg hb48
    replace hb54 := keepO0 hg hb54
    replace hb60 := keepO0 hg hb60
    clear hg
    refine ⟨_, rfl, ?_⟩; intro a ha
    refine salloc ha zero_23K5 rfl ?_
    clear ha a; intro a w65 b66 ha hg hb66 hge66 hlt66
    have hz66 : w0.heap.size ≤ b66 := Nat.le_trans hB.size hge66
    have hq4_66 : b4 < b66 := Nat.lt_of_lt_of_le (lt_of_block hb4) hge66
    have hq6_66 : b6 < b66 := Nat.lt_of_lt_of_le (lt_of_block hb6) hge66
    have hq17_66 : b17 < b66 := Nat.lt_of_lt_of_le (lt_of_block hb17) hge66
    have hq36_66 : b36 < b66 := Nat.lt_of_lt_of_le (lt_of_block hb36) hge66
    have hq42_66 : b42 < b66 := Nat.lt_of_lt_of_le (lt_of_block hb42) hge66
    have hq48_66 : b48 < b66 := Nat.lt_of_lt_of_le (lt_of_block hb48) hge66
    have hq54_66 : b54 < b66 := Nat.lt_of_lt_of_le (lt_of_block hb54) hge66
    have hq60_66 : b60 < b66 := Nat.lt_of_lt_of_le (lt_of_block hb60) hge66
    replace hB := keepB0 hg hB
    replace hb4 := keepO0 hg hb4
    replace hb6 := keepO0 hg hb6
    replace hb17 := keepO0 hg hb17
    replace hb36 := keepO0 hg hb36
    replace hb42 := keepO0 hg hb42
    replace hb48 := keepO0 hg hb48
    replace hb54 := keepO0 hg hb54
    replace hb60 := keepO0 hg hb60
    clear hg hge66 hlt66
    refine sstoreW ha rfl rfl (one_e64 _) Tryd.sizeOf23 (by rw [List.length_map, rho_len, xoA_len]) hb66 (by rw [List.length_map, List.length_replicate]) ?_
    clear ha a; intro a w67 ha hg hb66'
    clear hb66; have hb66 := hb66'; clear hb66'
    replace hB := keepB1 hg (by omega) hB
    replace hb4 := keepO1 hg (by omega) hb4
    replace hb6 := keepO1 hg (by omega) hb6
    replace hb17 := keepO1 hg (by omega) hb17
    replace hb36 := keepO1 hg (by omega) hb36
    replace hb42 := keepO1 hg (by omega) hb42
    replace hb48 := keepO1 hg (by omega) hb48
    replace hb54 := keepO1 hg (by omega) hb54
    replace hb60 := keepO1 hg (by omega) hb60
    clear hg
    refine hK63 _ _ ?_; clear hK63 K62
    refine wp_seq_k fun K68 hK69 => ?_
    refine region ?_
    refine sv ha (r_loadR ha rfl Tryd.isAgg23 Tryd.sizeOf23 (C := (l).map e64) (by rw [List.length_map, hl]) (cells_all hb4)) rfl rfl rfl ?_; clear ha a; intro a ha
    refine sc ha (r_call ha [.agg ((l).map e64).toArray] rfl Tryd.call19) rfl rfl rfl (c_pi l _ (by rw [hl])) ?_
    clear ha a
    rintro e w70 ⟨rfl, hBc⟩
    have hg := grown_call hBc; clear hBc
    replace hB := keepB0 hg hB
    replace hb4 := keepO0 hg hb4
    replace hb6 := keepO0 hg hb6
    replace hb17 := keepO0 hg hb17
    replace hb36 := keepO0 hg hb36
    replace hb42 := keepO0 hg hb42
    replace hb48 := keepO0 hg hb48
    replace hb54 := keepO0 hg hb54
    replace hb60 := keepO0 hg hb60
    replace hb66 := keepO0 hg hb66
    clear hg
    refine ⟨_, rfl, ?_⟩; intro a ha
    refine salloc ha zero_23K5 rfl ?_
    clear ha a; intro a w71 b72 ha hg hb72 hge72 hlt72
    have hz72 : w0.heap.size ≤ b72 := Nat.le_trans hB.size hge72
    have hq4_72 : b4 < b72 := Nat.lt_of_lt_of_le (lt_of_block hb4) hge72
    have hq6_72 : b6 < b72 := Nat.lt_of_lt_of_le (lt_of_block hb6) hge72
    have hq17_72 : b17 < b72 := Nat.lt_of_lt_of_le (lt_of_block hb17) hge72
    have hq36_72 : b36 < b72 := Nat.lt_of_lt_of_le (lt_of_block hb36) hge72
    have hq42_72 : b42 < b72 := Nat.lt_of_lt_of_le (lt_of_block hb42) hge72
    have hq48_72 : b48 < b72 := Nat.lt_of_lt_of_le (lt_of_block hb48) hge72
    have hq54_72 : b54 < b72 := Nat.lt_of_lt_of_le (lt_of_block hb54) hge72
    have hq60_72 : b60 < b72 := Nat.lt_of_lt_of_le (lt_of_block hb60) hge72
    have hq66_72 : b66 < b72 := Nat.lt_of_lt_of_le (lt_of_block hb66) hge72
    replace hB := keepB0 hg hB
    replace hb4 := keepO0 hg hb4
    replace hb6 := keepO0 hg hb6
    replace hb17 := keepO0 hg hb17
    replace hb36 := keepO0 hg hb36
    replace hb42 := keepO0 hg hb42
    replace hb48 := keepO0 hg hb48
    replace hb54 := keepO0 hg hb54
    replace hb60 := keepO0 hg hb60
    replace hb66 := keepO0 hg hb66
    clear hg hge72 hlt72
    refine sstoreW ha rfl rfl (one_e64 _) Tryd.sizeOf23 (by rw [List.length_map, pi_len]) hb72 (by rw [List.length_map, List.length_replicate]) ?_
    clear ha a; intro a w73 ha hg hb72'
    clear hb72; have hb72 := hb72'; clear hb72'
    replace hB := keepB1 hg (by omega) hB
    replace hb4 := keepO1 hg (by omega) hb4
    replace hb6 := keepO1 hg (by omega) hb6
    replace hb17 := keepO1 hg (by omega) hb17
    replace hb36 := keepO1 hg (by omega) hb36
    replace hb42 := keepO1 hg (by omega) hb42
    replace hb48 := keepO1 hg (by omega) hb48
    replace hb54 := keepO1 hg (by omega) hb54
    replace hb60 := keepO1 hg (by omega) hb60
    replace hb66 := keepO1 hg (by omega) hb66
    clear hg
    refine hK69 _ _ ?_; clear hK69 K68
    refine wp_seq_k fun K74 hK75 => ?_
    refine region ?_
    refine sv ha (r_loadR ha rfl Tryd.isAgg23 Tryd.sizeOf23 (C := (m).map e64) (by rw [List.length_map, hm]) (cells_all hb6)) rfl rfl rfl ?_; clear ha a; intro a ha
    refine sc ha (r_call ha [.agg ((m).map e64).toArray] rfl Tryd.call19) rfl rfl rfl (c_pi m _ (by rw [hm])) ?_
    clear ha a
    rintro e w76 ⟨rfl, hBc⟩
    have hg := grown_call hBc; clear hBc
    replace hB := keepB0 hg hB
    replace hb4 := keepO0 hg hb4
    replace hb6 := keepO0 hg hb6
    replace hb17 := keepO0 hg hb17
    replace hb36 := keepO0 hg hb36
    replace hb42 := keepO0 hg hb42
    replace hb48 := keepO0 hg hb48
    replace hb54 := keepO0 hg hb54
    replace hb60 := keepO0 hg hb60
    replace hb66 := keepO0 hg hb66
    replace hb72 := keepO0 hg hb72
    clear hg
    refine ⟨_, rfl, ?_⟩; intro a ha
    refine salloc ha zero_23K5 rfl ?_
    clear ha a; intro a w77 b78 ha hg hb78 hge78 hlt78
    have hz78 : w0.heap.size ≤ b78 := Nat.le_trans hB.size hge78
    have hq4_78 : b4 < b78 := Nat.lt_of_lt_of_le (lt_of_block hb4) hge78
    have hq6_78 : b6 < b78 := Nat.lt_of_lt_of_le (lt_of_block hb6) hge78
    have hq17_78 : b17 < b78 := Nat.lt_of_lt_of_le (lt_of_block hb17) hge78
    have hq36_78 : b36 < b78 := Nat.lt_of_lt_of_le (lt_of_block hb36) hge78
    have hq42_78 : b42 < b78 := Nat.lt_of_lt_of_le (lt_of_block hb42) hge78
    have hq48_78 : b48 < b78 := Nat.lt_of_lt_of_le (lt_of_block hb48) hge78
    have hq54_78 : b54 < b78 := Nat.lt_of_lt_of_le (lt_of_block hb54) hge78
    have hq60_78 : b60 < b78 := Nat.lt_of_lt_of_le (lt_of_block hb60) hge78
    have hq66_78 : b66 < b78 := Nat.lt_of_lt_of_le (lt_of_block hb66) hge78
    have hq72_78 : b72 < b78 := Nat.lt_of_lt_of_le (lt_of_block hb72) hge78
    replace hB := keepB0 hg hB
    replace hb4 := keepO0 hg hb4
    replace hb6 := keepO0 hg hb6
    replace hb17 := keepO0 hg hb17
    replace hb36 := keepO0 hg hb36
    replace hb42 := keepO0 hg hb42
    replace hb48 := keepO0 hg hb48
    replace hb54 := keepO0 hg hb54
    replace hb60 := keepO0 hg hb60
    replace hb66 := keepO0 hg hb66
    replace hb72 := keepO0 hg hb72
    clear hg hge78 hlt78
    refine sstoreW ha rfl rfl (one_e64 _) Tryd.sizeOf23 (by rw [List.length_map, pi_len]) hb78 (by rw [List.length_map, List.length_replicate]) ?_
    clear ha a; intro a w79 ha hg hb78'
    clear hb78; have hb78 := hb78'; clear hb78'
    replace hB := keepB1 hg (by omega) hB
    replace hb4 := keepO1 hg (by omega) hb4
    replace hb6 := keepO1 hg (by omega) hb6
    replace hb17 := keepO1 hg (by omega) hb17
    replace hb36 := keepO1 hg (by omega) hb36
    replace hb42 := keepO1 hg (by omega) hb42
    replace hb48 := keepO1 hg (by omega) hb48
    replace hb54 := keepO1 hg (by omega) hb54
    replace hb60 := keepO1 hg (by omega) hb60
    replace hb66 := keepO1 hg (by omega) hb66
    replace hb72 := keepO1 hg (by omega) hb72
    clear hg
    refine hK75 _ _ ?_; clear hK75 K74
    refine wp_seq_k fun K80 hK81 => ?_
    refine region ?_
    refine sv ha (r_loadR ha rfl Tryd.isAgg23 Tryd.sizeOf23 (C := (xoA l m 25).map e64) (by rw [List.length_map, xoA_len]) (cells_all hb17)) rfl rfl rfl ?_; clear ha a; intro a ha
    refine sc ha (r_call ha [.agg (((xoA l m 25)).map e64).toArray] rfl Tryd.call19) rfl rfl rfl (c_pi (xoA l m 25) _ (by rw [xoA_len])) ?_
    clear ha a
    rintro e w82 ⟨rfl, hBc⟩
    have hg := grown_call hBc; clear hBc
    replace hB := keepB0 hg hB
    replace hb4 := keepO0 hg hb4
    replace hb6 := keepO0 hg hb6
    replace hb17 := keepO0 hg hb17
    replace hb36 := keepO0 hg hb36
    replace hb42 := keepO0 hg hb42
    replace hb48 := keepO0 hg hb48
    replace hb54 := keepO0 hg hb54
    replace hb60 := keepO0 hg hb60
    replace hb66 := keepO0 hg hb66
    replace hb72 := keepO0 hg hb72
    replace hb78 := keepO0 hg hb78
    clear hg
    refine ⟨_, rfl, ?_⟩; intro a ha
    refine salloc ha zero_23K5 rfl ?_
    clear ha a; intro a w83 b84 ha hg hb84 hge84 hlt84
    have hz84 : w0.heap.size ≤ b84 := Nat.le_trans hB.size hge84
    have hq4_84 : b4 < b84 := Nat.lt_of_lt_of_le (lt_of_block hb4) hge84
    have hq6_84 : b6 < b84 := Nat.lt_of_lt_of_le (lt_of_block hb6) hge84
    have hq17_84 : b17 < b84 := Nat.lt_of_lt_of_le (lt_of_block hb17) hge84
    have hq36_84 : b36 < b84 := Nat.lt_of_lt_of_le (lt_of_block hb36) hge84
    have hq42_84 : b42 < b84 := Nat.lt_of_lt_of_le (lt_of_block hb42) hge84
    have hq48_84 : b48 < b84 := Nat.lt_of_lt_of_le (lt_of_block hb48) hge84
    have hq54_84 : b54 < b84 := Nat.lt_of_lt_of_le (lt_of_block hb54) hge84
    have hq60_84 : b60 < b84 := Nat.lt_of_lt_of_le (lt_of_block hb60) hge84
    have hq66_84 : b66 < b84 := Nat.lt_of_lt_of_le (lt_of_block hb66) hge84
    have hq72_84 : b72 < b84 := Nat.lt_of_lt_of_le (lt_of_block hb72) hge84
    have hq78_84 : b78 < b84 := Nat.lt_of_lt_of_le (lt_of_block hb78) hge84
    replace hB := keepB0 hg hB
    replace hb4 := keepO0 hg hb4
    replace hb6 := keepO0 hg hb6
    replace hb17 := keepO0 hg hb17
    replace hb36 := keepO0 hg hb36
    replace hb42 := keepO0 hg hb42
    replace hb48 := keepO0 hg hb48
    replace hb54 := keepO0 hg hb54
    replace hb60 := keepO0 hg hb60
    replace hb66 := keepO0 hg hb66
    replace hb72 := keepO0 hg hb72
    replace hb78 := keepO0 hg hb78
    clear hg hge84 hlt84
    refine sstoreW ha rfl rfl (one_e64 _) Tryd.sizeOf23 (by rw [List.length_map, pi_len]) hb84 (by rw [List.length_map, List.length_replicate]) ?_
    clear ha a; intro a w85 ha hg hb84'
    clear hb84; have hb84 := hb84'; clear hb84'
    replace hB := keepB1 hg (by omega) hB
    replace hb4 := keepO1 hg (by omega) hb4
    replace hb6 := keepO1 hg (by omega) hb6
    replace hb17 := keepO1 hg (by omega) hb17
    replace hb36 := keepO1 hg (by omega) hb36
    replace hb42 := keepO1 hg (by omega) hb42
    replace hb48 := keepO1 hg (by omega) hb48
    replace hb54 := keepO1 hg (by omega) hb54
    replace hb60 := keepO1 hg (by omega) hb60
    replace hb66 := keepO1 hg (by omega) hb66
    replace hb72 := keepO1 hg (by omega) hb72
    replace hb78 := keepO1 hg (by omega) hb78
    clear hg
    refine hK81 _ _ ?_; clear hK81 K80
    refine wp_seq_k fun K86 hK87 => ?_
    refine wp_seq_k fun K88 hK89 => ?_
    refine region ?_
    refine sv ha (r_assign ha rfl) rfl rfl rfl ?_; clear ha a; intro a ha
    refine hK89 _ _ ?_; clear hK89 K88
    refine wp_block ?_
    refine loopG (fun (k : Nat) a w => (k ≤ 25) ∧ Has 102 [(0, .agg ((l).map e64).toArray), (1, .agg ((m).map e64).toArray), (2, .pointer (some ⟨b4, 0, none⟩)), (3, .pointer (some ⟨b6, 0, none⟩)), (18, .bool true), (5, .bool true), (19, .bool true), (20, .bool false), (6, .pointer (some ⟨b17, 0, none⟩)), (7, en 25), (21, en 25), (22, .bool (decide (25 < 25))), (34, .agg ((l).map e64).toArray), (35, .agg ((theta l).map e64).toArray), (8, .pointer (some ⟨b36, 0, none⟩)), (36, .agg ((m).map e64).toArray), (37, .agg ((theta m).map e64).toArray), (9, .pointer (some ⟨b42, 0, none⟩)), (38, .agg ((xoA l m 25).map e64).toArray), (39, .agg ((theta (xoA l m 25)).map e64).toArray), (10, .pointer (some ⟨b48, 0, none⟩)), (40, .agg ((l).map e64).toArray), (41, .agg ((rho l).map e64).toArray), (11, .pointer (some ⟨b54, 0, none⟩)), (42, .agg ((m).map e64).toArray), (43, .agg ((rho m).map e64).toArray), (12, .pointer (some ⟨b60, 0, none⟩)), (44, .agg ((xoA l m 25).map e64).toArray), (45, .agg ((rho (xoA l m 25)).map e64).toArray), (13, .pointer (some ⟨b66, 0, none⟩)), (46, .agg ((l).map e64).toArray), (47, .agg ((pi l).map e64).toArray), (14, .pointer (some ⟨b72, 0, none⟩)), (48, .agg ((m).map e64).toArray), (49, .agg ((pi m).map e64).toArray), (15, .pointer (some ⟨b78, 0, none⟩)), (50, .agg ((xoA l m 25).map e64).toArray), (51, .agg ((pi (xoA l m 25)).map e64).toArray), (16, .pointer (some ⟨b84, 0, none⟩)), (17, en k)] a ∧ Below w0.heap.size w0 w ∧ w.heap[b4]? = some (.cells ((l).map e64).toArray 23 (0, 0)) ∧ w.heap[b6]? = some (.cells ((m).map e64).toArray 23 (0, 0)) ∧ w.heap[b17]? = some (.cells ((xoA l m 25).map e64).toArray 23 (0, 0)) ∧ w.heap[b36]? = some (.cells ((theta l).map e64).toArray 23 (0, 0)) ∧ w.heap[b42]? = some (.cells ((theta m).map e64).toArray 23 (0, 0)) ∧ w.heap[b48]? = some (.cells ((theta (xoA l m 25)).map e64).toArray 23 (0, 0)) ∧ w.heap[b54]? = some (.cells ((rho l).map e64).toArray 23 (0, 0)) ∧ w.heap[b60]? = some (.cells ((rho m).map e64).toArray 23 (0, 0)) ∧ w.heap[b66]? = some (.cells ((rho (xoA l m 25)).map e64).toArray 23 (0, 0)) ∧ w.heap[b72]? = some (.cells ((pi l).map e64).toArray 23 (0, 0)) ∧ w.heap[b78]? = some (.cells ((pi m).map e64).toArray 23 (0, 0)) ∧ w.heap[b84]? = some (.cells ((pi (xoA l m 25)).map e64).toArray 23 (0, 0))) (fun k => 25 - k) 0 ⟨(by omega), ha.to [0, 1, 2, 3, 18, 5, 19, 20, 6, 7, 21, 22, 34, 35, 8, 36, 37, 9, 38, 39, 10, 40, 41, 11, 42, 43, 12, 44, 45, 13, 46, 47, 14, 48, 49, 15, 50, 51, 16, 17] rfl, hB, hb4, hb6, hb17, hb36, hb42, hb48, hb54, hb60, hb66, hb72, hb78, hb84⟩ ?_
    clear ha a hB hb4 hb6 hb17 hb36 hb42 hb48 hb54 hb60 hb66 hb72 hb78 hb84
    intro k a w90 ⟨hkk, ha, hB, hb4, hb6, hb17, hb36, hb42, hb48, hb54, hb60, hb66, hb72, hb78, hb84⟩
    refine wp_seq_k fun K91 hK92 => ?_
    refine wp_seq_k fun K93 hK94 => ?_
    refine region ?_
    refine sv ha (r_move ha rfl) rfl rfl rfl ?_; clear ha a; intro a ha
    refine sv ha (r_lss ha ((k : Nat) : Int) 25 (decide (k < 25)) rfl rfl (decide_eq_decide.2 (by omega))) rfl rfl rfl ?_; clear ha a; intro a ha
    refine hK94 _ _ ?_; clear hK94 K93
    refine cond_if ha rfl (fun hc95 => ?_) (fun hc95 => ?_)
    · skip
      replace hc95 := of_decide_eq_true hc95
      refine wp_skip ?_
      refine hK92 _ _ ?_; clear hK92 K91
      refine wp_seq_k fun K96 hK97 => ?_
      refine wp_block ?_
      refine wp_seq_k fun K98 hK99 => ?_
      refine regionD (S := fun w => Below w0.heap.size w0 w ∧ w.heap[b4]? = some (.cells ((l).map e64).toArray 23 (0, 0)) ∧ w.heap[b6]? = some (.cells ((m).map e64).toArray 23 (0, 0)) ∧ w.heap[b17]? = some (.cells ((xoA l m 25).map e64).toArray 23 (0, 0)) ∧ w.heap[b36]? = some (.cells ((theta l).map e64).toArray 23 (0, 0)) ∧ w.heap[b42]? = some (.cells ((theta m).map e64).toArray 23 (0, 0)) ∧ w.heap[b48]? = some (.cells ((theta (xoA l m 25)).map e64).toArray 23 (0, 0)) ∧ w.heap[b54]? = some (.cells ((rho l).map e64).toArray 23 (0, 0)) ∧ w.heap[b60]? = some (.cells ((rho m).map e64).toArray 23 (0, 0)) ∧ w.heap[b66]? = some (.cells ((rho (xoA l m 25)).map e64).toArray 23 (0, 0)) ∧ w.heap[b72]? = some (.cells ((pi l).map e64).toArray 23 (0, 0)) ∧ w.heap[b78]? = some (.cells ((pi m).map e64).toArray 23 (0, 0)) ∧ w.heap[b84]? = some (.cells ((pi (xoA l m 25)).map e64).toArray 23 (0, 0)) ∧ True) 37 [0, 1, 2, 3, 4, 5, 6, 7, 8, 9, 10, 11, 12, 13, 14, 15, 16, 17, 18, 19, 20, 21, 22, 23, 24, 25, 26, 27, 28, 29, 30, 31, 32, 33, 34, 35, 36] [0, 1, 2, 3, 4, 5, 6, 7, 8, 9, 10, 11, 12, 13, 14, 15, 16, 17, 18, 19, 20, 21, 22, 23, 24, 25, 26, 27, 28, 29, 30, 31, 32, 33, 34, 35, 36] mixed (by kernel_rfl) (by kernel_rfl) (fun w hg => ⟨keepB0 hg hB, keepO0 hg hb4, keepO0 hg hb6, keepO0 hg hb17, keepO0 hg hb36, keepO0 hg hb42, keepO0 hg hb48, keepO0 hg hb54, keepO0 hg hb60, keepO0 hg hb66, keepO0 hg hb72, keepO0 hg hb78, keepO0 hg hb84, trivial⟩) ?_
      intro w100 hg
      replace hB := keepB0 hg hB
      replace hb4 := keepO0 hg hb4
      replace hb6 := keepO0 hg hb6
      replace hb17 := keepO0 hg hb17
      replace hb36 := keepO0 hg hb36
      replace hb42 := keepO0 hg hb42
      replace hb48 := keepO0 hg hb48
      replace hb54 := keepO0 hg hb54
      replace hb60 := keepO0 hg hb60
      replace hb66 := keepO0 hg hb66
      replace hb72 := keepO0 hg hb72
      replace hb78 := keepO0 hg hb78
      replace hb84 := keepO0 hg hb84
      clear hg
      refine cv ha rfl rfl (fun w _ => r_move ha rfl) rfl rfl rfl ?_; clear ha a; intro a ha
      refine cv ha rfl rfl (fun w _ => r_indexArr (i := k) ha k Tryd.runUnderlying23 Tryd.sizeOf22 rfl rfl (by omega) (by omega)) rfl rfl rfl ?_; clear ha a; intro a ha
      refine cv ha rfl rfl (fun w ⟨hB, hb4, hb6, hb17, hb36, hb42, hb48, hb54, hb60, hb66, hb72, hb78, hb84, _⟩ => r_load ha rfl Tryd.isAgg22 (cell_of hb36 (get_map e64 (theta l) 0 k (by rw [theta_len, hl]; omega)))) rfl rfl rfl ?_; clear ha a; intro a ha
      refine cv ha rfl rfl (fun w _ => r_move ha rfl) rfl rfl rfl ?_; clear ha a; intro a ha
      refine cv ha rfl rfl (fun w _ => r_indexArr (i := k) ha k Tryd.runUnderlying23 Tryd.sizeOf22 rfl rfl (by omega) (by omega)) rfl rfl rfl ?_; clear ha a; intro a ha
      refine cv ha rfl rfl (fun w ⟨hB, hb4, hb6, hb17, hb36, hb42, hb48, hb54, hb60, hb66, hb72, hb78, hb84, _⟩ => r_load ha rfl Tryd.isAgg22 (cell_of hb42 (get_map e64 (theta m) 0 k (by rw [theta_len, hm]; omega)))) rfl rfl rfl ?_; clear ha a; intro a ha
      refine cv ha rfl rfl (fun w _ => ru_xor ha ((theta l).getD k 0) ((theta m).getD k 0) rfl rfl) rfl rfl rfl ?_; clear ha a; intro a ha
      refine cv ha rfl rfl (fun w _ => r_move ha rfl) rfl rfl rfl ?_; clear ha a; intro a ha
      refine cv ha rfl rfl (fun w _ => r_indexArr (i := k) ha k Tryd.runUnderlying23 Tryd.sizeOf22 rfl rfl (by omega) (by omega)) rfl rfl rfl ?_; clear ha a; intro a ha
      refine cv ha rfl rfl (fun w ⟨hB, hb4, hb6, hb17, hb36, hb42, hb48, hb54, hb60, hb66, hb72, hb78, hb84, _⟩ => r_load ha rfl Tryd.isAgg22 (cell_of hb48 (get_map e64 (theta (xoA l m 25)) 0 k (by rw [theta_len, xoA_len]; omega)))) rfl rfl rfl ?_; clear ha a; intro a ha
      refine cv ha rfl rfl (fun w _ => r_neq ha ((((theta l).getD k 0) ^^^ ((theta m).getD k 0)).toNat : Int) (((theta (xoA l m 25)).getD k 0).toNat : Int) false rfl rfl (decide_eq_false (fun h => h (by rw [theta_xo l m hl hm k (by omega)])))) rfl rfl rfl ?_; clear ha a; intro a ha
      refine cv ha rfl rfl (fun w _ => r_move ha rfl) rfl rfl rfl ?_; clear ha a; intro a ha
      refine cvg ha rfl rfl (fun w _ => r_move ha rfl) rfl rfl rfl rfl rfl ?_; clear ha a; intro a ha
      refine cvg ha rfl rfl (fun w _ => r_indexArr (i := k) ha k Tryd.runUnderlying23 Tryd.sizeOf22 rfl rfl (by omega) (by omega)) rfl rfl rfl rfl rfl ?_; clear ha a; intro a ha
      refine cvg ha rfl rfl (fun w ⟨hB, hb4, hb6, hb17, hb36, hb42, hb48, hb54, hb60, hb66, hb72, hb78, hb84, _⟩ => r_load ha rfl Tryd.isAgg22 (cell_of hb54 (get_map e64 (rho l) 0 k (by rw [rho_len, hl]; omega)))) rfl rfl rfl rfl rfl ?_; clear ha a; intro a ha
      refine cvg ha rfl rfl (fun w _ => r_move ha rfl) rfl rfl rfl rfl rfl ?_; clear ha a; intro a ha
      refine cvg ha rfl rfl (fun w _ => r_indexArr (i := k) ha k Tryd.runUnderlying23 Tryd.sizeOf22 rfl rfl (by omega) (by omega)) rfl rfl rfl rfl rfl ?_; clear ha a; intro a ha
      refine cvg ha rfl rfl (fun w ⟨hB, hb4, hb6, hb17, hb36, hb42, hb48, hb54, hb60, hb66, hb72, hb78, hb84, _⟩ => r_load ha rfl Tryd.isAgg22 (cell_of hb60 (get_map e64 (rho m) 0 k (by rw [rho_len, hm]; omega)))) rfl rfl rfl rfl rfl ?_; clear ha a; intro a ha
      refine cvg ha rfl rfl (fun w _ => ru_xor ha ((rho l).getD k 0) ((rho m).getD k 0) rfl rfl) rfl rfl rfl rfl rfl ?_; clear ha a; intro a ha
      refine cvg ha rfl rfl (fun w _ => r_move ha rfl) rfl rfl rfl rfl rfl ?_; clear ha a; intro a ha
      refine cvg ha rfl rfl (fun w _ => r_indexArr (i := k) ha k Tryd.runUnderlying23 Tryd.sizeOf22 rfl rfl (by omega) (by omega)) rfl rfl rfl rfl rfl ?_; clear ha a; intro a ha
      refine cvg ha rfl rfl (fun w ⟨hB, hb4, hb6, hb17, hb36, hb42, hb48, hb54, hb60, hb66, hb72, hb78, hb84, _⟩ => r_load ha rfl Tryd.isAgg22 (cell_of hb66 (get_map e64 (rho (xoA l m 25)) 0 k (by rw [rho_len, xoA_len]; omega)))) rfl rfl rfl rfl rfl ?_; clear ha a; intro a ha
      refine cvg ha rfl rfl (fun w _ => r_neq ha ((((rho l).getD k 0) ^^^ ((rho m).getD k 0)).toNat : Int) (((rho (xoA l m 25)).getD k 0).toNat : Int) false rfl rfl (decide_eq_false (fun h => h (by rw [rho_xo l m hl hm k (by omega)])))) rfl rfl rfl rfl rfl ?_; clear ha a; intro a ha
      refine cv ha rfl rfl (fun w _ => r_pick ha false rfl rfl) rfl rfl rfl ?_; clear ha a; intro a ha
      refine cv ha rfl rfl (fun w _ => r_move ha rfl) rfl rfl rfl ?_; clear ha a; intro a ha
      refine cvg ha rfl rfl (fun w _ => r_move ha rfl) rfl rfl rfl rfl rfl ?_; clear ha a; intro a ha
      refine cvg ha rfl rfl (fun w _ => r_indexArr (i := k) ha k Tryd.runUnderlying23 Tryd.sizeOf22 rfl rfl (by omega) (by omega)) rfl rfl rfl rfl rfl ?_; clear ha a; intro a ha
      refine cvg ha rfl rfl (fun w ⟨hB, hb4, hb6, hb17, hb36, hb42, hb48, hb54, hb60, hb66, hb72, hb78, hb84, _⟩ => r_load ha rfl Tryd.isAgg22 (cell_of hb72 (get_map e64 (pi l) 0 k (by rw [pi_len]; omega)))) rfl rfl rfl rfl rfl ?_; clear ha a; intro a ha
      refine cvg ha rfl rfl (fun w _ => r_move ha rfl) rfl rfl rfl rfl rfl ?_; clear ha a; intro a ha
      refine cvg ha rfl rfl (fun w _ => r_indexArr (i := k) ha k Tryd.runUnderlying23 Tryd.sizeOf22 rfl rfl (by omega) (by omega)) rfl rfl rfl rfl rfl ?_; clear ha a; intro a ha
      refine cvg ha rfl rfl (fun w ⟨hB, hb4, hb6, hb17, hb36, hb42, hb48, hb54, hb60, hb66, hb72, hb78, hb84, _⟩ => r_load ha rfl Tryd.isAgg22 (cell_of hb78 (get_map e64 (pi m) 0 k (by rw [pi_len]; omega)))) rfl rfl rfl rfl rfl ?_; clear ha a; intro a ha
      refine cvg ha rfl rfl (fun w _ => ru_xor ha ((pi l).getD k 0) ((pi m).getD k 0) rfl rfl) rfl rfl rfl rfl rfl ?_; clear ha a; intro a ha
      refine cvg ha rfl rfl (fun w _ => r_move ha rfl) rfl rfl rfl rfl rfl ?_; clear ha a; intro a ha
      refine cvg ha rfl rfl (fun w _ => r_indexArr (i := k) ha k Tryd.runUnderlying23 Tryd.sizeOf22 rfl rfl (by omega) (by omega)) rfl rfl rfl rfl rfl ?_; clear ha a; intro a ha
      refine cvg ha rfl rfl (fun w ⟨hB, hb4, hb6, hb17, hb36, hb42, hb48, hb54, hb60, hb66, hb72, hb78, hb84, _⟩ => r_load ha rfl Tryd.isAgg22 (cell_of hb84 (get_map e64 (pi (xoA l m 25)) 0 k (by rw [pi_len]; omega)))) rfl rfl rfl rfl rfl ?_; clear ha a; intro a ha
      refine cvg ha rfl rfl (fun w _ => r_neq ha ((((pi l).getD k 0) ^^^ ((pi m).getD k 0)).toNat : Int) (((pi (xoA l m 25)).getD k 0).toNat : Int) false rfl rfl (decide_eq_false (fun h => h (by rw [pi_xo l m k (by omega)])))) rfl rfl rfl rfl rfl ?_; clear ha a; intro a ha
      refine cv ha rfl rfl (fun w _ => r_pick ha false rfl rfl) rfl rfl rfl ?_; clear ha a; intro a ha
      refine cfin (hK99 _ _ ?_); clear hK99 K98
      refine cond_f ha rfl ?_
      refine wp_skip ?_
      refine hK97 _ _ ?_; clear hK97 K96
      refine region ?_
      refine sv ha (r_move ha rfl) rfl rfl rfl ?_; clear ha a; intro a ha
      refine sv ha (rn_add ha k 1 rfl rfl (by omega)) rfl rfl rfl ?_; clear ha a; intro a ha
      refine sv ha (r_assign ha rfl) rfl rfl rfl ?_; clear ha a; intro a ha
      exact ⟨k + 1, by omega, (by omega), ha.to [0, 1, 2, 3, 18, 5, 19, 20, 6, 7, 21, 22, 34, 35, 8, 36, 37, 9, 38, 39, 10, 40, 41, 11, 42, 43, 12, 44, 45, 13, 46, 47, 14, 48, 49, 15, 50, 51, 16, 17] rfl, hB, hb4, hb6, hb17, hb36, hb42, hb48, hb54, hb60, hb66, hb72, hb78, hb84⟩
    · skip
      replace hc95 := of_decide_eq_false hc95
      refine wp_exit ?_
      obtain rfl : k = 25 := by omega
      refine hK87 _ _ ?_; clear hK92 K91 hK87 K86
      refine wp_seq_k fun K101 hK102 => ?_
      refine regionD (S := fun w => Below w0.heap.size w0 w ∧ w.heap[b4]? = some (.cells ((l).map e64).toArray 23 (0, 0)) ∧ w.heap[b6]? = some (.cells ((m).map e64).toArray 23 (0, 0)) ∧ w.heap[b17]? = some (.cells ((xoA l m 25).map e64).toArray 23 (0, 0)) ∧ w.heap[b36]? = some (.cells ((theta l).map e64).toArray 23 (0, 0)) ∧ w.heap[b42]? = some (.cells ((theta m).map e64).toArray 23 (0, 0)) ∧ w.heap[b48]? = some (.cells ((theta (xoA l m 25)).map e64).toArray 23 (0, 0)) ∧ w.heap[b54]? = some (.cells ((rho l).map e64).toArray 23 (0, 0)) ∧ w.heap[b60]? = some (.cells ((rho m).map e64).toArray 23 (0, 0)) ∧ w.heap[b66]? = some (.cells ((rho (xoA l m 25)).map e64).toArray 23 (0, 0)) ∧ w.heap[b72]? = some (.cells ((pi l).map e64).toArray 23 (0, 0)) ∧ w.heap[b78]? = some (.cells ((pi m).map e64).toArray 23 (0, 0)) ∧ w.heap[b84]? = some (.cells ((pi (xoA l m 25)).map e64).toArray 23 (0, 0)) ∧ True) 10 [0, 2, 5, 6, 7, 4, 8, 9] [0, 2, 5, 6, 7, 1, 3, 4, 8, 9] mixed (by kernel_rfl) (by kernel_rfl) (fun w hg => ⟨keepB0 hg hB, keepO0 hg hb4, keepO0 hg hb6, keepO0 hg hb17, keepO0 hg hb36, keepO0 hg hb42, keepO0 hg hb48, keepO0 hg hb54, keepO0 hg hb60, keepO0 hg hb66, keepO0 hg hb72, keepO0 hg hb78, keepO0 hg hb84, trivial⟩) ?_
      intro w103 hg
      replace hB := keepB0 hg hB
      replace hb4 := keepO0 hg hb4
      replace hb6 := keepO0 hg hb6
      replace hb17 := keepO0 hg hb17
      replace hb36 := keepO0 hg hb36
      replace hb42 := keepO0 hg hb42
      replace hb48 := keepO0 hg hb48
      replace hb54 := keepO0 hg hb54
      replace hb60 := keepO0 hg hb60
      replace hb66 := keepO0 hg hb66
      replace hb72 := keepO0 hg hb72
      replace hb78 := keepO0 hg hb78
      replace hb84 := keepO0 hg hb84
      clear hg
      refine cv ha rfl rfl (fun w ⟨hB, hb4, hb6, hb17, hb36, hb42, hb48, hb54, hb60, hb66, hb72, hb78, hb84, _⟩ => r_loadR ha rfl Tryd.isAgg23 Tryd.sizeOf23 (C := (l).map e64) (by rw [List.length_map, hl]) (cells_all hb4)) rfl rfl rfl ?_; clear ha a; intro a ha
      refine cv ha rfl rfl (fun w ⟨hB, hb4, hb6, hb17, hb36, hb42, hb48, hb54, hb60, hb66, hb72, hb78, hb84, _⟩ => r_loadR ha rfl Tryd.isAgg23 Tryd.sizeOf23 (C := (m).map e64) (by rw [List.length_map, hm]) (cells_all hb6)) rfl rfl rfl ?_; clear ha a; intro a ha
      refine cv ha rfl rfl (fun w ⟨hB, hb4, hb6, hb17, hb36, hb42, hb48, hb54, hb60, hb66, hb72, hb78, hb84, _⟩ => r_loadR ha rfl Tryd.isAgg23 Tryd.sizeOf23 (C := (l).map e64) (by rw [List.length_map, hl]) (cells_all hb4)) rfl rfl rfl ?_; clear ha a; intro a ha
      refine cv ha rfl rfl (fun w ⟨hB, hb4, hb6, hb17, hb36, hb42, hb48, hb54, hb60, hb66, hb72, hb78, hb84, _⟩ => r_loadR ha rfl Tryd.isAgg23 Tryd.sizeOf23 (C := (m).map e64) (by rw [List.length_map, hm]) (cells_all hb6)) rfl rfl rfl ?_; clear ha a; intro a ha
      refine cv ha rfl rfl (fun w _ => r_eqA (f := (fun z : UInt64 => (z.toNat : Int))) (inj64) l m ha rfl rfl (by rw [hl]) (by rw [hm]) Tryd.eqGuardType23 Tryd.runUnderlying23 Tryd.sizeOf22 Tryd.underlying22 Tryd.isAgg22 (decide (l = m)) rfl) rfl rfl rfl ?_; clear ha a; intro a ha
      refine cc ha rfl rfl (r_call ha [.agg ((l).map e64).toArray] rfl Tryd.call27) rfl rfl rfl (c_kf l _ (by rw [hl]) (glob_keep hG hB)) ?_
      clear ha a
      rintro e w104 ⟨rfl, hBc⟩
      have hg := grown_call hBc; clear hBc
      replace hB := keepB0 hg hB
      replace hb4 := keepO0 hg hb4
      replace hb6 := keepO0 hg hb6
      replace hb17 := keepO0 hg hb17
      replace hb36 := keepO0 hg hb36
      replace hb42 := keepO0 hg hb42
      replace hb48 := keepO0 hg hb48
      replace hb54 := keepO0 hg hb54
      replace hb60 := keepO0 hg hb60
      replace hb66 := keepO0 hg hb66
      replace hb72 := keepO0 hg hb72
      replace hb78 := keepO0 hg hb78
      replace hb84 := keepO0 hg hb84
      clear hg
      refine ⟨fun _ => ⟨hB, hb4, hb6, hb17, hb36, hb42, hb48, hb54, hb60, hb66, hb72, hb78, hb84, trivial⟩, _, rfl, ?_⟩; intro a ha
      refine cc ha rfl rfl (r_call ha [.agg ((m).map e64).toArray] rfl Tryd.call27) rfl rfl rfl (c_kf m _ (by rw [hm]) (glob_keep hG hB)) ?_
      clear ha a
      rintro e w105 ⟨rfl, hBc⟩
      have hg := grown_call hBc; clear hBc
      replace hB := keepB0 hg hB
      replace hb4 := keepO0 hg hb4
      replace hb6 := keepO0 hg hb6
      replace hb17 := keepO0 hg hb17
      replace hb36 := keepO0 hg hb36
      replace hb42 := keepO0 hg hb42
      replace hb48 := keepO0 hg hb48
      replace hb54 := keepO0 hg hb54
      replace hb60 := keepO0 hg hb60
      replace hb66 := keepO0 hg hb66
      replace hb72 := keepO0 hg hb72
      replace hb78 := keepO0 hg hb78
      replace hb84 := keepO0 hg hb84
      clear hg
      refine ⟨fun _ => ⟨hB, hb4, hb6, hb17, hb36, hb42, hb48, hb54, hb60, hb66, hb72, hb78, hb84, trivial⟩, _, rfl, ?_⟩; intro a ha
      refine cv ha rfl rfl (fun w _ => r_eqA (f := (fun z : UInt64 => (z.toNat : Int))) (inj64) (kf l) (kf m) ha rfl rfl (by rw [kf_len _ (by rw [hl])]) (by rw [kf_len _ (by rw [hm])]) Tryd.eqGuardType23 Tryd.runUnderlying23 Tryd.sizeOf22 Tryd.underlying22 Tryd.isAgg22 (decide (kf l = kf m)) rfl) rfl rfl rfl ?_; clear ha a; intro a ha
      refine cv ha rfl rfl (fun w _ => r_eqlB ha (decide (kf l = kf m)) (decide (l = m)) true rfl rfl Tryd.runUnderlying4 (by rw [beq_iff_eq]; exact decide_eq_decide.2 (kf_inj l m hl hm))) rfl rfl rfl ?_; clear ha a; intro a ha
      refine cv ha rfl rfl (fun w _ => r_assign ha rfl) rfl rfl rfl ?_; clear ha a; intro a ha
      refine cfin (hK102 _ _ ?_); clear hK102 K101
      refine wp_ret ?_
      repeat (first | (with_reducible refine t_ret ?_) | (with_reducible refine x_ret ?_))
      exact ret1 ha Tryd.results10 rfl ⟨rfl, hB⟩
end Go.Proofs.YtdfgdaeboidkhaaDoor
