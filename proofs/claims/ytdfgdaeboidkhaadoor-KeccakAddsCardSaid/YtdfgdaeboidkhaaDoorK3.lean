/- WALKS written by gen.py (own program) out of specs. -/
import Derived.Test.YtdfgdaeboidkhaaDoorK2
namespace Go.Proofs.YtdfgdaeboidkhaaDoor
open Go.RowKit Go.Rx
set_option maxRecDepth 100000
set_option maxHeartbeats 4000000
set_option linter.unusedVariables false

theorem c_rc (t : Nat) (w0 : World) :
    Calls Tryd.prog 35 #[en t] w0 fun e w' => e = .returned (en (rcv t)) ∧ Below w0.heap.size w0 w' := by
  refine enter (args := [_]) Tryd.func35 rfl Tryd.ntmps35 rfl ?_
  intro a ha
  have hB := Below.refl w0.heap.size w0
  refine wp_seq_k fun K1 hK2 => ?_
  refine region ?_
  refine sv ha (r_assign ha rfl) rfl rfl rfl ?_; clear ha a; intro a ha
  refine hK2 _ _ ?_; clear hK2 K1
  refine wp_seq_k fun K3 hK4 => ?_
  refine region ?_
  refine sbuildS ha [(0, .int .i64 1), (1, .int .i64 0), (2, .int .i64 0), (3, .int .i64 0), (4, .int .i64 0), (5, .int .i64 0), (6, .int .i64 0), (7, .int .i64 0)] (([1, 0, 0, 0, 0, 0, 0, 0] : List Nat).map en) rfl Tryd.runUnderlying45 Tryd.sizeOf3 Tryd.zeroValue3 rfl rfl rfl rfl rfl ?_
  clear ha a; intro a w5 b6 ha hg hb6 hge6 hlt6
  have hz6 : w0.heap.size ≤ b6 := Nat.le_trans hB.size hge6
  replace hB := keepB0 hg hB
  clear hg hge6 hlt6
  refine sv ha (r_assign ha rfl) rfl rfl rfl ?_; clear ha a; intro a ha
  refine hK4 _ _ ?_; clear hK4 K3
  refine wp_seq_k fun K7 hK8 => ?_
  refine wp_seq_k fun K9 hK10 => ?_
  refine region ?_
  refine sv ha (r_assign ha rfl) rfl rfl rfl ?_; clear ha a; intro a ha
  refine hK10 _ _ ?_; clear hK10 K9
  refine wp_block ?_
  refine loopG (fun (k : Nat) a w => ∃ vr : Value, (k ≤ (t % 255)) ∧ Has 62 [(0, en t), (2, .int .i64 0), (6, .slice (some ⟨b6, 0, none⟩) 8 8), (4, en k), (3, vr)] a ∧ Below w0.heap.size w0 w ∧ w.heap[b6]? = some (.cells ((rcL 0).map en).toArray 3 (0, 0)) ∧ Sl w vr ((rcL k).map en)) (fun k => (t % 255) - k) 0 ⟨.slice (some ⟨b6, 0, none⟩) 8 8, (by omega), ha.to [0, 2, 6, 4, 3] rfl, hB, hb6, (show Sl _ _ ((rcL 0).map en) from (Sl.ofBlockM hb6 (by rw [rcL_len]) (by omega)))⟩ ?_
  clear ha a hB hb6
  intro k a w11 ⟨vr, hkk, ha, hB, hb6, hsr⟩
  refine wp_seq_k fun K12 hK13 => ?_
  refine wp_seq_k fun K14 hK15 => ?_
  refine region ?_
  refine sv ha (r_move ha rfl) rfl rfl rfl ?_; clear ha a; intro a ha
  refine sv ha (r_move ha rfl) rfl rfl rfl ?_; clear ha a; intro a ha
  refine sv ha (rn_rem ha t 255 rfl rfl (by omega)) rfl rfl rfl ?_; clear ha a; intro a ha
  refine sv ha (r_lss ha ((k : Nat) : Int) ((t % 255 : Nat) : Int) (decide (k < t % 255)) rfl rfl (decide_eq_decide.2 (by omega))) rfl rfl rfl ?_; clear ha a; intro a ha
  refine hK15 _ _ ?_; clear hK15 K14
  refine cond_if ha rfl (fun hc16 => ?_) (fun hc16 => ?_)
  · skip
    replace hc16 := of_decide_eq_true hc16
    refine wp_skip ?_
    refine hK13 _ _ ?_; clear hK13 K12
    refine wp_seq_k fun K17 hK18 => ?_
    refine wp_block ?_
    refine wp_seq_k fun K19 hK20 => ?_
    refine region ?_
    refine sbuildS ha [(0, .int .i64 0)] (([0] : List Nat).map en) rfl Tryd.runUnderlying45 Tryd.sizeOf3 Tryd.zeroValue3 rfl rfl rfl rfl rfl ?_
    clear ha a; intro a w21 b22 ha hg hb22 hge22 hlt22
    have hz22 : w0.heap.size ≤ b22 := Nat.le_trans hB.size hge22
    have hne_hsr_b22 : ∀ j, Value.ownBlock vr = some j → j ≠ b22 := fun j hj => by have := hsr.lt j hj; omega
    have hq6_22 : b6 < b22 := Nat.lt_of_lt_of_le (lt_of_block hb6) hge22
    replace hB := keepB0 hg hB
    replace hb6 := keepO0 hg hb6
    replace hsr := keepS0 hg hsr
    clear hg hge22 hlt22
    refine sv ha (r_assign ha rfl) rfl rfl rfl ?_; clear ha a; intro a ha
    refine hK20 _ _ ?_; clear hK20 K19
    refine wp_seq_k fun K23 hK24 => ?_
    refine region ?_
    refine sv ha (r_move ha rfl) rfl rfl rfl ?_; clear ha a; intro a ha
    refine sv ha (r_move ha rfl) rfl rfl rfl ?_; clear ha a; intro a ha
    refine sapp (C := (([0] : List Nat)).map en) (D := (rcL k).map en) ha rfl rfl Tryd.underlying45 rfl rfl rfl rfl (own_of_full (base := w0.heap.size) hb22 (by rw [List.length_map, show ([0] : List Nat).length = 1 from rfl]) hz22 (by unfold maxLen; omega)) hsr (one_en _) (by simp only [List.length_map, rcL_len]; show _ * 8 ≤ _; omega) (by simp only [List.length_map, rcL_len]; omega) hB.size rfl ?_
    clear ha a; intro a w26 v25 ha hg ho25 hnl25 hpl25
    rw [← List.map_append, List.length_map, rcL_len] at ho25
    rw [List.length_map, rcL_len] at hnl25
    have ho25 : w26.ownsRow w0.heap.size 3 1 v25 (9) ((rc0 (rcL k)).map en) := ho25
    have hg : World.grownBy w21 w26 (some b22) := hg
    have hne_25_b6 : ∀ j, v25.ownBlock = some j → j ≠ b6 := fun j hj => (hpl25 j hj).elim (fun h => by simp [Value.ownBlock] at h; omega) (fun h => by have := lt_of_block hb6; omega)
    replace hB := keepB1 hg (by omega) hB
    replace hb6 := keepO1 hg (by omega) hb6
    replace hsr := keepS1 hg (fun e => hne_hsr_b22 _ e rfl) hsr
    clear hg
    clear hsr
    obtain ⟨b25, c25, R25, hv25, hb25, hz25, hk25, hcap25, hmx25⟩ := own_block ho25 (by omega)
    have hq25_6 : b25 ≠ b6 := hne_25_b6 b25 (by rw [hv25]; rfl)
    have hcap25 : 9 + R25.length = c25 := by rw [← hcap25, List.length_append, hk25]
    subst hv25; clear hk25 hnl25 hpl25
    clear ho25
    refine sv ha (r_assign ha rfl) rfl rfl rfl ?_; clear ha a; intro a ha
    refine hK24 _ _ ?_; clear hK24 K23
    refine wp_seq_k fun K27 hK28 => ?_
    refine regionD (S := fun w => Below w0.heap.size w0 w ∧ w.heap[b6]? = some (.cells ((rcL 0).map en).toArray 3 (0, 0)) ∧ w.heap[b25]? = some (.cells ((rc0 (rcL k)).map en ++ R25).toArray 3 (0, 0)) ∧ True) 10 [0, 1, 2, 3, 4, 5, 6, 7, 8, 9] [0, 1, 2, 3, 4, 5, 6, 7, 8, 9, 10] mixed (by kernel_rfl) (by kernel_rfl) (fun w hg => ⟨keepB0 hg hB, keepO0 hg hb6, keepO0 hg hb25, trivial⟩) ?_
    intro w29 hg
    replace hB := keepB0 hg hB
    replace hb6 := keepO0 hg hb6
    replace hb25 := keepO0 hg hb25
    clear hg
    refine cv ha rfl rfl (fun w _ => r_move ha rfl) rfl rfl rfl ?_; clear ha a; intro a ha
    refine cv ha rfl rfl (fun w _ => r_move ha rfl) rfl rfl rfl ?_; clear ha a; intro a ha
    refine cv ha rfl rfl (fun w _ => r_indexB ha 0 Tryd.runUnderlying45 Tryd.sizeOf3 rfl rfl (by omega)) rfl rfl rfl ?_; clear ha a; intro a ha
    refine cv ha rfl rfl (fun w ⟨hB, hb6, hb25, _⟩ => r_load ha rfl Tryd.isAgg3 (cell_of hb25 (get_more en (rc0 (rcL k)) R25 0 0 (by rw [rc0_len, rcL_len]; omega)))) rfl rfl rfl ?_; clear ha a; intro a ha
    refine cv ha rfl rfl (fun w _ => r_move ha rfl) rfl rfl rfl ?_; clear ha a; intro a ha
    refine cv ha rfl rfl (fun w _ => r_indexB ha 8 Tryd.runUnderlying45 Tryd.sizeOf3 rfl rfl (by omega)) rfl rfl rfl ?_; clear ha a; intro a ha
    refine cv ha rfl rfl (fun w ⟨hB, hb6, hb25, _⟩ => r_load ha rfl Tryd.isAgg3 (cell_of hb25 (get_more en (rc0 (rcL k)) R25 0 8 (by rw [rc0_len, rcL_len]; omega)))) rfl rfl rfl ?_; clear ha a; intro a ha
    refine cv ha rfl rfl (fun w _ => rn_add ha ((rc0 (rcL k)).getD 0 0) ((rc0 (rcL k)).getD 8 0) rfl rfl (by have h1 := rc0_le (rcL_le k) 0; have h2 := rc0_le (rcL_le k) 8; omega)) rfl rfl rfl ?_; clear ha a; intro a ha
    refine cv ha rfl rfl (fun w _ => rn_rem ha (((rc0 (rcL k)).getD 0 0) + ((rc0 (rcL k)).getD 8 0)) 2 rfl rfl (by omega)) rfl rfl rfl ?_; clear ha a; intro a ha
    refine cv ha rfl rfl (fun w _ => r_indexB ha 0 Tryd.runUnderlying45 Tryd.sizeOf3 rfl rfl (by omega)) rfl rfl rfl ?_; clear ha a; intro a ha
    refine cstore ha rfl rfl (v := en ((((rc0 (rcL k)).getD 0 0) + ((rc0 (rcL k)).getD 8 0)) % 2)) rfl rfl rfl rfl Tryd.sizeOf3 hb25 (by rw [List.length_append, List.length_map, rc0_len, rcL_len]; omega) rfl ?_
    clear ha a; intro a w30 ha hg hb25'
    rw [set_more _ _ _ _ _ (by rw [rc0_len, rcL_len]; omega)] at hb25'
    clear hb25; have hb25 := hb25'; clear hb25'
    have hb25 : w30.heap[b25]? = some (.cells ((rc1 (rcL k)).map en ++ R25).toArray 3 (0, 0)) := hb25
    replace hB := keepB1 hg (by omega) hB
    replace hb6 := keepO1 hg (by omega) hb6
    clear hg
    refine cfin (hK28 _ _ ?_); clear hK28 K27
    refine wp_seq_k fun K31 hK32 => ?_
    refine regionD (S := fun w => Below w0.heap.size w0 w ∧ w.heap[b6]? = some (.cells ((rcL 0).map en).toArray 3 (0, 0)) ∧ w.heap[b25]? = some (.cells ((rc1 (rcL k)).map en ++ R25).toArray 3 (0, 0)) ∧ True) 10 [0, 1, 2, 3, 4, 5, 6, 7, 8, 9] [0, 1, 2, 3, 4, 5, 6, 7, 8, 9, 10] mixed (by kernel_rfl) (by kernel_rfl) (fun w hg => ⟨keepB0 hg hB, keepO0 hg hb6, keepO0 hg hb25, trivial⟩) ?_
    intro w33 hg
    replace hB := keepB0 hg hB
    replace hb6 := keepO0 hg hb6
    replace hb25 := keepO0 hg hb25
    clear hg
    refine cv ha rfl rfl (fun w _ => r_move ha rfl) rfl rfl rfl ?_; clear ha a; intro a ha
    refine cv ha rfl rfl (fun w _ => r_move ha rfl) rfl rfl rfl ?_; clear ha a; intro a ha
    refine cv ha rfl rfl (fun w _ => r_indexB ha 4 Tryd.runUnderlying45 Tryd.sizeOf3 rfl rfl (by omega)) rfl rfl rfl ?_; clear ha a; intro a ha
    refine cv ha rfl rfl (fun w ⟨hB, hb6, hb25, _⟩ => r_load ha rfl Tryd.isAgg3 (cell_of hb25 (get_more en (rc1 (rcL k)) R25 0 4 (by rw [rc1_len, rcL_len]; omega)))) rfl rfl rfl ?_; clear ha a; intro a ha
    refine cv ha rfl rfl (fun w _ => r_move ha rfl) rfl rfl rfl ?_; clear ha a; intro a ha
    refine cv ha rfl rfl (fun w _ => r_indexB ha 8 Tryd.runUnderlying45 Tryd.sizeOf3 rfl rfl (by omega)) rfl rfl rfl ?_; clear ha a; intro a ha
    refine cv ha rfl rfl (fun w ⟨hB, hb6, hb25, _⟩ => r_load ha rfl Tryd.isAgg3 (cell_of hb25 (get_more en (rc1 (rcL k)) R25 0 8 (by rw [rc1_len, rcL_len]; omega)))) rfl rfl rfl ?_; clear ha a; intro a ha
    refine cv ha rfl rfl (fun w _ => rn_add ha ((rc1 (rcL k)).getD 4 0) ((rc1 (rcL k)).getD 8 0) rfl rfl (by have h1 := rc1_le (rcL_le k) 4; have h2 := rc1_le (rcL_le k) 8; omega)) rfl rfl rfl ?_; clear ha a; intro a ha
    refine cv ha rfl rfl (fun w _ => rn_rem ha (((rc1 (rcL k)).getD 4 0) + ((rc1 (rcL k)).getD 8 0)) 2 rfl rfl (by omega)) rfl rfl rfl ?_; clear ha a; intro a ha
    refine cv ha rfl rfl (fun w _ => r_indexB ha 4 Tryd.runUnderlying45 Tryd.sizeOf3 rfl rfl (by omega)) rfl rfl rfl ?_; clear ha a; intro a ha
    refine cstore ha rfl rfl (v := en ((((rc1 (rcL k)).getD 4 0) + ((rc1 (rcL k)).getD 8 0)) % 2)) rfl rfl rfl rfl Tryd.sizeOf3 hb25 (by rw [List.length_append, List.length_map, rc1_len, rcL_len]; omega) rfl ?_
    clear ha a; intro a w34 ha hg hb25'
    rw [set_more _ _ _ _ _ (by rw [rc1_len, rcL_len]; omega)] at hb25'
    clear hb25; have hb25 := hb25'; clear hb25'
    have hb25 : w34.heap[b25]? = some (.cells ((rc2 (rcL k)).map en ++ R25).toArray 3 (0, 0)) := hb25
    replace hB := keepB1 hg (by omega) hB
    replace hb6 := keepO1 hg (by omega) hb6
    clear hg
    refine cfin (hK32 _ _ ?_); clear hK32 K31
    refine wp_seq_k fun K35 hK36 => ?_
    refine regionD (S := fun w => Below w0.heap.size w0 w ∧ w.heap[b6]? = some (.cells ((rcL 0).map en).toArray 3 (0, 0)) ∧ w.heap[b25]? = some (.cells ((rc2 (rcL k)).map en ++ R25).toArray 3 (0, 0)) ∧ True) 10 [0, 1, 2, 3, 4, 5, 6, 7, 8, 9] [0, 1, 2, 3, 4, 5, 6, 7, 8, 9, 10] mixed (by kernel_rfl) (by kernel_rfl) (fun w hg => ⟨keepB0 hg hB, keepO0 hg hb6, keepO0 hg hb25, trivial⟩) ?_
    intro w37 hg
    replace hB := keepB0 hg hB
    replace hb6 := keepO0 hg hb6
    replace hb25 := keepO0 hg hb25
    clear hg
    refine cv ha rfl rfl (fun w _ => r_move ha rfl) rfl rfl rfl ?_; clear ha a; intro a ha
    refine cv ha rfl rfl (fun w _ => r_move ha rfl) rfl rfl rfl ?_; clear ha a; intro a ha
    refine cv ha rfl rfl (fun w _ => r_indexB ha 5 Tryd.runUnderlying45 Tryd.sizeOf3 rfl rfl (by omega)) rfl rfl rfl ?_; clear ha a; intro a ha
    refine cv ha rfl rfl (fun w ⟨hB, hb6, hb25, _⟩ => r_load ha rfl Tryd.isAgg3 (cell_of hb25 (get_more en (rc2 (rcL k)) R25 0 5 (by rw [rc2_len, rcL_len]; omega)))) rfl rfl rfl ?_; clear ha a; intro a ha
    refine cv ha rfl rfl (fun w _ => r_move ha rfl) rfl rfl rfl ?_; clear ha a; intro a ha
    refine cv ha rfl rfl (fun w _ => r_indexB ha 8 Tryd.runUnderlying45 Tryd.sizeOf3 rfl rfl (by omega)) rfl rfl rfl ?_; clear ha a; intro a ha
    refine cv ha rfl rfl (fun w ⟨hB, hb6, hb25, _⟩ => r_load ha rfl Tryd.isAgg3 (cell_of hb25 (get_more en (rc2 (rcL k)) R25 0 8 (by rw [rc2_len, rcL_len]; omega)))) rfl rfl rfl ?_; clear ha a; intro a ha
    refine cv ha rfl rfl (fun w _ => rn_add ha ((rc2 (rcL k)).getD 5 0) ((rc2 (rcL k)).getD 8 0) rfl rfl (by have h1 := rc2_le (rcL_le k) 5; have h2 := rc2_le (rcL_le k) 8; omega)) rfl rfl rfl ?_; clear ha a; intro a ha
    refine cv ha rfl rfl (fun w _ => rn_rem ha (((rc2 (rcL k)).getD 5 0) + ((rc2 (rcL k)).getD 8 0)) 2 rfl rfl (by omega)) rfl rfl rfl ?_; clear ha a; intro a ha
    refine cv ha rfl rfl (fun w _ => r_indexB ha 5 Tryd.runUnderlying45 Tryd.sizeOf3 rfl rfl (by omega)) rfl rfl rfl ?_; clear ha a; intro a ha
    refine cstore ha rfl rfl (v := en ((((rc2 (rcL k)).getD 5 0) + ((rc2 (rcL k)).getD 8 0)) % 2)) rfl rfl rfl rfl Tryd.sizeOf3 hb25 (by rw [List.length_append, List.length_map, rc2_len, rcL_len]; omega) rfl ?_
    clear ha a; intro a w38 ha hg hb25'
    rw [set_more _ _ _ _ _ (by rw [rc2_len, rcL_len]; omega)] at hb25'
    clear hb25; have hb25 := hb25'; clear hb25'
    have hb25 : w38.heap[b25]? = some (.cells ((rc3 (rcL k)).map en ++ R25).toArray 3 (0, 0)) := hb25
    replace hB := keepB1 hg (by omega) hB
    replace hb6 := keepO1 hg (by omega) hb6
    clear hg
    refine cfin (hK36 _ _ ?_); clear hK36 K35
    refine wp_seq_k fun K39 hK40 => ?_
    refine regionD (S := fun w => Below w0.heap.size w0 w ∧ w.heap[b6]? = some (.cells ((rcL 0).map en).toArray 3 (0, 0)) ∧ w.heap[b25]? = some (.cells ((rc3 (rcL k)).map en ++ R25).toArray 3 (0, 0)) ∧ True) 10 [0, 1, 2, 3, 4, 5, 6, 7, 8, 9] [0, 1, 2, 3, 4, 5, 6, 7, 8, 9, 10] mixed (by kernel_rfl) (by kernel_rfl) (fun w hg => ⟨keepB0 hg hB, keepO0 hg hb6, keepO0 hg hb25, trivial⟩) ?_
    intro w41 hg
    replace hB := keepB0 hg hB
    replace hb6 := keepO0 hg hb6
    replace hb25 := keepO0 hg hb25
    clear hg
    refine cv ha rfl rfl (fun w _ => r_move ha rfl) rfl rfl rfl ?_; clear ha a; intro a ha
    refine cv ha rfl rfl (fun w _ => r_move ha rfl) rfl rfl rfl ?_; clear ha a; intro a ha
    refine cv ha rfl rfl (fun w _ => r_indexB ha 6 Tryd.runUnderlying45 Tryd.sizeOf3 rfl rfl (by omega)) rfl rfl rfl ?_; clear ha a; intro a ha
    refine cv ha rfl rfl (fun w ⟨hB, hb6, hb25, _⟩ => r_load ha rfl Tryd.isAgg3 (cell_of hb25 (get_more en (rc3 (rcL k)) R25 0 6 (by rw [rc3_len, rcL_len]; omega)))) rfl rfl rfl ?_; clear ha a; intro a ha
    refine cv ha rfl rfl (fun w _ => r_move ha rfl) rfl rfl rfl ?_; clear ha a; intro a ha
    refine cv ha rfl rfl (fun w _ => r_indexB ha 8 Tryd.runUnderlying45 Tryd.sizeOf3 rfl rfl (by omega)) rfl rfl rfl ?_; clear ha a; intro a ha
    refine cv ha rfl rfl (fun w ⟨hB, hb6, hb25, _⟩ => r_load ha rfl Tryd.isAgg3 (cell_of hb25 (get_more en (rc3 (rcL k)) R25 0 8 (by rw [rc3_len, rcL_len]; omega)))) rfl rfl rfl ?_; clear ha a; intro a ha
    refine cv ha rfl rfl (fun w _ => rn_add ha ((rc3 (rcL k)).getD 6 0) ((rc3 (rcL k)).getD 8 0) rfl rfl (by have h1 := rc3_le (rcL_le k) 6; have h2 := rc3_le (rcL_le k) 8; omega)) rfl rfl rfl ?_; clear ha a; intro a ha
    refine cv ha rfl rfl (fun w _ => rn_rem ha (((rc3 (rcL k)).getD 6 0) + ((rc3 (rcL k)).getD 8 0)) 2 rfl rfl (by omega)) rfl rfl rfl ?_; clear ha a; intro a ha
    refine cv ha rfl rfl (fun w _ => r_indexB ha 6 Tryd.runUnderlying45 Tryd.sizeOf3 rfl rfl (by omega)) rfl rfl rfl ?_; clear ha a; intro a ha
    refine cstore ha rfl rfl (v := en ((((rc3 (rcL k)).getD 6 0) + ((rc3 (rcL k)).getD 8 0)) % 2)) rfl rfl rfl rfl Tryd.sizeOf3 hb25 (by rw [List.length_append, List.length_map, rc3_len, rcL_len]; omega) rfl ?_
    clear ha a; intro a w42 ha hg hb25'
    rw [set_more _ _ _ _ _ (by rw [rc3_len, rcL_len]; omega)] at hb25'
    clear hb25; have hb25 := hb25'; clear hb25'
    have hb25 : w42.heap[b25]? = some (.cells ((rc4 (rcL k)).map en ++ R25).toArray 3 (0, 0)) := hb25
    replace hB := keepB1 hg (by omega) hB
    replace hb6 := keepO1 hg (by omega) hb6
    clear hg
    refine cfin (hK40 _ _ ?_); clear hK40 K39
    refine region ?_
    refine sv ha (r_move ha rfl) rfl rfl rfl ?_; clear ha a; intro a ha
    refine sv ha (r_reslB (hi := 8) ha Tryd.runUnderlying45 Tryd.sizeOf3 rfl rfl (by omega)) rfl rfl rfl ?_; clear ha a; intro a ha
    refine sv ha (r_assign ha rfl) rfl rfl rfl ?_; clear ha a; intro a ha
    refine hK18 _ _ ?_; clear hK18 K17
    refine region ?_
    refine sv ha (r_move ha rfl) rfl rfl rfl ?_; clear ha a; intro a ha
    refine sv ha (rn_add ha k 1 rfl rfl (by omega)) rfl rfl rfl ?_; clear ha a; intro a ha
    refine sv ha (r_assign ha rfl) rfl rfl rfl ?_; clear ha a; intro a ha
    exact ⟨k + 1, by omega, .slice (some ⟨b25, 0, none⟩) 8 c25, (by omega), ha.to [0, 2, 6, 4, 3] rfl, hB, hb6, (show Sl _ _ (((rc4 (rcL k)).take 8).map en) from (Sl.ofBlockP (l := rc4 (rcL k)) (m := (rc4 (rcL k)).take 8) hb25 (by rw [List.length_take, rc4_len, rcL_len]; omega) rfl (by omega)))⟩
  · skip
    replace hc16 := of_decide_eq_false hc16
    refine wp_exit ?_
    obtain rfl : k = (t % 255) := by omega
    refine hK8 _ _ ?_; clear hK13 K12 hK8 K7
    refine wp_seq_k fun K43 hK44 => ?_
    refine region ?_
    refine sv ha (r_move ha rfl) rfl rfl rfl ?_; clear ha a; intro a ha
    refine sv ha (r_indexS (i := 0) ha Tryd.runUnderlying45 Tryd.sizeOf3 hsr (C := (rcL (t % 255)).map en) rfl rfl (by rw [List.length_map, rcL_len]; omega)) rfl rfl rfl ?_; clear ha a; intro a ha
    refine sv ha (r_loadS ha rfl Tryd.isAgg3 hsr (get_map en (rcL (t % 255)) 0 0 (by rw [rcL_len]; omega))) rfl rfl rfl ?_; clear ha a; intro a ha
    refine sv ha (r_assign ha rfl) rfl rfl rfl ?_; clear ha a; intro a ha
    refine hK44 _ _ ?_; clear hK44 K43
    refine wp_ret ?_
    repeat (first | (with_reducible refine t_ret ?_) | (with_reducible refine x_ret ?_))
    exact ret1 ha Tryd.results35 rfl ⟨rfl, hB⟩

theorem c_rIota (v : Value) (l : List UInt64) (i : Nat) (w0 : World) (hs : Sl w0 v (l.map e64)) (hl : l.length = 25) (hi : i < 24) :
    Calls Tryd.prog 24 #[v, en i] w0 fun e w' => ∃ b, e = .returned (.slice (some ⟨b, 0, none⟩) 25 25) ∧ Below w0.heap.size w0 w' ∧ w'.heap[b]? = some (.cells ((rIota l i).map e64).toArray 22 (0, 0)) ∧ w0.heap.size ≤ b := by
  refine enter (args := [_, _]) Tryd.func24 rfl Tryd.ntmps24 rfl ?_
  intro a ha
  have hB := Below.refl w0.heap.size w0
  refine wp_seq_k fun K1 hK2 => ?_
  refine region ?_
  refine sv ha (r_assign ha rfl) rfl rfl rfl ?_; clear ha a; intro a ha
  refine hK2 _ _ ?_; clear hK2 K1
  refine wp_seq_k fun K3 hK4 => ?_
  refine region ?_
  refine sc ha (r_call ha [] rfl Tryd.call32) rfl rfl rfl (c_lanes  _ ) ?_
  clear ha a
  rintro e w5 ⟨b6, rfl, hBc, hb6, hge6⟩
  have hg := grown_call hBc; clear hBc
  have hz6 : w0.heap.size ≤ b6 := Nat.le_trans hB.size hge6
  replace hB := keepB0 hg hB
  clear hg hge6
  refine ⟨_, rfl, ?_⟩; intro a ha
  refine sv ha (r_assign ha rfl) rfl rfl rfl ?_; clear ha a; intro a ha
  refine hK4 _ _ ?_; clear hK4 K3
  refine wp_seq_k fun K7 hK8 => ?_
  refine region ?_
  refine sv ha (r_move ha rfl) rfl rfl rfl ?_; clear ha a; intro a ha
  refine sv ha (r_move ha rfl) rfl rfl rfl ?_; clear ha a; intro a ha
  refine scopy (d := 11) (C := (l).map e64) (p := (l.take 25).map e64) ha rfl rfl (hs.below hB) Tryd.underlying27 rfl hb6 (by rw [List.map_take]) (by simp only [List.length_map, List.length_take, List.length_replicate]; omega) (one_e64 _) ?_ rfl rfl rfl
  clear ha a; intro a w9 ha hg hb6'
  rw [copy_all (by simp only [List.length_map, List.length_replicate]) (by rw [hl])] at hb6'
  clear hb6; have hb6 := hb6'; clear hb6'
  replace hB := keepB1 hg (by omega) hB
  clear hg
  refine hK8 _ _ ?_; clear hK8 K7
  refine wp_seq_k fun K10 hK11 => ?_
  refine wp_seq_k fun K12 hK13 => ?_
  refine region ?_
  refine sv ha (r_move ha rfl) rfl rfl rfl ?_; clear ha a; intro a ha
  refine sv ha (r_lss ha ((i : Nat) : Int) 0 false rfl rfl (decide_eq_false (by omega))) rfl rfl rfl ?_; clear ha a; intro a ha
  refine sv ha (r_move ha rfl) rfl rfl rfl ?_; clear ha a; intro a ha
  refine svg ha (r_move ha rfl) rfl rfl rfl rfl rfl ?_; clear ha a; intro a ha
  refine svg ha (r_gtr ha ((i : Nat) : Int) 23 false rfl rfl (decide_eq_false (by omega))) rfl rfl rfl rfl rfl ?_; clear ha a; intro a ha
  refine sv ha (r_pick ha false rfl rfl) rfl rfl rfl ?_; clear ha a; intro a ha
  refine hK13 _ _ ?_; clear hK13 K12
  refine cond_f ha rfl ?_
  refine wp_skip ?_
  refine hK11 _ _ ?_; clear hK11 K10
  refine wp_seq_k fun K14 hK15 => ?_
  refine wp_seq_k fun K16 hK17 => ?_
  refine region ?_
  refine sv ha (r_assign ha rfl) rfl rfl rfl ?_; clear ha a; intro a ha
  refine hK17 _ _ ?_; clear hK17 K16
  refine wp_block ?_
  refine loopG (fun (j : Nat) a w => (j ≤ 7) ∧ Has 54 [(0, v), (1, en i), (4, .slice none 0 0), (8, .slice (some ⟨b6, 0, none⟩) 25 25), (5, .slice (some ⟨b6, 0, none⟩) 25 25), (9, .slice (some ⟨b6, 0, none⟩) 25 25), (10, v), (12, en i), (13, .bool false), (14, .bool false), (15, en i), (16, .bool false), (17, .bool false), (6, en j)] a ∧ Below w0.heap.size w0 w ∧ w.heap[b6]? = some (.cells ((riA l i j).map e64).toArray 22 (0, 0))) (fun j => 7 - j) 0 ⟨(by omega), ha.to [0, 1, 4, 8, 5, 9, 10, 12, 13, 14, 15, 16, 17, 6] rfl, hB, hb6⟩ ?_
  clear ha a hB hb6
  intro j a w18 ⟨hkj, ha, hB, hb6⟩
  have hp1 : 1 ≤ 2 ^ j := Nat.one_le_two_pow
  have hp2 : 2 ^ j ≤ 2 ^ 7 := Nat.pow_le_pow_right (by omega) (by omega)
  refine wp_seq_k fun K19 hK20 => ?_
  refine wp_seq_k fun K21 hK22 => ?_
  refine region ?_
  refine sv ha (r_move ha rfl) rfl rfl rfl ?_; clear ha a; intro a ha
  refine sv ha (r_leq ha ((j : Nat) : Int) 6 (decide (j ≤ 6)) rfl rfl (decide_eq_decide.2 (by omega))) rfl rfl rfl ?_; clear ha a; intro a ha
  refine hK22 _ _ ?_; clear hK22 K21
  refine cond_if ha rfl (fun hc23 => ?_) (fun hc23 => ?_)
  · skip
    replace hc23 := of_decide_eq_true hc23
    refine wp_skip ?_
    refine hK20 _ _ ?_; clear hK20 K19
    refine wp_seq_k fun K24 hK25 => ?_
    refine wp_block ?_
    refine wp_seq_k fun K26 hK27 => ?_
    refine region ?_
    refine sv ha (r_move ha rfl) rfl rfl rfl ?_; clear ha a; intro a ha
    refine sv ha (r_conv_n_u64 ha j Tryd.runUnderlying3 Tryd.runUnderlying43 rfl (by omega)) rfl rfl rfl ?_; clear ha a; intro a ha
    refine sv ha (rn_shl ha 1 j rfl rfl (by omega) (by omega)) rfl rfl rfl ?_; clear ha a; intro a ha
    refine sv ha (rn_sub ha (1 * 2 ^ j) 1 rfl rfl (by omega) (by omega)) rfl rfl rfl ?_; clear ha a; intro a ha
    refine sv ha (r_assign ha rfl) rfl rfl rfl ?_; clear ha a; intro a ha
    refine hK27 _ _ ?_; clear hK27 K26
    refine wp_seq_k fun K28 hK29 => ?_
    refine region ?_
    refine sv ha (r_move ha rfl) rfl rfl rfl ?_; clear ha a; intro a ha
    refine sv ha (r_move ha rfl) rfl rfl rfl ?_; clear ha a; intro a ha
    refine sv ha (rn_mul ha 7 i rfl rfl (by omega)) rfl rfl rfl ?_; clear ha a; intro a ha
    refine sv ha (rn_add ha j (7 * i) rfl rfl (by omega)) rfl rfl rfl ?_; clear ha a; intro a ha
    refine sc ha (r_call ha [en (j + (7 * i))] rfl Tryd.call35) rfl rfl rfl (c_rc (j + (7 * i)) _ ) ?_
    clear ha a
    rintro e w30 ⟨rfl, hBc⟩
    have hg := grown_call hBc; clear hBc
    replace hB := keepB0 hg hB
    replace hb6 := keepO0 hg hb6
    clear hg
    refine ⟨_, rfl, ?_⟩; intro a ha
    refine sv ha (r_eql ha ((rcv (j + (7 * i)) : Nat) : Int) 1 (decide (rcv (j + (7 * i)) = 1)) rfl rfl (decide_eq_decide.2 (by omega))) rfl rfl rfl ?_; clear ha a; intro a ha
    refine hK29 _ _ ?_; clear hK29 K28
    refine cond_if ha rfl (fun hc31 => ?_) (fun hc31 => ?_)
    · skip
      replace hc31 := of_decide_eq_true hc31
      refine wp_seq_k fun K32 hK33 => ?_
      refine region ?_
      refine sv ha (r_move ha rfl) rfl rfl rfl ?_; clear ha a; intro a ha
      refine sv ha (r_move ha rfl) rfl rfl rfl ?_; clear ha a; intro a ha
      refine sc ha (r_call ha [v, ei 0, ei 0, ei (((1 * 2 ^ j) - 1 : Nat) : Int)] rfl Tryd.call33) rfl rfl rfl (c_bit v l 0 0 (((1 * 2 ^ j) - 1 : Nat) : Int) _ (hs.below hB) (by rw [hl]) (by omega) (by omega) (by omega)) ?_
      clear ha a
      rintro e w34 ⟨rfl, hBc⟩
      have hg := grown_call hBc; clear hBc
      replace hB := keepB0 hg hB
      replace hb6 := keepO0 hg hb6
      clear hg
      refine ⟨_, rfl, ?_⟩; intro a ha
      refine sv ha (r_eql ha ((bitI l 0 0 (((1 * 2 ^ j) - 1 : Nat) : Int) : Nat) : Int) 1 (decide (bitI l 0 0 (((1 * 2 ^ j) - 1 : Nat) : Int) = 1)) rfl rfl (decide_eq_decide.2 (by omega))) rfl rfl rfl ?_; clear ha a; intro a ha
      refine hK33 _ _ ?_; clear hK33 K32
      refine cond_if ha rfl (fun hc35 => ?_) (fun hc35 => ?_)
      · skip
        replace hc35 := of_decide_eq_true hc35
        refine region ?_
        refine sv ha (r_move ha rfl) rfl rfl rfl ?_; clear ha a; intro a ha
        refine sv ha (r_indexB ha 0 Tryd.runUnderlying27 Tryd.sizeOf22 rfl rfl (by omega)) rfl rfl rfl ?_; clear ha a; intro a ha
        refine sv ha (r_load ha rfl Tryd.isAgg22 (cell_of hb6 (get_map e64 (riA l i j) 0 0 (by rw [riA_len, hl]; omega)))) rfl rfl rfl ?_; clear ha a; intro a ha
        refine sv ha (r_move ha rfl) rfl rfl rfl ?_; clear ha a; intro a ha
        refine sv ha (r_conv_n_u64 ha ((1 * 2 ^ j) - 1) Tryd.runUnderlying3 Tryd.runUnderlying43 rfl (by omega)) rfl rfl rfl ?_; clear ha a; intro a ha
        refine sv ha (ru_shl ha (1) ((1 * 2 ^ j) - 1) rfl rfl (by have := Nat.pow_le_pow_right (n := 2) (by omega) (show j ≤ 6 by omega); omega)) rfl rfl rfl ?_; clear ha a; intro a ha
        refine sv ha (ru_sub ha ((riA l i j).getD 0 0) ((1) <<< UInt64.ofNat ((1 * 2 ^ j) - 1)) rfl rfl) rfl rfl rfl ?_; clear ha a; intro a ha
        refine sv ha (r_indexB ha 0 Tryd.runUnderlying27 Tryd.sizeOf22 rfl rfl (by omega)) rfl rfl rfl ?_; clear ha a; intro a ha
        refine sstore ha (v := e64 (((riA l i j).getD 0 0) - ((1) <<< UInt64.ofNat ((1 * 2 ^ j) - 1)))) rfl rfl rfl rfl Tryd.sizeOf22 hb6 (by rw [List.length_map, riA_len, hl]; omega) ?_
        clear ha a; intro a w36 ha hg hb6'
        rw [set_map] at hb6'
        clear hb6; have hb6 := hb6'; clear hb6'
        replace hB := keepB1 hg (by omega) hB
        clear hg
        refine hK25 _ _ ?_; clear hK25 K24
        refine region ?_
        refine sv ha (r_move ha rfl) rfl rfl rfl ?_; clear ha a; intro a ha
        refine sv ha (rn_add ha j 1 rfl rfl (by omega)) rfl rfl rfl ?_; clear ha a; intro a ha
        refine sv ha (r_assign ha rfl) rfl rfl rfl ?_; clear ha a; intro a ha
        exact ⟨j + 1, by omega, (by omega), ha.to [0, 1, 4, 8, 5, 9, 10, 12, 13, 14, 15, 16, 17, 6] rfl, hB, (by simp only [riA]; (repeat' split) <;> first | exact hb6 | contradiction)⟩
      · skip
        replace hc35 := of_decide_eq_false hc35
        refine region ?_
        refine sv ha (r_move ha rfl) rfl rfl rfl ?_; clear ha a; intro a ha
        refine sv ha (r_indexB ha 0 Tryd.runUnderlying27 Tryd.sizeOf22 rfl rfl (by omega)) rfl rfl rfl ?_; clear ha a; intro a ha
        refine sv ha (r_load ha rfl Tryd.isAgg22 (cell_of hb6 (get_map e64 (riA l i j) 0 0 (by rw [riA_len, hl]; omega)))) rfl rfl rfl ?_; clear ha a; intro a ha
        refine sv ha (r_move ha rfl) rfl rfl rfl ?_; clear ha a; intro a ha
        refine sv ha (r_conv_n_u64 ha ((1 * 2 ^ j) - 1) Tryd.runUnderlying3 Tryd.runUnderlying43 rfl (by omega)) rfl rfl rfl ?_; clear ha a; intro a ha
        refine sv ha (ru_shl ha (1) ((1 * 2 ^ j) - 1) rfl rfl (by have := Nat.pow_le_pow_right (n := 2) (by omega) (show j ≤ 6 by omega); omega)) rfl rfl rfl ?_; clear ha a; intro a ha
        refine sv ha (ru_add ha ((riA l i j).getD 0 0) ((1) <<< UInt64.ofNat ((1 * 2 ^ j) - 1)) rfl rfl) rfl rfl rfl ?_; clear ha a; intro a ha
        refine sv ha (r_indexB ha 0 Tryd.runUnderlying27 Tryd.sizeOf22 rfl rfl (by omega)) rfl rfl rfl ?_; clear ha a; intro a ha
        refine sstore ha (v := e64 (((riA l i j).getD 0 0) + ((1) <<< UInt64.ofNat ((1 * 2 ^ j) - 1)))) rfl rfl rfl rfl Tryd.sizeOf22 hb6 (by rw [List.length_map, riA_len, hl]; omega) ?_
        clear ha a; intro a w37 ha hg hb6'
        rw [set_map] at hb6'
        clear hb6; have hb6 := hb6'; clear hb6'
        replace hB := keepB1 hg (by omega) hB
        clear hg
        refine hK25 _ _ ?_; clear hK25 K24
        refine region ?_
        refine sv ha (r_move ha rfl) rfl rfl rfl ?_; clear ha a; intro a ha
        refine sv ha (rn_add ha j 1 rfl rfl (by omega)) rfl rfl rfl ?_; clear ha a; intro a ha
        refine sv ha (r_assign ha rfl) rfl rfl rfl ?_; clear ha a; intro a ha
        exact ⟨j + 1, by omega, (by omega), ha.to [0, 1, 4, 8, 5, 9, 10, 12, 13, 14, 15, 16, 17, 6] rfl, hB, (by simp only [riA]; (repeat' split) <;> first | exact hb6 | contradiction)⟩
    · skip
      replace hc31 := of_decide_eq_false hc31
      refine wp_skip ?_
      refine hK25 _ _ ?_; clear hK25 K24
      refine region ?_
      refine sv ha (r_move ha rfl) rfl rfl rfl ?_; clear ha a; intro a ha
      refine sv ha (rn_add ha j 1 rfl rfl (by omega)) rfl rfl rfl ?_; clear ha a; intro a ha
      refine sv ha (r_assign ha rfl) rfl rfl rfl ?_; clear ha a; intro a ha
      exact ⟨j + 1, by omega, (by omega), ha.to [0, 1, 4, 8, 5, 9, 10, 12, 13, 14, 15, 16, 17, 6] rfl, hB, (by simp only [riA]; (repeat' split) <;> first | exact hb6 | contradiction)⟩
  · skip
    replace hc23 := of_decide_eq_false hc23
    refine wp_exit ?_
    obtain rfl : j = 7 := by omega
    refine hK15 _ _ ?_; clear hK20 K19 hK15 K14
    refine wp_seq_k fun K38 hK39 => ?_
    refine region ?_
    refine sv ha (r_move ha rfl) rfl rfl rfl ?_; clear ha a; intro a ha
    refine sv ha (r_assign ha rfl) rfl rfl rfl ?_; clear ha a; intro a ha
    refine hK39 _ _ ?_; clear hK39 K38
    refine wp_ret ?_
    repeat (first | (with_reducible refine t_ret ?_) | (with_reducible refine x_ret ?_))
    exact ret1 ha Tryd.results24 rfl ⟨_, rfl, hB, hb6, hz6⟩

theorem c_rIotaN (v : Value) (l : List UInt64) (i : Int) (w0 : World) (hs : Sl w0 v (l.map e64)) (hl : l.length = 25) (hi : i < 0 ∨ 24 ≤ i) :
    Calls Tryd.prog 24 #[v, ei i] w0 fun e w' => ∃ b, e = .returned (.slice (some ⟨b, 0, none⟩) 25 25) ∧ Below w0.heap.size w0 w' ∧ w'.heap[b]? = some (.cells ((l).map e64).toArray 22 (0, 0)) ∧ w0.heap.size ≤ b := by
  refine enter (args := [_, _]) Tryd.func24 rfl Tryd.ntmps24 rfl ?_
  intro a ha
  have hB := Below.refl w0.heap.size w0
  refine wp_seq_k fun K1 hK2 => ?_
  refine region ?_
  refine sv ha (r_assign ha rfl) rfl rfl rfl ?_; clear ha a; intro a ha
  refine hK2 _ _ ?_; clear hK2 K1
  refine wp_seq_k fun K3 hK4 => ?_
  refine region ?_
  refine sc ha (r_call ha [] rfl Tryd.call32) rfl rfl rfl (c_lanes  _ ) ?_
  clear ha a
  rintro e w5 ⟨b6, rfl, hBc, hb6, hge6⟩
  have hg := grown_call hBc; clear hBc
  have hz6 : w0.heap.size ≤ b6 := Nat.le_trans hB.size hge6
  replace hB := keepB0 hg hB
  clear hg hge6
  refine ⟨_, rfl, ?_⟩; intro a ha
  refine sv ha (r_assign ha rfl) rfl rfl rfl ?_; clear ha a; intro a ha
  refine hK4 _ _ ?_; clear hK4 K3
  refine wp_seq_k fun K7 hK8 => ?_
  refine region ?_
  refine sv ha (r_move ha rfl) rfl rfl rfl ?_; clear ha a; intro a ha
  refine sv ha (r_move ha rfl) rfl rfl rfl ?_; clear ha a; intro a ha
  refine scopy (d := 11) (C := (l).map e64) (p := (l.take 25).map e64) ha rfl rfl (hs.below hB) Tryd.underlying27 rfl hb6 (by rw [List.map_take]) (by simp only [List.length_map, List.length_take, List.length_replicate]; omega) (one_e64 _) ?_ rfl rfl rfl
  clear ha a; intro a w9 ha hg hb6'
  rw [copy_all (by simp only [List.length_map, List.length_replicate]) (by rw [hl])] at hb6'
  clear hb6; have hb6 := hb6'; clear hb6'
  replace hB := keepB1 hg (by omega) hB
  clear hg
  refine hK8 _ _ ?_; clear hK8 K7
  refine wp_seq_k fun K10 hK11 => ?_
  refine wp_seq_k fun K12 hK13 => ?_
  refine region ?_
  refine sv ha (r_move ha rfl) rfl rfl rfl ?_; clear ha a; intro a ha
  refine sv ha (r_lss ha i 0 (decide (i < 0)) rfl rfl (decide_eq_decide.2 (by omega))) rfl rfl rfl ?_; clear ha a; intro a ha
  refine sv ha (r_move ha rfl) rfl rfl rfl ?_; clear ha a; intro a ha
  cases hq14 : (decide (i < 0))
  all_goals rw [hq14] at ha
  case false =>
    replace hq14 := of_decide_eq_false hq14
    refine svg ha (r_move ha rfl) rfl rfl rfl rfl rfl ?_; clear ha a; intro a ha
    refine svg ha (r_gtr ha i 23 true rfl rfl (decide_eq_true (by omega))) rfl rfl rfl rfl rfl ?_; clear ha a; intro a ha
    refine sv ha (r_pick ha false rfl rfl) rfl rfl rfl ?_; clear ha a; intro a ha
    refine hK13 _ _ ?_; clear hK13 K12
    refine cond_t ha rfl ?_
    refine wp_seq_k fun K15 hK16 => ?_
    refine region ?_
    refine sv ha (r_move ha rfl) rfl rfl rfl ?_; clear ha a; intro a ha
    refine sv ha (r_assign ha rfl) rfl rfl rfl ?_; clear ha a; intro a ha
    refine hK16 _ _ ?_; clear hK16 K15
    refine wp_ret ?_
    repeat (first | (with_reducible refine t_ret ?_) | (with_reducible refine x_ret ?_))
    exact ret1 ha Tryd.results24 rfl ⟨_, rfl, hB, hb6, hz6⟩
  case true =>
    replace hq14 := of_decide_eq_true hq14
    refine sno ha rfl rfl rfl rfl rfl rfl ?_; clear ha a; intro a ha
    refine sno ha rfl rfl rfl rfl rfl rfl ?_; clear ha a; intro a ha
    refine sv ha (r_pick ha true rfl rfl) rfl rfl rfl ?_; clear ha a; intro a ha
    refine hK13 _ _ ?_; clear hK13 K12
    refine cond_t ha rfl ?_
    refine wp_seq_k fun K17 hK18 => ?_
    refine region ?_
    refine sv ha (r_move ha rfl) rfl rfl rfl ?_; clear ha a; intro a ha
    refine sv ha (r_assign ha rfl) rfl rfl rfl ?_; clear ha a; intro a ha
    refine hK18 _ _ ?_; clear hK18 K17
    refine wp_ret ?_
    repeat (first | (with_reducible refine t_ret ?_) | (with_reducible refine x_ret ?_))
    exact ret1 ha Tryd.results24 rfl ⟨_, rfl, hB, hb6, hz6⟩

theorem c_rRound (v : Value) (l : List UInt64) (k : Nat) (w0 : World) (hs : Sl w0 v (l.map e64)) (hl : l.length = 25) (hk : k < 24) :
    Calls Tryd.prog 26 #[v, en k] w0 fun e w' => ∃ b, e = .returned (.slice (some ⟨b, 0, none⟩) 25 25) ∧ Below w0.heap.size w0 w' ∧ w'.heap[b]? = some (.cells ((rround l k).map e64).toArray 22 (0, 0)) ∧ w0.heap.size ≤ b := by
  refine enter (args := [_, _]) Tryd.func26 rfl Tryd.ntmps26 rfl ?_
  intro a ha
  have hB := Below.refl w0.heap.size w0
  refine wp_seq_k fun K1 hK2 => ?_
  refine region ?_
  refine sv ha (r_assign ha rfl) rfl rfl rfl ?_; clear ha a; intro a ha
  refine hK2 _ _ ?_; clear hK2 K1
  refine wp_seq_k fun K3 hK4 => ?_
  refine wp_seq_k fun K5 hK6 => ?_
  refine region ?_
  refine sv ha (r_move ha rfl) rfl rfl rfl ?_; clear ha a; intro a ha
  refine sv ha (r_lss ha ((k : Nat) : Int) 0 false rfl rfl (decide_eq_false (by omega))) rfl rfl rfl ?_; clear ha a; intro a ha
  refine sv ha (r_move ha rfl) rfl rfl rfl ?_; clear ha a; intro a ha
  refine svg ha (r_move ha rfl) rfl rfl rfl rfl rfl ?_; clear ha a; intro a ha
  refine svg ha (r_gtr ha ((k : Nat) : Int) 23 false rfl rfl (decide_eq_false (by omega))) rfl rfl rfl rfl rfl ?_; clear ha a; intro a ha
  refine sv ha (r_pick ha false rfl rfl) rfl rfl rfl ?_; clear ha a; intro a ha
  refine hK6 _ _ ?_; clear hK6 K5
  refine cond_f ha rfl ?_
  refine wp_skip ?_
  refine hK4 _ _ ?_; clear hK4 K3
  refine wp_seq_k fun K7 hK8 => ?_
  refine region ?_
  refine sv ha (r_move ha rfl) rfl rfl rfl ?_; clear ha a; intro a ha
  refine sc ha (r_call ha [v] rfl Tryd.call16) rfl rfl rfl (c_rTheta v l _ (hs.below hB) (by rw [hl])) ?_
  clear ha a
  rintro e w9 ⟨b10, rfl, hBc, hb10, hge10⟩
  have hg := grown_call hBc; clear hBc
  have hz10 : w0.heap.size ≤ b10 := Nat.le_trans hB.size hge10
  replace hB := keepB0 hg hB
  clear hg hge10
  refine ⟨_, rfl, ?_⟩; intro a ha
  refine sc ha (r_call ha [(.slice (some ⟨b10, 0, none⟩) 25 25)] rfl Tryd.call18) rfl rfl rfl (c_rRho (.slice (some ⟨b10, 0, none⟩) 25 25) (rTheta l) _ (Sl.ofBlockM hb10 (by rw [rTheta_len]) (Nat.le_refl _)) (by rw [rTheta_len])) ?_
  clear ha a
  rintro e w11 ⟨b12, rfl, hBc, hb12, hge12⟩
  have hg := grown_call hBc; clear hBc
  have hz12 : w0.heap.size ≤ b12 := Nat.le_trans hB.size hge12
  have hq10_12 : b10 < b12 := Nat.lt_of_lt_of_le (lt_of_block hb10) hge12
  replace hB := keepB0 hg hB
  replace hb10 := keepO0 hg hb10
  clear hg hge12
  refine ⟨_, rfl, ?_⟩; intro a ha
  refine sc ha (r_call ha [(.slice (some ⟨b12, 0, none⟩) 25 25)] rfl Tryd.call20) rfl rfl rfl (c_rPi (.slice (some ⟨b12, 0, none⟩) 25 25) (rRho (rTheta l)) _ (Sl.ofBlockM hb12 (by rw [rRho_len]) (Nat.le_refl _)) (by rw [rRho_len])) ?_
  clear ha a
  rintro e w13 ⟨b14, rfl, hBc, hb14, hge14⟩
  have hg := grown_call hBc; clear hBc
  have hz14 : w0.heap.size ≤ b14 := Nat.le_trans hB.size hge14
  have hq10_14 : b10 < b14 := Nat.lt_of_lt_of_le (lt_of_block hb10) hge14
  have hq12_14 : b12 < b14 := Nat.lt_of_lt_of_le (lt_of_block hb12) hge14
  replace hB := keepB0 hg hB
  replace hb10 := keepO0 hg hb10
  replace hb12 := keepO0 hg hb12
  clear hg hge14
  refine ⟨_, rfl, ?_⟩; intro a ha
  refine sc ha (r_call ha [(.slice (some ⟨b14, 0, none⟩) 25 25)] rfl Tryd.call22) rfl rfl rfl (c_rChi (.slice (some ⟨b14, 0, none⟩) 25 25) (rPi (rRho (rTheta l))) _ (Sl.ofBlockM hb14 (by rw [rPi_len]) (Nat.le_refl _)) (by rw [rPi_len])) ?_
  clear ha a
  rintro e w15 ⟨b16, rfl, hBc, hb16, hge16⟩
  have hg := grown_call hBc; clear hBc
  have hz16 : w0.heap.size ≤ b16 := Nat.le_trans hB.size hge16
  have hq10_16 : b10 < b16 := Nat.lt_of_lt_of_le (lt_of_block hb10) hge16
  have hq12_16 : b12 < b16 := Nat.lt_of_lt_of_le (lt_of_block hb12) hge16
  have hq14_16 : b14 < b16 := Nat.lt_of_lt_of_le (lt_of_block hb14) hge16
  replace hB := keepB0 hg hB
  replace hb10 := keepO0 hg hb10
  replace hb12 := keepO0 hg hb12
  replace hb14 := keepO0 hg hb14
  clear hg hge16
  refine ⟨_, rfl, ?_⟩; intro a ha
  refine sv ha (r_move ha rfl) rfl rfl rfl ?_; clear ha a; intro a ha
  refine sc ha (r_call ha [(.slice (some ⟨b16, 0, none⟩) 25 25), en k] rfl Tryd.call24) rfl rfl rfl (c_rIota (.slice (some ⟨b16, 0, none⟩) 25 25) (rChi (rPi (rRho (rTheta l)))) k _ (Sl.ofBlockM hb16 (by rw [rChi_len]) (Nat.le_refl _)) (by rw [rChi_len]) (by omega)) ?_
  clear ha a
  rintro e w17 ⟨b18, rfl, hBc, hb18, hge18⟩
  have hg := grown_call hBc; clear hBc
  have hz18 : w0.heap.size ≤ b18 := Nat.le_trans hB.size hge18
  have hq10_18 : b10 < b18 := Nat.lt_of_lt_of_le (lt_of_block hb10) hge18
  have hq12_18 : b12 < b18 := Nat.lt_of_lt_of_le (lt_of_block hb12) hge18
  have hq14_18 : b14 < b18 := Nat.lt_of_lt_of_le (lt_of_block hb14) hge18
  have hq16_18 : b16 < b18 := Nat.lt_of_lt_of_le (lt_of_block hb16) hge18
  replace hB := keepB0 hg hB
  replace hb10 := keepO0 hg hb10
  replace hb12 := keepO0 hg hb12
  replace hb14 := keepO0 hg hb14
  replace hb16 := keepO0 hg hb16
  clear hg hge18
  refine ⟨_, rfl, ?_⟩; intro a ha
  refine sv ha (r_assign ha rfl) rfl rfl rfl ?_; clear ha a; intro a ha
  refine hK8 _ _ ?_; clear hK8 K7
  refine wp_ret ?_
  repeat (first | (with_reducible refine t_ret ?_) | (with_reducible refine x_ret ?_))
  exact ret1 ha Tryd.results26 rfl ⟨_, rfl, hB, hb18, hz18⟩

theorem c_rRoundN (v : Value) (l : List UInt64) (k : Int) (w0 : World) (hs : Sl w0 v (l.map e64)) (hl : l.length = 25) (hk : k < 0 ∨ 24 ≤ k) :
    Calls Tryd.prog 26 #[v, ei k] w0 fun e w' => e = .returned (v) ∧ Below w0.heap.size w0 w' := by
  refine enter (args := [_, _]) Tryd.func26 rfl Tryd.ntmps26 rfl ?_
  intro a ha
  have hB := Below.refl w0.heap.size w0
  refine wp_seq_k fun K1 hK2 => ?_
  refine region ?_
  refine sv ha (r_assign ha rfl) rfl rfl rfl ?_; clear ha a; intro a ha
  refine hK2 _ _ ?_; clear hK2 K1
  refine wp_seq_k fun K3 hK4 => ?_
  refine wp_seq_k fun K5 hK6 => ?_
  refine region ?_
  refine sv ha (r_move ha rfl) rfl rfl rfl ?_; clear ha a; intro a ha
  refine sv ha (r_lss ha k 0 (decide (k < 0)) rfl rfl (decide_eq_decide.2 (by omega))) rfl rfl rfl ?_; clear ha a; intro a ha
  refine sv ha (r_move ha rfl) rfl rfl rfl ?_; clear ha a; intro a ha
  cases hq7 : (decide (k < 0))
  all_goals rw [hq7] at ha
  case false =>
    replace hq7 := of_decide_eq_false hq7
    refine svg ha (r_move ha rfl) rfl rfl rfl rfl rfl ?_; clear ha a; intro a ha
    refine svg ha (r_gtr ha k 23 true rfl rfl (decide_eq_true (by omega))) rfl rfl rfl rfl rfl ?_; clear ha a; intro a ha
    refine sv ha (r_pick ha false rfl rfl) rfl rfl rfl ?_; clear ha a; intro a ha
    refine hK6 _ _ ?_; clear hK6 K5
    refine cond_t ha rfl ?_
    refine wp_seq_k fun K8 hK9 => ?_
    refine region ?_
    refine sv ha (r_move ha rfl) rfl rfl rfl ?_; clear ha a; intro a ha
    refine sv ha (r_assign ha rfl) rfl rfl rfl ?_; clear ha a; intro a ha
    refine hK9 _ _ ?_; clear hK9 K8
    refine wp_ret ?_
    repeat (first | (with_reducible refine t_ret ?_) | (with_reducible refine x_ret ?_))
    exact ret1 ha Tryd.results26 rfl ⟨rfl, hB⟩
  case true =>
    replace hq7 := of_decide_eq_true hq7
    refine sno ha rfl rfl rfl rfl rfl rfl ?_; clear ha a; intro a ha
    refine sno ha rfl rfl rfl rfl rfl rfl ?_; clear ha a; intro a ha
    refine sv ha (r_pick ha true rfl rfl) rfl rfl rfl ?_; clear ha a; intro a ha
    refine hK6 _ _ ?_; clear hK6 K5
    refine cond_t ha rfl ?_
    refine wp_seq_k fun K10 hK11 => ?_
    refine region ?_
    refine sv ha (r_move ha rfl) rfl rfl rfl ?_; clear ha a; intro a ha
    refine sv ha (r_assign ha rfl) rfl rfl rfl ?_; clear ha a; intro a ha
    refine hK11 _ _ ?_; clear hK11 K10
    refine wp_ret ?_
    repeat (first | (with_reducible refine t_ret ?_) | (with_reducible refine x_ret ?_))
    exact ret1 ha Tryd.results26 rfl ⟨rfl, hB⟩

theorem c_rFast (v : Value) (l : List UInt64) (w0 : World) (hs : Sl w0 v (l.map e64)) (hl : l.length = 25) :
    Calls Tryd.prog 29 #[v] w0 fun e w' => ∃ b, e = .returned (.slice (some ⟨b, 0, none⟩) 25 25) ∧ Below w0.heap.size w0 w' ∧ w'.heap[b]? = some (.cells ((fast l).map e64).toArray 22 (0, 0)) ∧ w0.heap.size ≤ b := by
  refine enter (args := [_]) Tryd.func29 rfl Tryd.ntmps29 rfl ?_
  intro a ha
  have hB := Below.refl w0.heap.size w0
  refine wp_seq_k fun K1 hK2 => ?_
  refine region ?_
  refine sv ha (r_assign ha rfl) rfl rfl rfl ?_; clear ha a; intro a ha
  refine hK2 _ _ ?_; clear hK2 K1
  refine wp_seq_k fun K3 hK4 => ?_
  refine region ?_
  refine sc ha (r_call ha [] rfl Tryd.call32) rfl rfl rfl (c_lanes  _ ) ?_
  clear ha a
  rintro e w5 ⟨b6, rfl, hBc, hb6, hge6⟩
  have hg := grown_call hBc; clear hBc
  have hz6 : w0.heap.size ≤ b6 := Nat.le_trans hB.size hge6
  replace hB := keepB0 hg hB
  clear hg hge6
  refine ⟨_, rfl, ?_⟩; intro a ha
  refine sv ha (r_assign ha rfl) rfl rfl rfl ?_; clear ha a; intro a ha
  refine hK4 _ _ ?_; clear hK4 K3
  refine wp_seq_k fun K7 hK8 => ?_
  refine region ?_
  refine sv ha (r_move ha rfl) rfl rfl rfl ?_; clear ha a; intro a ha
  refine sv ha (r_move ha rfl) rfl rfl rfl ?_; clear ha a; intro a ha
  refine scopy (d := 20) (C := (l).map e64) (p := (l.take 25).map e64) ha rfl rfl (hs.below hB) Tryd.underlying27 rfl hb6 (by rw [List.map_take]) (by simp only [List.length_map, List.length_take, List.length_replicate]; omega) (one_e64 _) ?_ rfl rfl rfl
  clear ha a; intro a w9 ha hg hb6'
  rw [copy_all (by simp only [List.length_map, List.length_replicate]) (by rw [hl])] at hb6'
  clear hb6; have hb6 := hb6'; clear hb6'
  replace hB := keepB1 hg (by omega) hB
  clear hg
  refine hK8 _ _ ?_; clear hK8 K7
  refine wp_seq_k fun K10 hK11 => ?_
  refine region ?_
  refine sc ha (r_call ha [] rfl Tryd.call36) rfl rfl rfl (c_rconsts  _ ) ?_
  clear ha a
  rintro e w12 ⟨b13, rfl, hBc, hb13, hge13⟩
  have hg := grown_call hBc; clear hBc
  have hz13 : w0.heap.size ≤ b13 := Nat.le_trans hB.size hge13
  have hq6_13 : b6 < b13 := Nat.lt_of_lt_of_le (lt_of_block hb6) hge13
  replace hB := keepB0 hg hB
  replace hb6 := keepO0 hg hb6
  clear hg hge13
  refine ⟨_, rfl, ?_⟩; intro a ha
  refine sv ha (r_assign ha rfl) rfl rfl rfl ?_; clear ha a; intro a ha
  refine hK11 _ _ ?_; clear hK11 K10
  refine wp_seq_k fun K14 hK15 => ?_
  refine wp_seq_k fun K16 hK17 => ?_
  refine region ?_
  refine sv ha (r_assign ha rfl) rfl rfl rfl ?_; clear ha a; intro a ha
  refine hK17 _ _ ?_; clear hK17 K16
  refine wp_block ?_
  refine loopG (fun (i : Nat) a w => (i ≤ 24) ∧ Has 183 [(0, v), (2, .slice none 0 0), (17, .slice (some ⟨b6, 0, none⟩) 25 25), (3, .slice (some ⟨b6, 0, none⟩) 25 25), (18, .slice (some ⟨b6, 0, none⟩) 25 25), (19, v), (21, .slice (some ⟨b13, 0, none⟩) 24 24), (4, .slice (some ⟨b13, 0, none⟩) 24 24), (5, en i)] a ∧ Below w0.heap.size w0 w ∧ w.heap[b6]? = some (.cells ((fastA l i).map e64).toArray 22 (0, 0)) ∧ w.heap[b13]? = some (.cells ((consts).map e64).toArray 22 (0, 0))) (fun i => 24 - i) 0 ⟨(by omega), ha.to [0, 2, 17, 3, 18, 19, 21, 4, 5] rfl, hB, hb6, hb13⟩ ?_
  clear ha a hB hb6 hb13
  intro i a w18 ⟨hki, ha, hB, hb6, hb13⟩
  refine wp_seq_k fun K19 hK20 => ?_
  refine wp_seq_k fun K21 hK22 => ?_
  refine region ?_
  refine sv ha (r_move ha rfl) rfl rfl rfl ?_; clear ha a; intro a ha
  refine sv ha (r_lss ha ((i : Nat) : Int) 24 (decide (i < 24)) rfl rfl (decide_eq_decide.2 (by omega))) rfl rfl rfl ?_; clear ha a; intro a ha
  refine hK22 _ _ ?_; clear hK22 K21
  refine cond_if ha rfl (fun hc23 => ?_) (fun hc23 => ?_)
  · skip
    replace hc23 := of_decide_eq_true hc23
    refine wp_skip ?_
    refine hK20 _ _ ?_; clear hK20 K19
    refine wp_seq_k fun K24 hK25 => ?_
    refine wp_block ?_
    refine wp_seq_k fun K26 hK27 => ?_
    refine region ?_
    refine smake (k := 5) ha rfl rfl Tryd.underlying27 rfl rfl rfl rfl (show 8 * _ ≤ _ by omega) (by omega) rfl ?_
    clear ha a; intro a w28 b29 ha hg hb29 hge29 hlt29
    have hz29 : w0.heap.size ≤ b29 := Nat.le_trans hB.size hge29
    have hq6_29 : b6 < b29 := Nat.lt_of_lt_of_le (lt_of_block hb6) hge29
    have hq13_29 : b13 < b29 := Nat.lt_of_lt_of_le (lt_of_block hb13) hge29
    replace hB := keepB0 hg hB
    replace hb6 := keepO0 hg hb6
    replace hb13 := keepO0 hg hb13
    clear hg hge29 hlt29
    rw [show (List.replicate 5 (Value.int .u64 0)) = (List.replicate 5 (0 : UInt64)).map e64 by rw [List.map_replicate]; rfl] at hb29
    refine sv ha (r_assign ha rfl) rfl rfl rfl ?_; clear ha a; intro a ha
    refine hK27 _ _ ?_; clear hK27 K26
    refine wp_seq_k fun K30 hK31 => ?_
    refine wp_seq_k fun K32 hK33 => ?_
    refine region ?_
    refine sv ha (r_assign ha rfl) rfl rfl rfl ?_; clear ha a; intro a ha
    refine hK33 _ _ ?_; clear hK33 K32
    refine wp_block ?_
    refine loopG (fun (x : Nat) a w => (x ≤ 5) ∧ Has 183 [(0, v), (2, .slice none 0 0), (17, .slice (some ⟨b6, 0, none⟩) 25 25), (3, .slice (some ⟨b6, 0, none⟩) 25 25), (18, .slice (some ⟨b6, 0, none⟩) 25 25), (19, v), (21, .slice (some ⟨b13, 0, none⟩) 24 24), (4, .slice (some ⟨b13, 0, none⟩) 24 24), (5, en i), (22, en i), (23, .bool (decide (i < 24))), (26, .slice (some ⟨b29, 0, none⟩) 5 5), (6, .slice (some ⟨b29, 0, none⟩) 5 5), (7, en x)] a ∧ Below w0.heap.size w0 w ∧ w.heap[b6]? = some (.cells ((fastA l i).map e64).toArray 22 (0, 0)) ∧ w.heap[b13]? = some (.cells ((consts).map e64).toArray 22 (0, 0)) ∧ w.heap[b29]? = some (.cells ((thC (fastA l i) x).map e64).toArray 22 (0, 0))) (fun x => 5 - x) 0 ⟨(by omega), ha.to [0, 2, 17, 3, 18, 19, 21, 4, 5, 22, 23, 26, 6, 7] rfl, hB, hb6, hb13, hb29⟩ ?_
    clear ha a hB hb6 hb13 hb29
    intro x a w34 ⟨hkx, ha, hB, hb6, hb13, hb29⟩
    refine wp_seq_k fun K35 hK36 => ?_
    refine wp_seq_k fun K37 hK38 => ?_
    refine region ?_
    refine sv ha (r_move ha rfl) rfl rfl rfl ?_; clear ha a; intro a ha
    refine sv ha (r_lss ha ((x : Nat) : Int) 5 (decide (x < 5)) rfl rfl (decide_eq_decide.2 (by omega))) rfl rfl rfl ?_; clear ha a; intro a ha
    refine hK38 _ _ ?_; clear hK38 K37
    refine cond_if ha rfl (fun hc39 => ?_) (fun hc39 => ?_)
    · skip
      replace hc39 := of_decide_eq_true hc39
      refine wp_skip ?_
      refine hK36 _ _ ?_; clear hK36 K35
      refine wp_seq_k fun K40 hK41 => ?_
      refine wp_block ?_
      refine regionD (S := fun w => Below w0.heap.size w0 w ∧ w.heap[b6]? = some (.cells ((fastA l i).map e64).toArray 22 (0, 0)) ∧ w.heap[b13]? = some (.cells ((consts).map e64).toArray 22 (0, 0)) ∧ w.heap[b29]? = some (.cells ((thC (fastA l i) x).map e64).toArray 22 (0, 0)) ∧ True) 31 [0, 1, 2, 3, 4, 5, 6, 7, 8, 9, 10, 11, 12, 13, 14, 15, 16, 17, 18, 19, 20, 21, 22, 23, 24, 25, 26, 27, 28, 29, 30] [0, 1, 2, 3, 4, 5, 6, 7, 8, 9, 10, 11, 12, 13, 14, 15, 16, 17, 18, 19, 20, 21, 22, 23, 24, 25, 26, 27, 28, 29, 30, 31] mixed (by kernel_rfl) (by kernel_rfl) (fun w hg => ⟨keepB0 hg hB, keepO0 hg hb6, keepO0 hg hb13, keepO0 hg hb29, trivial⟩) ?_
      intro w42 hg
      replace hB := keepB0 hg hB
      replace hb6 := keepO0 hg hb6
      replace hb13 := keepO0 hg hb13
      replace hb29 := keepO0 hg hb29
      clear hg
      refine cv ha rfl rfl (fun w _ => r_move ha rfl) rfl rfl rfl ?_; clear ha a; intro a ha
      refine cv ha rfl rfl (fun w _ => r_move ha rfl) rfl rfl rfl ?_; clear ha a; intro a ha
      refine cv ha rfl rfl (fun w _ => r_move ha rfl) rfl rfl rfl ?_; clear ha a; intro a ha
      refine cv ha rfl rfl (fun w _ => r_move ha rfl) rfl rfl rfl ?_; clear ha a; intro a ha
      refine cv ha rfl rfl (fun w _ => r_indexB ha x Tryd.runUnderlying27 Tryd.sizeOf22 rfl rfl (by omega)) rfl rfl rfl ?_; clear ha a; intro a ha
      refine cv ha rfl rfl (fun w ⟨hB, hb6, hb13, hb29, _⟩ => r_load ha rfl Tryd.isAgg22 (cell_of hb6 (get_map e64 (fastA l i) 0 x (by rw [fastA_len, hl]; omega)))) rfl rfl rfl ?_; clear ha a; intro a ha
      refine cv ha rfl rfl (fun w _ => r_move ha rfl) rfl rfl rfl ?_; clear ha a; intro a ha
      refine cv ha rfl rfl (fun w _ => r_move ha rfl) rfl rfl rfl ?_; clear ha a; intro a ha
      refine cv ha rfl rfl (fun w _ => rn_add ha x 5 rfl rfl (by omega)) rfl rfl rfl ?_; clear ha a; intro a ha
      refine cv ha rfl rfl (fun w _ => r_indexB ha (x + 5) Tryd.runUnderlying27 Tryd.sizeOf22 rfl rfl (by omega)) rfl rfl rfl ?_; clear ha a; intro a ha
      refine cv ha rfl rfl (fun w ⟨hB, hb6, hb13, hb29, _⟩ => r_load ha rfl Tryd.isAgg22 (cell_of hb6 (get_map e64 (fastA l i) 0 (x + 5) (by rw [fastA_len, hl]; omega)))) rfl rfl rfl ?_; clear ha a; intro a ha
      refine cv ha rfl rfl (fun w _ => ru_xor ha ((fastA l i).getD x 0) ((fastA l i).getD (x + 5) 0) rfl rfl) rfl rfl rfl ?_; clear ha a; intro a ha
      refine cv ha rfl rfl (fun w _ => r_move ha rfl) rfl rfl rfl ?_; clear ha a; intro a ha
      refine cv ha rfl rfl (fun w _ => r_move ha rfl) rfl rfl rfl ?_; clear ha a; intro a ha
      refine cv ha rfl rfl (fun w _ => rn_add ha x 10 rfl rfl (by omega)) rfl rfl rfl ?_; clear ha a; intro a ha
      refine cv ha rfl rfl (fun w _ => r_indexB ha (x + 10) Tryd.runUnderlying27 Tryd.sizeOf22 rfl rfl (by omega)) rfl rfl rfl ?_; clear ha a; intro a ha
      refine cv ha rfl rfl (fun w ⟨hB, hb6, hb13, hb29, _⟩ => r_load ha rfl Tryd.isAgg22 (cell_of hb6 (get_map e64 (fastA l i) 0 (x + 10) (by rw [fastA_len, hl]; omega)))) rfl rfl rfl ?_; clear ha a; intro a ha
      refine cv ha rfl rfl (fun w _ => ru_xor ha (((fastA l i).getD x 0) ^^^ ((fastA l i).getD (x + 5) 0)) ((fastA l i).getD (x + 10) 0) rfl rfl) rfl rfl rfl ?_; clear ha a; intro a ha
      refine cv ha rfl rfl (fun w _ => r_move ha rfl) rfl rfl rfl ?_; clear ha a; intro a ha
      refine cv ha rfl rfl (fun w _ => r_move ha rfl) rfl rfl rfl ?_; clear ha a; intro a ha
      refine cv ha rfl rfl (fun w _ => rn_add ha x 15 rfl rfl (by omega)) rfl rfl rfl ?_; clear ha a; intro a ha
      refine cv ha rfl rfl (fun w _ => r_indexB ha (x + 15) Tryd.runUnderlying27 Tryd.sizeOf22 rfl rfl (by omega)) rfl rfl rfl ?_; clear ha a; intro a ha
      refine cv ha rfl rfl (fun w ⟨hB, hb6, hb13, hb29, _⟩ => r_load ha rfl Tryd.isAgg22 (cell_of hb6 (get_map e64 (fastA l i) 0 (x + 15) (by rw [fastA_len, hl]; omega)))) rfl rfl rfl ?_; clear ha a; intro a ha
      refine cv ha rfl rfl (fun w _ => ru_xor ha ((((fastA l i).getD x 0) ^^^ ((fastA l i).getD (x + 5) 0)) ^^^ ((fastA l i).getD (x + 10) 0)) ((fastA l i).getD (x + 15) 0) rfl rfl) rfl rfl rfl ?_; clear ha a; intro a ha
      refine cv ha rfl rfl (fun w _ => r_move ha rfl) rfl rfl rfl ?_; clear ha a; intro a ha
      refine cv ha rfl rfl (fun w _ => r_move ha rfl) rfl rfl rfl ?_; clear ha a; intro a ha
      refine cv ha rfl rfl (fun w _ => rn_add ha x 20 rfl rfl (by omega)) rfl rfl rfl ?_; clear ha a; intro a ha
      refine cv ha rfl rfl (fun w _ => r_indexB ha (x + 20) Tryd.runUnderlying27 Tryd.sizeOf22 rfl rfl (by omega)) rfl rfl rfl ?_; clear ha a; intro a ha
      refine cv ha rfl rfl (fun w ⟨hB, hb6, hb13, hb29, _⟩ => r_load ha rfl Tryd.isAgg22 (cell_of hb6 (get_map e64 (fastA l i) 0 (x + 20) (by rw [fastA_len, hl]; omega)))) rfl rfl rfl ?_; clear ha a; intro a ha
      refine cv ha rfl rfl (fun w _ => ru_xor ha (((((fastA l i).getD x 0) ^^^ ((fastA l i).getD (x + 5) 0)) ^^^ ((fastA l i).getD (x + 10) 0)) ^^^ ((fastA l i).getD (x + 15) 0)) ((fastA l i).getD (x + 20) 0) rfl rfl) rfl rfl rfl ?_; clear ha a; intro a ha
      refine cv ha rfl rfl (fun w _ => r_indexB ha x Tryd.runUnderlying27 Tryd.sizeOf22 rfl rfl (by omega)) rfl rfl rfl ?_; clear ha a; intro a ha
      refine cstore ha rfl rfl (v := e64 ((((((fastA l i).getD x 0) ^^^ ((fastA l i).getD (x + 5) 0)) ^^^ ((fastA l i).getD (x + 10) 0)) ^^^ ((fastA l i).getD (x + 15) 0)) ^^^ ((fastA l i).getD (x + 20) 0))) rfl rfl rfl rfl Tryd.sizeOf22 hb29 (by rw [List.length_map, thC_len]; omega) rfl ?_
      clear ha a; intro a w43 ha hg hb29'
      rw [set_map] at hb29'
      clear hb29; have hb29 := hb29'; clear hb29'
      replace hB := keepB1 hg (by omega) hB
      replace hb6 := keepO1 hg (by omega) hb6
      replace hb13 := keepO1 hg (by omega) hb13
      clear hg
      refine cfin (hK41 _ _ ?_); clear hK41 K40
      refine region ?_
      refine sv ha (r_move ha rfl) rfl rfl rfl ?_; clear ha a; intro a ha
      refine sv ha (rn_add ha x 1 rfl rfl (by omega)) rfl rfl rfl ?_; clear ha a; intro a ha
      refine sv ha (r_assign ha rfl) rfl rfl rfl ?_; clear ha a; intro a ha
      exact ⟨x + 1, by omega, (by omega), ha.to [0, 2, 17, 3, 18, 19, 21, 4, 5, 22, 23, 26, 6, 7] rfl, hB, hb6, hb13, hb29⟩
    · skip
      replace hc39 := of_decide_eq_false hc39
      refine wp_exit ?_
      obtain rfl : x = 5 := by omega
      refine hK31 _ _ ?_; clear hK36 K35 hK31 K30
      refine wp_seq_k fun K44 hK45 => ?_
      refine wp_seq_k fun K46 hK47 => ?_
      refine region ?_
      refine sv ha (r_assign ha rfl) rfl rfl rfl ?_; clear ha a; intro a ha
      refine hK47 _ _ ?_; clear hK47 K46
      refine wp_block ?_
      refine loopG (fun (k : Nat) a w => (k ≤ 25) ∧ Has 183 [(0, v), (2, .slice none 0 0), (17, .slice (some ⟨b6, 0, none⟩) 25 25), (3, .slice (some ⟨b6, 0, none⟩) 25 25), (18, .slice (some ⟨b6, 0, none⟩) 25 25), (19, v), (21, .slice (some ⟨b13, 0, none⟩) 24 24), (4, .slice (some ⟨b13, 0, none⟩) 24 24), (5, en i), (22, en i), (23, .bool (decide (i < 24))), (26, .slice (some ⟨b29, 0, none⟩) 5 5), (6, .slice (some ⟨b29, 0, none⟩) 5 5), (7, en 5), (27, en 5), (28, .bool (decide (5 < 5))), (8, en k)] a ∧ Below w0.heap.size w0 w ∧ w.heap[b6]? = some (.cells ((fsA (fastA l i) k).map e64).toArray 22 (0, 0)) ∧ w.heap[b13]? = some (.cells ((consts).map e64).toArray 22 (0, 0)) ∧ w.heap[b29]? = some (.cells ((thC (fastA l i) 5).map e64).toArray 22 (0, 0))) (fun k => 25 - k) 0 ⟨(by omega), ha.to [0, 2, 17, 3, 18, 19, 21, 4, 5, 22, 23, 26, 6, 7, 27, 28, 8] rfl, hB, hb6, hb13, hb29⟩ ?_
      clear ha a hB hb6 hb13 hb29
      intro k a w48 ⟨hkk, ha, hB, hb6, hb13, hb29⟩
      refine wp_seq_k fun K49 hK50 => ?_
      refine wp_seq_k fun K51 hK52 => ?_
      refine region ?_
      refine sv ha (r_move ha rfl) rfl rfl rfl ?_; clear ha a; intro a ha
      refine sv ha (r_lss ha ((k : Nat) : Int) 25 (decide (k < 25)) rfl rfl (decide_eq_decide.2 (by omega))) rfl rfl rfl ?_; clear ha a; intro a ha
      refine hK52 _ _ ?_; clear hK52 K51
      refine cond_if ha rfl (fun hc53 => ?_) (fun hc53 => ?_)
      · skip
        replace hc53 := of_decide_eq_true hc53
        refine wp_skip ?_
        refine hK50 _ _ ?_; clear hK50 K49
        refine wp_seq_k fun K54 hK55 => ?_
        refine wp_block ?_
        refine regionD (S := fun w => Below w0.heap.size w0 w ∧ w.heap[b6]? = some (.cells ((fsA (fastA l i) k).map e64).toArray 22 (0, 0)) ∧ w.heap[b13]? = some (.cells ((consts).map e64).toArray 22 (0, 0)) ∧ w.heap[b29]? = some (.cells ((thC (fastA l i) 5).map e64).toArray 22 (0, 0)) ∧ True) 24 [0, 1, 2, 3, 4, 5, 6, 7, 8, 9, 10, 11, 12, 13, 14, 15, 16, 17, 18, 19, 20, 22, 23] [0, 1, 2, 3, 4, 5, 6, 7, 8, 9, 10, 11, 12, 13, 14, 15, 16, 17, 18, 19, 20, 21, 22, 23, 24] mixed (by kernel_rfl) (by kernel_rfl) (fun w hg => ⟨keepB0 hg hB, keepO0 hg hb6, keepO0 hg hb13, keepO0 hg hb29, trivial⟩) ?_
        intro w56 hg
        replace hB := keepB0 hg hB
        replace hb6 := keepO0 hg hb6
        replace hb13 := keepO0 hg hb13
        replace hb29 := keepO0 hg hb29
        clear hg
        refine cv ha rfl rfl (fun w _ => r_move ha rfl) rfl rfl rfl ?_; clear ha a; intro a ha
        refine cv ha rfl rfl (fun w _ => r_move ha rfl) rfl rfl rfl ?_; clear ha a; intro a ha
        refine cv ha rfl rfl (fun w _ => r_move ha rfl) rfl rfl rfl ?_; clear ha a; intro a ha
        refine cv ha rfl rfl (fun w _ => r_move ha rfl) rfl rfl rfl ?_; clear ha a; intro a ha
        refine cv ha rfl rfl (fun w _ => r_indexB ha k Tryd.runUnderlying27 Tryd.sizeOf22 rfl rfl (by omega)) rfl rfl rfl ?_; clear ha a; intro a ha
        refine cv ha rfl rfl (fun w ⟨hB, hb6, hb13, hb29, _⟩ => r_load ha rfl Tryd.isAgg22 (cell_of hb6 (get_map e64 (fsA (fastA l i) k) 0 k (by rw [fsA_len, fastA_len, hl]; omega)))) rfl rfl rfl ?_; clear ha a; intro a ha
        refine cv ha rfl rfl (fun w _ => r_move ha rfl) rfl rfl rfl ?_; clear ha a; intro a ha
        refine cv ha rfl rfl (fun w _ => r_move ha rfl) rfl rfl rfl ?_; clear ha a; intro a ha
        refine cv ha rfl rfl (fun w _ => rn_rem ha k 5 rfl rfl (by omega)) rfl rfl rfl ?_; clear ha a; intro a ha
        refine cv ha rfl rfl (fun w _ => rn_add ha (k % 5) 4 rfl rfl (by omega)) rfl rfl rfl ?_; clear ha a; intro a ha
        refine cv ha rfl rfl (fun w _ => rn_rem ha ((k % 5) + 4) 5 rfl rfl (by omega)) rfl rfl rfl ?_; clear ha a; intro a ha
        refine cv ha rfl rfl (fun w _ => r_indexB ha (((k % 5) + 4) % 5) Tryd.runUnderlying27 Tryd.sizeOf22 rfl rfl (by omega)) rfl rfl rfl ?_; clear ha a; intro a ha
        refine cv ha rfl rfl (fun w ⟨hB, hb6, hb13, hb29, _⟩ => r_load ha rfl Tryd.isAgg22 (cell_of hb29 (get_map e64 (thC (fastA l i) 5) 0 (((k % 5) + 4) % 5) (by rw [thC_len]; omega)))) rfl rfl rfl ?_; clear ha a; intro a ha
        refine cv ha rfl rfl (fun w _ => ru_xor ha ((fsA (fastA l i) k).getD k 0) ((thC (fastA l i) 5).getD (((k % 5) + 4) % 5) 0) rfl rfl) rfl rfl rfl ?_; clear ha a; intro a ha
        refine cv ha rfl rfl (fun w _ => r_move ha rfl) rfl rfl rfl ?_; clear ha a; intro a ha
        refine cv ha rfl rfl (fun w _ => r_move ha rfl) rfl rfl rfl ?_; clear ha a; intro a ha
        refine cv ha rfl rfl (fun w _ => rn_rem ha k 5 rfl rfl (by omega)) rfl rfl rfl ?_; clear ha a; intro a ha
        refine cv ha rfl rfl (fun w _ => rn_add ha (k % 5) 1 rfl rfl (by omega)) rfl rfl rfl ?_; clear ha a; intro a ha
        refine cv ha rfl rfl (fun w _ => rn_rem ha ((k % 5) + 1) 5 rfl rfl (by omega)) rfl rfl rfl ?_; clear ha a; intro a ha
        refine cv ha rfl rfl (fun w _ => r_indexB ha (((k % 5) + 1) % 5) Tryd.runUnderlying27 Tryd.sizeOf22 rfl rfl (by omega)) rfl rfl rfl ?_; clear ha a; intro a ha
        refine cv ha rfl rfl (fun w ⟨hB, hb6, hb13, hb29, _⟩ => r_load ha rfl Tryd.isAgg22 (cell_of hb29 (get_map e64 (thC (fastA l i) 5) 0 (((k % 5) + 1) % 5) (by rw [thC_len]; omega)))) rfl rfl rfl ?_; clear ha a; intro a ha
        refine cc ha rfl rfl (r_call ha [e64 ((thC (fastA l i) 5).getD (((k % 5) + 1) % 5) 0), en 1] rfl Tryd.call37) rfl rfl rfl (c_rturn ((thC (fastA l i) 5).getD (((k % 5) + 1) % 5) 0) 1 _ (by omega)) ?_
        clear ha a
        rintro e w57 ⟨rfl, hBc⟩
        have hg := grown_call hBc; clear hBc
        replace hB := keepB0 hg hB
        replace hb6 := keepO0 hg hb6
        replace hb13 := keepO0 hg hb13
        replace hb29 := keepO0 hg hb29
        clear hg
        refine ⟨fun _ => ⟨hB, hb6, hb13, hb29, trivial⟩, _, rfl, ?_⟩; intro a ha
        refine cv ha rfl rfl (fun w _ => ru_xor ha (((fsA (fastA l i) k).getD k 0) ^^^ ((thC (fastA l i) 5).getD (((k % 5) + 4) % 5) 0)) (turnR ((thC (fastA l i) 5).getD (((k % 5) + 1) % 5) 0) 1) rfl rfl) rfl rfl rfl ?_; clear ha a; intro a ha
        refine cv ha rfl rfl (fun w _ => r_indexB ha k Tryd.runUnderlying27 Tryd.sizeOf22 rfl rfl (by omega)) rfl rfl rfl ?_; clear ha a; intro a ha
        refine cstore ha rfl rfl (v := e64 ((((fsA (fastA l i) k).getD k 0) ^^^ ((thC (fastA l i) 5).getD (((k % 5) + 4) % 5) 0)) ^^^ (turnR ((thC (fastA l i) 5).getD (((k % 5) + 1) % 5) 0) 1))) rfl rfl rfl rfl Tryd.sizeOf22 hb6 (by rw [List.length_map, fsA_len, fastA_len, hl]; omega) rfl ?_
        clear ha a; intro a w58 ha hg hb6'
        rw [set_map] at hb6'
        clear hb6; have hb6 := hb6'; clear hb6'
        replace hB := keepB1 hg (by omega) hB
        replace hb13 := keepO1 hg (by omega) hb13
        replace hb29 := keepO1 hg (by omega) hb29
        clear hg
        refine cfin (hK55 _ _ ?_); clear hK55 K54
        refine region ?_
        refine sv ha (r_move ha rfl) rfl rfl rfl ?_; clear ha a; intro a ha
        refine sv ha (rn_add ha k 1 rfl rfl (by omega)) rfl rfl rfl ?_; clear ha a; intro a ha
        refine sv ha (r_assign ha rfl) rfl rfl rfl ?_; clear ha a; intro a ha
        exact ⟨k + 1, by omega, (by omega), ha.to [0, 2, 17, 3, 18, 19, 21, 4, 5, 22, 23, 26, 6, 7, 27, 28, 8] rfl, hB, hb6, hb13, hb29⟩
      · skip
        replace hc53 := of_decide_eq_false hc53
        refine wp_exit ?_
        obtain rfl : k = 25 := by omega
        refine hK45 _ _ ?_; clear hK50 K49 hK45 K44
        refine wp_seq_k fun K59 hK60 => ?_
        refine region ?_
        refine sc ha (r_call ha [] rfl Tryd.call32) rfl rfl rfl (c_lanes  _ ) ?_
        clear ha a
        rintro e w61 ⟨b62, rfl, hBc, hb62, hge62⟩
        have hg := grown_call hBc; clear hBc
        have hz62 : w0.heap.size ≤ b62 := Nat.le_trans hB.size hge62
        have hq6_62 : b6 < b62 := Nat.lt_of_lt_of_le (lt_of_block hb6) hge62
        have hq13_62 : b13 < b62 := Nat.lt_of_lt_of_le (lt_of_block hb13) hge62
        have hq29_62 : b29 < b62 := Nat.lt_of_lt_of_le (lt_of_block hb29) hge62
        replace hB := keepB0 hg hB
        replace hb6 := keepO0 hg hb6
        replace hb13 := keepO0 hg hb13
        replace hb29 := keepO0 hg hb29
        clear hg hge62
        refine ⟨_, rfl, ?_⟩; intro a ha
        refine sv ha (r_assign ha rfl) rfl rfl rfl ?_; clear ha a; intro a ha
        refine hK60 _ _ ?_; clear hK60 K59
        refine wp_seq_k fun K63 hK64 => ?_
        refine region ?_
        refine sv ha (r_assign ha rfl) rfl rfl rfl ?_; clear ha a; intro a ha
        refine hK64 _ _ ?_; clear hK64 K63
        refine wp_seq_k fun K65 hK66 => ?_
        refine region ?_
        refine sv ha (r_assign ha rfl) rfl rfl rfl ?_; clear ha a; intro a ha
        refine hK66 _ _ ?_; clear hK66 K65
        refine wp_seq_k fun K67 hK68 => ?_
        refine region ?_
        refine sv ha (r_move ha rfl) rfl rfl rfl ?_; clear ha a; intro a ha
        refine sv ha (r_move ha rfl) rfl rfl rfl ?_; clear ha a; intro a ha
        refine sv ha (r_indexB ha 0 Tryd.runUnderlying27 Tryd.sizeOf22 rfl rfl (by omega)) rfl rfl rfl ?_; clear ha a; intro a ha
        refine sv ha (r_load ha rfl Tryd.isAgg22 (cell_of hb6 (get_map e64 (fsA (fastA l i) 25) 0 0 (by rw [fsA_len, fastA_len, hl]; omega)))) rfl rfl rfl ?_; clear ha a; intro a ha
        refine sv ha (r_indexB ha 0 Tryd.runUnderlying27 Tryd.sizeOf22 rfl rfl (by omega)) rfl rfl rfl ?_; clear ha a; intro a ha
        refine sstore ha (v := e64 ((fsA (fastA l i) 25).getD 0 0)) rfl rfl rfl rfl Tryd.sizeOf22 hb62 (by rw [List.length_map, List.length_replicate]; omega) ?_
        clear ha a; intro a w69 ha hg hb62'
        rw [set_map] at hb62'
        clear hb62; have hb62 := hb62'; clear hb62'
        replace hB := keepB1 hg (by omega) hB
        replace hb6 := keepO1 hg (by omega) hb6
        replace hb13 := keepO1 hg (by omega) hb13
        replace hb29 := keepO1 hg (by omega) hb29
        clear hg
        refine hK68 _ _ ?_; clear hK68 K67
        refine wp_seq_k fun K70 hK71 => ?_
        refine wp_seq_k fun K72 hK73 => ?_
        refine region ?_
        refine sv ha (r_assign ha rfl) rfl rfl rfl ?_; clear ha a; intro a ha
        refine hK73 _ _ ?_; clear hK73 K72
        refine wp_block ?_
        refine loopG (fun (t : Nat) a w => (t ≤ 24) ∧ Has 183 [(0, v), (2, .slice none 0 0), (17, .slice (some ⟨b6, 0, none⟩) 25 25), (3, .slice (some ⟨b6, 0, none⟩) 25 25), (18, .slice (some ⟨b6, 0, none⟩) 25 25), (19, v), (21, .slice (some ⟨b13, 0, none⟩) 24 24), (4, .slice (some ⟨b13, 0, none⟩) 24 24), (5, en i), (22, en i), (23, .bool (decide (i < 24))), (26, .slice (some ⟨b29, 0, none⟩) 5 5), (6, .slice (some ⟨b29, 0, none⟩) 5 5), (7, en 5), (27, en 5), (28, .bool (decide (5 < 5))), (8, en 25), (62, en 25), (63, .bool (decide (25 < 25))), (90, .slice (some ⟨b62, 0, none⟩) 25 25), (9, .slice (some ⟨b62, 0, none⟩) 25 25), (91, .slice (some ⟨b62, 0, none⟩) 25 25), (92, .slice (some ⟨b6, 0, none⟩) 25 25), (93, .pointer (some ⟨b6, 0, none⟩)), (94, e64 ((fsA (fastA l i) 25).getD 0 0)), (95, .pointer (some ⟨b62, 0, none⟩)), (12, en t), (10, en ((rhXY t).1)), (11, en ((rhXY t).2))] a ∧ Below w0.heap.size w0 w ∧ w.heap[b6]? = some (.cells ((fsA (fastA l i) 25).map e64).toArray 22 (0, 0)) ∧ w.heap[b13]? = some (.cells ((consts).map e64).toArray 22 (0, 0)) ∧ w.heap[b29]? = some (.cells ((thC (fastA l i) 5).map e64).toArray 22 (0, 0)) ∧ w.heap[b62]? = some (.cells ((fsP (fsA (fastA l i) 25) t).map e64).toArray 22 (0, 0))) (fun t => 24 - t) 0 ⟨(by omega), ha.to [0, 2, 17, 3, 18, 19, 21, 4, 5, 22, 23, 26, 6, 7, 27, 28, 8, 62, 63, 90, 9, 91, 92, 93, 94, 95, 12, 10, 11] rfl, hB, hb6, hb13, hb29, hb62⟩ ?_
        clear ha a hB hb6 hb13 hb29 hb62
        intro t a w74 ⟨hkt, ha, hB, hb6, hb13, hb29, hb62⟩
        have hxy := rhXY_lt t
        have hmul : (t + 1) * (t + 2) ≤ 25 * 26 := Nat.mul_le_mul (by omega) (by omega)
        refine wp_seq_k fun K75 hK76 => ?_
        refine wp_seq_k fun K77 hK78 => ?_
        refine region ?_
        refine sv ha (r_move ha rfl) rfl rfl rfl ?_; clear ha a; intro a ha
        refine sv ha (r_lss ha ((t : Nat) : Int) 24 (decide (t < 24)) rfl rfl (decide_eq_decide.2 (by omega))) rfl rfl rfl ?_; clear ha a; intro a ha
        refine hK78 _ _ ?_; clear hK78 K77
        refine cond_if ha rfl (fun hc79 => ?_) (fun hc79 => ?_)
        · skip
          replace hc79 := of_decide_eq_true hc79
          refine wp_skip ?_
          refine hK76 _ _ ?_; clear hK76 K75
          refine wp_seq_k fun K80 hK81 => ?_
          refine wp_block ?_
          refine wp_seq_k fun K82 hK83 => ?_
          refine region ?_
          refine sv ha (r_move ha rfl) rfl rfl rfl ?_; clear ha a; intro a ha
          refine sv ha (r_move ha rfl) rfl rfl rfl ?_; clear ha a; intro a ha
          refine sv ha (r_move ha rfl) rfl rfl rfl ?_; clear ha a; intro a ha
          refine sv ha (rn_mul ha 2 ((rhXY t).1) rfl rfl (by omega)) rfl rfl rfl ?_; clear ha a; intro a ha
          refine sv ha (r_move ha rfl) rfl rfl rfl ?_; clear ha a; intro a ha
          refine sv ha (rn_mul ha 3 ((rhXY t).2) rfl rfl (by omega)) rfl rfl rfl ?_; clear ha a; intro a ha
          refine sv ha (rn_add ha (2 * ((rhXY t).1)) (3 * ((rhXY t).2)) rfl rfl (by omega)) rfl rfl rfl ?_; clear ha a; intro a ha
          refine sv ha (rn_rem ha ((2 * ((rhXY t).1)) + (3 * ((rhXY t).2))) 5 rfl rfl (by omega)) rfl rfl rfl ?_; clear ha a; intro a ha
          refine sv ha (rn_mul ha 5 (((2 * ((rhXY t).1)) + (3 * ((rhXY t).2))) % 5) rfl rfl (by omega)) rfl rfl rfl ?_; clear ha a; intro a ha
          refine sv ha (rn_add ha ((rhXY t).2) (5 * (((2 * ((rhXY t).1)) + (3 * ((rhXY t).2))) % 5)) rfl rfl (by omega)) rfl rfl rfl ?_; clear ha a; intro a ha
          refine sv ha (r_move ha rfl) rfl rfl rfl ?_; clear ha a; intro a ha
          refine sv ha (r_move ha rfl) rfl rfl rfl ?_; clear ha a; intro a ha
          refine sv ha (r_move ha rfl) rfl rfl rfl ?_; clear ha a; intro a ha
          refine sv ha (rn_mul ha 5 ((rhXY t).2) rfl rfl (by omega)) rfl rfl rfl ?_; clear ha a; intro a ha
          refine sv ha (rn_add ha ((rhXY t).1) (5 * ((rhXY t).2)) rfl rfl (by omega)) rfl rfl rfl ?_; clear ha a; intro a ha
          refine sv ha (r_indexB ha (((rhXY t).1) + (5 * ((rhXY t).2))) Tryd.runUnderlying27 Tryd.sizeOf22 rfl rfl (by omega)) rfl rfl rfl ?_; clear ha a; intro a ha
          refine sv ha (r_load ha rfl Tryd.isAgg22 (cell_of hb6 (get_map e64 (fsA (fastA l i) 25) 0 (((rhXY t).1) + (5 * ((rhXY t).2))) (by rw [fsA_len, fastA_len, hl]; omega)))) rfl rfl rfl ?_; clear ha a; intro a ha
          refine sv ha (r_move ha rfl) rfl rfl rfl ?_; clear ha a; intro a ha
          refine sv ha (rn_add ha t 1 rfl rfl (by omega)) rfl rfl rfl ?_; clear ha a; intro a ha
          refine sv ha (r_move ha rfl) rfl rfl rfl ?_; clear ha a; intro a ha
          refine sv ha (rn_add ha t 2 rfl rfl (by omega)) rfl rfl rfl ?_; clear ha a; intro a ha
          refine sv ha (rn_mul ha (t + 1) (t + 2) rfl rfl (by omega)) rfl rfl rfl ?_; clear ha a; intro a ha
          refine sv ha (rn_quo ha ((t + 1) * (t + 2)) 2 rfl rfl (by omega) (by omega)) rfl rfl rfl ?_; clear ha a; intro a ha
          refine sv ha (rn_rem ha (((t + 1) * (t + 2)) / 2) 64 rfl rfl (by omega)) rfl rfl rfl ?_; clear ha a; intro a ha
          refine sc ha (r_call ha [e64 ((fsA (fastA l i) 25).getD (((rhXY t).1) + (5 * ((rhXY t).2))) 0), en ((((t + 1) * (t + 2)) / 2) % 64)] rfl Tryd.call37) rfl rfl rfl (c_rturn ((fsA (fastA l i) 25).getD (((rhXY t).1) + (5 * ((rhXY t).2))) 0) ((((t + 1) * (t + 2)) / 2) % 64) _ (by omega)) ?_
          clear ha a
          rintro e w84 ⟨rfl, hBc⟩
          have hg := grown_call hBc; clear hBc
          replace hB := keepB0 hg hB
          replace hb6 := keepO0 hg hb6
          replace hb13 := keepO0 hg hb13
          replace hb29 := keepO0 hg hb29
          replace hb62 := keepO0 hg hb62
          clear hg
          refine ⟨_, rfl, ?_⟩; intro a ha
          refine sv ha (r_indexB ha (((rhXY t).2) + (5 * (((2 * ((rhXY t).1)) + (3 * ((rhXY t).2))) % 5))) Tryd.runUnderlying27 Tryd.sizeOf22 rfl rfl (by omega)) rfl rfl rfl ?_; clear ha a; intro a ha
          refine sstore ha (v := e64 (turnR ((fsA (fastA l i) 25).getD (((rhXY t).1) + (5 * ((rhXY t).2))) 0) ((((t + 1) * (t + 2)) / 2) % 64))) rfl rfl rfl rfl Tryd.sizeOf22 hb62 (by rw [List.length_map, fsP_len]; omega) ?_
          clear ha a; intro a w85 ha hg hb62'
          rw [set_map] at hb62'
          clear hb62; have hb62 := hb62'; clear hb62'
          replace hB := keepB1 hg (by omega) hB
          replace hb6 := keepO1 hg (by omega) hb6
          replace hb13 := keepO1 hg (by omega) hb13
          replace hb29 := keepO1 hg (by omega) hb29
          clear hg
          refine hK83 _ _ ?_; clear hK83 K82
          refine wp_seq_k fun K86 hK87 => ?_
          refine region ?_
          refine sv ha (r_move ha rfl) rfl rfl rfl ?_; clear ha a; intro a ha
          refine sv ha (r_assign ha rfl) rfl rfl rfl ?_; clear ha a; intro a ha
          refine hK87 _ _ ?_; clear hK87 K86
          refine wp_seq_k fun K88 hK89 => ?_
          refine region ?_
          refine sv ha (r_move ha rfl) rfl rfl rfl ?_; clear ha a; intro a ha
          refine sv ha (rn_mul ha 2 ((rhXY t).1) rfl rfl (by omega)) rfl rfl rfl ?_; clear ha a; intro a ha
          refine sv ha (r_move ha rfl) rfl rfl rfl ?_; clear ha a; intro a ha
          refine sv ha (rn_mul ha 3 ((rhXY t).2) rfl rfl (by omega)) rfl rfl rfl ?_; clear ha a; intro a ha
          refine sv ha (rn_add ha (2 * ((rhXY t).1)) (3 * ((rhXY t).2)) rfl rfl (by omega)) rfl rfl rfl ?_; clear ha a; intro a ha
          refine sv ha (rn_rem ha ((2 * ((rhXY t).1)) + (3 * ((rhXY t).2))) 5 rfl rfl (by omega)) rfl rfl rfl ?_; clear ha a; intro a ha
          refine sv ha (r_assign ha rfl) rfl rfl rfl ?_; clear ha a; intro a ha
          refine hK89 _ _ ?_; clear hK89 K88
          refine region ?_
          refine sv ha (r_move ha rfl) rfl rfl rfl ?_; clear ha a; intro a ha
          refine sv ha (r_assign ha rfl) rfl rfl rfl ?_; clear ha a; intro a ha
          refine hK81 _ _ ?_; clear hK81 K80
          refine region ?_
          refine sv ha (r_move ha rfl) rfl rfl rfl ?_; clear ha a; intro a ha
          refine sv ha (rn_add ha t 1 rfl rfl (by omega)) rfl rfl rfl ?_; clear ha a; intro a ha
          refine sv ha (r_assign ha rfl) rfl rfl rfl ?_; clear ha a; intro a ha
          exact ⟨t + 1, by omega, (by omega), ha.to [0, 2, 17, 3, 18, 19, 21, 4, 5, 22, 23, 26, 6, 7, 27, 28, 8, 62, 63, 90, 9, 91, 92, 93, 94, 95, 12, 10, 11] rfl, hB, hb6, hb13, hb29, hb62⟩
        · skip
          replace hc79 := of_decide_eq_false hc79
          refine wp_exit ?_
          obtain rfl : t = 24 := by omega
          refine hK71 _ _ ?_; clear hK76 K75 hK71 K70
          refine wp_seq_k fun K90 hK91 => ?_
          refine wp_seq_k fun K92 hK93 => ?_
          refine region ?_
          refine sv ha (r_assign ha rfl) rfl rfl rfl ?_; clear ha a; intro a ha
          refine hK93 _ _ ?_; clear hK93 K92
          refine wp_block ?_
          refine loopG (fun (k : Nat) a w => (k ≤ 25) ∧ Has 183 [(0, v), (2, .slice none 0 0), (17, .slice (some ⟨b6, 0, none⟩) 25 25), (3, .slice (some ⟨b6, 0, none⟩) 25 25), (18, .slice (some ⟨b6, 0, none⟩) 25 25), (19, v), (21, .slice (some ⟨b13, 0, none⟩) 24 24), (4, .slice (some ⟨b13, 0, none⟩) 24 24), (5, en i), (22, en i), (23, .bool (decide (i < 24))), (26, .slice (some ⟨b29, 0, none⟩) 5 5), (6, .slice (some ⟨b29, 0, none⟩) 5 5), (7, en 5), (27, en 5), (28, .bool (decide (5 < 5))), (8, en 25), (62, en 25), (63, .bool (decide (25 < 25))), (90, .slice (some ⟨b62, 0, none⟩) 25 25), (9, .slice (some ⟨b62, 0, none⟩) 25 25), (91, .slice (some ⟨b62, 0, none⟩) 25 25), (92, .slice (some ⟨b6, 0, none⟩) 25 25), (93, .pointer (some ⟨b6, 0, none⟩)), (94, e64 ((fsA (fastA l i) 25).getD 0 0)), (95, .pointer (some ⟨b62, 0, none⟩)), (12, en 24), (10, en ((rhXY 24).1)), (11, en ((rhXY 24).2)), (96, en 24), (97, .bool (decide (24 < 24))), (14, en k)] a ∧ Below w0.heap.size w0 w ∧ w.heap[b6]? = some (.cells ((fsX (fsP (fsA (fastA l i) 25) 24) (fsA (fastA l i) 25) k).map e64).toArray 22 (0, 0)) ∧ w.heap[b13]? = some (.cells ((consts).map e64).toArray 22 (0, 0)) ∧ w.heap[b29]? = some (.cells ((thC (fastA l i) 5).map e64).toArray 22 (0, 0)) ∧ w.heap[b62]? = some (.cells ((fsP (fsA (fastA l i) 25) 24).map e64).toArray 22 (0, 0))) (fun k => 25 - k) 0 ⟨(by omega), ha.to [0, 2, 17, 3, 18, 19, 21, 4, 5, 22, 23, 26, 6, 7, 27, 28, 8, 62, 63, 90, 9, 91, 92, 93, 94, 95, 12, 10, 11, 96, 97, 14] rfl, hB, hb6, hb13, hb29, hb62⟩ ?_
          clear ha a hB hb6 hb13 hb29 hb62
          intro k a w94 ⟨hkk, ha, hB, hb6, hb13, hb29, hb62⟩
          refine wp_seq_k fun K95 hK96 => ?_
          refine wp_seq_k fun K97 hK98 => ?_
          refine region ?_
          refine sv ha (r_move ha rfl) rfl rfl rfl ?_; clear ha a; intro a ha
          refine sv ha (r_lss ha ((k : Nat) : Int) 25 (decide (k < 25)) rfl rfl (decide_eq_decide.2 (by omega))) rfl rfl rfl ?_; clear ha a; intro a ha
          refine hK98 _ _ ?_; clear hK98 K97
          refine cond_if ha rfl (fun hc99 => ?_) (fun hc99 => ?_)
          · skip
            replace hc99 := of_decide_eq_true hc99
            refine wp_skip ?_
            refine hK96 _ _ ?_; clear hK96 K95
            refine wp_seq_k fun K100 hK101 => ?_
            refine wp_block ?_
            refine wp_seq_k fun K102 hK103 => ?_
            refine region ?_
            refine sv ha (r_move ha rfl) rfl rfl rfl ?_; clear ha a; intro a ha
            refine sv ha (r_move ha rfl) rfl rfl rfl ?_; clear ha a; intro a ha
            refine sv ha (rn_rem ha k 5 rfl rfl (by omega)) rfl rfl rfl ?_; clear ha a; intro a ha
            refine sv ha (rn_sub ha k (k % 5) rfl rfl (by omega) (by omega)) rfl rfl rfl ?_; clear ha a; intro a ha
            refine sv ha (r_assign ha rfl) rfl rfl rfl ?_; clear ha a; intro a ha
            refine hK103 _ _ ?_; clear hK103 K102
            refine wp_seq_k fun K104 hK105 => ?_
            refine region ?_
            refine sv ha (r_move ha rfl) rfl rfl rfl ?_; clear ha a; intro a ha
            refine sv ha (r_move ha rfl) rfl rfl rfl ?_; clear ha a; intro a ha
            refine sv ha (r_move ha rfl) rfl rfl rfl ?_; clear ha a; intro a ha
            refine sv ha (rn_rem ha k 5 rfl rfl (by omega)) rfl rfl rfl ?_; clear ha a; intro a ha
            refine sv ha (rn_add ha (k % 5) 2 rfl rfl (by omega)) rfl rfl rfl ?_; clear ha a; intro a ha
            refine sv ha (rn_rem ha ((k % 5) + 2) 5 rfl rfl (by omega)) rfl rfl rfl ?_; clear ha a; intro a ha
            refine sv ha (rn_add ha (k - (k % 5)) (((k % 5) + 2) % 5) rfl rfl (by omega)) rfl rfl rfl ?_; clear ha a; intro a ha
            refine sv ha (r_indexB ha ((k - (k % 5)) + (((k % 5) + 2) % 5)) Tryd.runUnderlying27 Tryd.sizeOf22 rfl rfl (by omega)) rfl rfl rfl ?_; clear ha a; intro a ha
            refine sv ha (r_load ha rfl Tryd.isAgg22 (cell_of hb62 (get_map e64 (fsP (fsA (fastA l i) 25) 24) 0 ((k - (k % 5)) + (((k % 5) + 2) % 5)) (by rw [fsP_len]; omega)))) rfl rfl rfl ?_; clear ha a; intro a ha
            refine sv ha (r_assign ha rfl) rfl rfl rfl ?_; clear ha a; intro a ha
            refine hK105 _ _ ?_; clear hK105 K104
            refine regionD (S := fun w => Below w0.heap.size w0 w ∧ w.heap[b6]? = some (.cells ((fsX (fsP (fsA (fastA l i) 25) 24) (fsA (fastA l i) 25) k).map e64).toArray 22 (0, 0)) ∧ w.heap[b13]? = some (.cells ((consts).map e64).toArray 22 (0, 0)) ∧ w.heap[b29]? = some (.cells ((thC (fastA l i) 5).map e64).toArray 22 (0, 0)) ∧ w.heap[b62]? = some (.cells ((fsP (fsA (fastA l i) 25) 24).map e64).toArray 22 (0, 0)) ∧ True) 21 [0, 1, 2, 3, 4, 5, 6, 7, 8, 9, 10, 11, 12, 13, 14, 15, 16, 17, 18, 19, 20] [0, 1, 2, 3, 4, 5, 6, 7, 8, 9, 10, 11, 12, 13, 14, 15, 16, 17, 18, 19, 20, 21] mixed (by kernel_rfl) (by kernel_rfl) (fun w hg => ⟨keepB0 hg hB, keepO0 hg hb6, keepO0 hg hb13, keepO0 hg hb29, keepO0 hg hb62, trivial⟩) ?_
            intro w106 hg
            replace hB := keepB0 hg hB
            replace hb6 := keepO0 hg hb6
            replace hb13 := keepO0 hg hb13
            replace hb29 := keepO0 hg hb29
            replace hb62 := keepO0 hg hb62
            clear hg
            refine cv ha rfl rfl (fun w _ => r_move ha rfl) rfl rfl rfl ?_; clear ha a; intro a ha
            refine cv ha rfl rfl (fun w _ => r_move ha rfl) rfl rfl rfl ?_; clear ha a; intro a ha
            refine cv ha rfl rfl (fun w _ => r_move ha rfl) rfl rfl rfl ?_; clear ha a; intro a ha
            refine cv ha rfl rfl (fun w _ => r_move ha rfl) rfl rfl rfl ?_; clear ha a; intro a ha
            refine cv ha rfl rfl (fun w _ => r_indexB ha k Tryd.runUnderlying27 Tryd.sizeOf22 rfl rfl (by omega)) rfl rfl rfl ?_; clear ha a; intro a ha
            refine cv ha rfl rfl (fun w ⟨hB, hb6, hb13, hb29, hb62, _⟩ => r_load ha rfl Tryd.isAgg22 (cell_of hb62 (get_map e64 (fsP (fsA (fastA l i) 25) 24) 0 k (by rw [fsP_len]; omega)))) rfl rfl rfl ?_; clear ha a; intro a ha
            refine cv ha rfl rfl (fun w _ => r_move ha rfl) rfl rfl rfl ?_; clear ha a; intro a ha
            refine cv ha rfl rfl (fun w _ => r_move ha rfl) rfl rfl rfl ?_; clear ha a; intro a ha
            refine cv ha rfl rfl (fun w _ => r_move ha rfl) rfl rfl rfl ?_; clear ha a; intro a ha
            refine cv ha rfl rfl (fun w _ => r_move ha rfl) rfl rfl rfl ?_; clear ha a; intro a ha
            refine cv ha rfl rfl (fun w _ => r_move ha rfl) rfl rfl rfl ?_; clear ha a; intro a ha
            refine cv ha rfl rfl (fun w _ => rn_rem ha k 5 rfl rfl (by omega)) rfl rfl rfl ?_; clear ha a; intro a ha
            refine cv ha rfl rfl (fun w _ => rn_add ha (k % 5) 1 rfl rfl (by omega)) rfl rfl rfl ?_; clear ha a; intro a ha
            refine cv ha rfl rfl (fun w _ => rn_rem ha ((k % 5) + 1) 5 rfl rfl (by omega)) rfl rfl rfl ?_; clear ha a; intro a ha
            refine cv ha rfl rfl (fun w _ => rn_add ha (k - (k % 5)) (((k % 5) + 1) % 5) rfl rfl (by omega)) rfl rfl rfl ?_; clear ha a; intro a ha
            refine cv ha rfl rfl (fun w _ => r_indexB ha ((k - (k % 5)) + (((k % 5) + 1) % 5)) Tryd.runUnderlying27 Tryd.sizeOf22 rfl rfl (by omega)) rfl rfl rfl ?_; clear ha a; intro a ha
            refine cv ha rfl rfl (fun w ⟨hB, hb6, hb13, hb29, hb62, _⟩ => r_load ha rfl Tryd.isAgg22 (cell_of hb62 (get_map e64 (fsP (fsA (fastA l i) 25) 24) 0 ((k - (k % 5)) + (((k % 5) + 1) % 5)) (by rw [fsP_len]; omega)))) rfl rfl rfl ?_; clear ha a; intro a ha
            refine cv ha rfl rfl (fun w _ => ru_and ha ((fsP (fsA (fastA l i) 25) 24).getD ((k - (k % 5)) + (((k % 5) + 2) % 5)) 0) ((fsP (fsA (fastA l i) 25) 24).getD ((k - (k % 5)) + (((k % 5) + 1) % 5)) 0) rfl rfl) rfl rfl rfl ?_; clear ha a; intro a ha
            refine cv ha rfl rfl (fun w _ => ru_sub ha ((fsP (fsA (fastA l i) 25) 24).getD ((k - (k % 5)) + (((k % 5) + 2) % 5)) 0) (((fsP (fsA (fastA l i) 25) 24).getD ((k - (k % 5)) + (((k % 5) + 2) % 5)) 0) &&& ((fsP (fsA (fastA l i) 25) 24).getD ((k - (k % 5)) + (((k % 5) + 1) % 5)) 0)) rfl rfl) rfl rfl rfl ?_; clear ha a; intro a ha
            refine cv ha rfl rfl (fun w _ => ru_xor ha ((fsP (fsA (fastA l i) 25) 24).getD k 0) (((fsP (fsA (fastA l i) 25) 24).getD ((k - (k % 5)) + (((k % 5) + 2) % 5)) 0) - (((fsP (fsA (fastA l i) 25) 24).getD ((k - (k % 5)) + (((k % 5) + 2) % 5)) 0) &&& ((fsP (fsA (fastA l i) 25) 24).getD ((k - (k % 5)) + (((k % 5) + 1) % 5)) 0))) rfl rfl) rfl rfl rfl ?_; clear ha a; intro a ha
            refine cv ha rfl rfl (fun w _ => r_indexB ha k Tryd.runUnderlying27 Tryd.sizeOf22 rfl rfl (by omega)) rfl rfl rfl ?_; clear ha a; intro a ha
            refine cstore ha rfl rfl (v := e64 (((fsP (fsA (fastA l i) 25) 24).getD k 0) ^^^ (((fsP (fsA (fastA l i) 25) 24).getD ((k - (k % 5)) + (((k % 5) + 2) % 5)) 0) - (((fsP (fsA (fastA l i) 25) 24).getD ((k - (k % 5)) + (((k % 5) + 2) % 5)) 0) &&& ((fsP (fsA (fastA l i) 25) 24).getD ((k - (k % 5)) + (((k % 5) + 1) % 5)) 0))))) rfl rfl rfl rfl Tryd.sizeOf22 hb6 (by rw [List.length_map, fsX_len, fsA_len, fastA_len, hl]; omega) rfl ?_
            clear ha a; intro a w107 ha hg hb6'
            rw [set_map] at hb6'
            clear hb6; have hb6 := hb6'; clear hb6'
            replace hB := keepB1 hg (by omega) hB
            replace hb13 := keepO1 hg (by omega) hb13
            replace hb29 := keepO1 hg (by omega) hb29
            replace hb62 := keepO1 hg (by omega) hb62
            clear hg
            refine cfin (hK101 _ _ ?_); clear hK101 K100
            refine region ?_
            refine sv ha (r_move ha rfl) rfl rfl rfl ?_; clear ha a; intro a ha
            refine sv ha (rn_add ha k 1 rfl rfl (by omega)) rfl rfl rfl ?_; clear ha a; intro a ha
            refine sv ha (r_assign ha rfl) rfl rfl rfl ?_; clear ha a; intro a ha
            exact ⟨k + 1, by omega, (by omega), ha.to [0, 2, 17, 3, 18, 19, 21, 4, 5, 22, 23, 26, 6, 7, 27, 28, 8, 62, 63, 90, 9, 91, 92, 93, 94, 95, 12, 10, 11, 96, 97, 14] rfl, hB, hb6, hb13, hb29, hb62⟩
          · skip
            replace hc99 := of_decide_eq_false hc99
            refine wp_exit ?_
            obtain rfl : k = 25 := by omega
            refine hK91 _ _ ?_; clear hK96 K95 hK91 K90
            refine regionD (S := fun w => Below w0.heap.size w0 w ∧ w.heap[b6]? = some (.cells ((fsX (fsP (fsA (fastA l i) 25) 24) (fsA (fastA l i) 25) 25).map e64).toArray 22 (0, 0)) ∧ w.heap[b13]? = some (.cells ((consts).map e64).toArray 22 (0, 0)) ∧ w.heap[b29]? = some (.cells ((thC (fastA l i) 5).map e64).toArray 22 (0, 0)) ∧ w.heap[b62]? = some (.cells ((fsP (fsA (fastA l i) 25) 24).map e64).toArray 22 (0, 0)) ∧ True) 10 [0, 1, 2, 3, 4, 5, 6, 7, 8, 9] [0, 1, 2, 3, 4, 5, 6, 7, 8, 9, 10] mixed (by kernel_rfl) (by kernel_rfl) (fun w hg => ⟨keepB0 hg hB, keepO0 hg hb6, keepO0 hg hb13, keepO0 hg hb29, keepO0 hg hb62, trivial⟩) ?_
            intro w108 hg
            replace hB := keepB0 hg hB
            replace hb6 := keepO0 hg hb6
            replace hb13 := keepO0 hg hb13
            replace hb29 := keepO0 hg hb29
            replace hb62 := keepO0 hg hb62
            clear hg
            refine cv ha rfl rfl (fun w _ => r_move ha rfl) rfl rfl rfl ?_; clear ha a; intro a ha
            refine cv ha rfl rfl (fun w _ => r_move ha rfl) rfl rfl rfl ?_; clear ha a; intro a ha
            refine cv ha rfl rfl (fun w _ => r_indexB ha 0 Tryd.runUnderlying27 Tryd.sizeOf22 rfl rfl (by omega)) rfl rfl rfl ?_; clear ha a; intro a ha
            refine cv ha rfl rfl (fun w ⟨hB, hb6, hb13, hb29, hb62, _⟩ => r_load ha rfl Tryd.isAgg22 (cell_of hb6 (get_map e64 (fsX (fsP (fsA (fastA l i) 25) 24) (fsA (fastA l i) 25) 25) 0 0 (by rw [fsX_len, fsA_len, fastA_len, hl]; omega)))) rfl rfl rfl ?_; clear ha a; intro a ha
            refine cv ha rfl rfl (fun w _ => r_move ha rfl) rfl rfl rfl ?_; clear ha a; intro a ha
            refine cv ha rfl rfl (fun w _ => r_move ha rfl) rfl rfl rfl ?_; clear ha a; intro a ha
            refine cv ha rfl rfl (fun w _ => r_indexB ha i Tryd.runUnderlying27 Tryd.sizeOf22 rfl rfl (by omega)) rfl rfl rfl ?_; clear ha a; intro a ha
            refine cv ha rfl rfl (fun w ⟨hB, hb6, hb13, hb29, hb62, _⟩ => r_load ha rfl Tryd.isAgg22 (cell_of hb13 (get_map e64 consts 0 i (by rw [show consts.length = 24 from rfl]; omega)))) rfl rfl rfl ?_; clear ha a; intro a ha
            refine cv ha rfl rfl (fun w _ => ru_xor ha ((fsX (fsP (fsA (fastA l i) 25) 24) (fsA (fastA l i) 25) 25).getD 0 0) (consts.getD i 0) rfl rfl) rfl rfl rfl ?_; clear ha a; intro a ha
            refine cv ha rfl rfl (fun w _ => r_indexB ha 0 Tryd.runUnderlying27 Tryd.sizeOf22 rfl rfl (by omega)) rfl rfl rfl ?_; clear ha a; intro a ha
            refine cstore ha rfl rfl (v := e64 (((fsX (fsP (fsA (fastA l i) 25) 24) (fsA (fastA l i) 25) 25).getD 0 0) ^^^ (consts.getD i 0))) rfl rfl rfl rfl Tryd.sizeOf22 hb6 (by rw [List.length_map, fsX_len, fsA_len, fastA_len, hl]; omega) rfl ?_
            clear ha a; intro a w109 ha hg hb6'
            rw [set_map] at hb6'
            clear hb6; have hb6 := hb6'; clear hb6'
            replace hB := keepB1 hg (by omega) hB
            replace hb13 := keepO1 hg (by omega) hb13
            replace hb29 := keepO1 hg (by omega) hb29
            replace hb62 := keepO1 hg (by omega) hb62
            clear hg
            refine cfin (hK25 _ _ ?_); clear hK25 K24
            refine region ?_
            refine sv ha (r_move ha rfl) rfl rfl rfl ?_; clear ha a; intro a ha
            refine sv ha (rn_add ha i 1 rfl rfl (by omega)) rfl rfl rfl ?_; clear ha a; intro a ha
            refine sv ha (r_assign ha rfl) rfl rfl rfl ?_; clear ha a; intro a ha
            exact ⟨i + 1, by omega, (by omega), ha.to [0, 2, 17, 3, 18, 19, 21, 4, 5] rfl, hB, hb6, hb13⟩
  · skip
    replace hc23 := of_decide_eq_false hc23
    refine wp_exit ?_
    obtain rfl : i = 24 := by omega
    refine hK15 _ _ ?_; clear hK20 K19 hK15 K14
    refine wp_seq_k fun K110 hK111 => ?_
    refine region ?_
    refine sv ha (r_move ha rfl) rfl rfl rfl ?_; clear ha a; intro a ha
    refine sv ha (r_assign ha rfl) rfl rfl rfl ?_; clear ha a; intro a ha
    refine hK111 _ _ ?_; clear hK111 K110
    refine wp_ret ?_
    repeat (first | (with_reducible refine t_ret ?_) | (with_reducible refine x_ret ?_))
    exact ret1 ha Tryd.results29 rfl ⟨_, rfl, hB, hb6, hz6⟩

theorem c_rF (v : Value) (l : List UInt64) (w0 : World) (hs : Sl w0 v (l.map e64)) (hl : l.length = 25) :
    Calls Tryd.prog 28 #[v] w0 fun e w' => ∃ u, e = .returned u ∧ Below w0.heap.size w0 w' ∧ Sl w' u ((rF l).map e64) := by
  refine enter (args := [_]) Tryd.func28 rfl Tryd.ntmps28 rfl ?_
  intro a ha
  have hB := Below.refl w0.heap.size w0
  refine wp_seq_k fun K1 hK2 => ?_
  refine region ?_
  refine sv ha (r_assign ha rfl) rfl rfl rfl ?_; clear ha a; intro a ha
  refine hK2 _ _ ?_; clear hK2 K1
  refine wp_seq_k fun K3 hK4 => ?_
  refine wp_seq_k fun K5 hK6 => ?_
  refine region ?_
  refine sv ha (r_assign ha rfl) rfl rfl rfl ?_; clear ha a; intro a ha
  refine hK6 _ _ ?_; clear hK6 K5
  refine wp_block ?_
  refine loopG (fun (k : Nat) a w => ∃ va : Value, (k ≤ 24) ∧ Has 12 [(2, .slice none 0 0), (3, en k), (0, va)] a ∧ Below w0.heap.size w0 w ∧ Sl w va ((rfA l k).map e64)) (fun k => 24 - k) 0 ⟨v, (by omega), ha.to [2, 3, 0] rfl, hB, (show Sl _ _ ((l).map e64) from (hs.below hB))⟩ ?_
  clear ha a hB
  intro k a w7 ⟨va, hkk, ha, hB, hsa⟩
  refine wp_seq_k fun K8 hK9 => ?_
  refine wp_seq_k fun K10 hK11 => ?_
  refine region ?_
  refine sv ha (r_move ha rfl) rfl rfl rfl ?_; clear ha a; intro a ha
  refine sv ha (r_lss ha ((k : Nat) : Int) 24 (decide (k < 24)) rfl rfl (decide_eq_decide.2 (by omega))) rfl rfl rfl ?_; clear ha a; intro a ha
  refine hK11 _ _ ?_; clear hK11 K10
  refine cond_if ha rfl (fun hc12 => ?_) (fun hc12 => ?_)
  · skip
    replace hc12 := of_decide_eq_true hc12
    refine wp_skip ?_
    refine hK9 _ _ ?_; clear hK9 K8
    refine wp_seq_k fun K13 hK14 => ?_
    refine wp_block ?_
    refine region ?_
    refine sv ha (r_move ha rfl) rfl rfl rfl ?_; clear ha a; intro a ha
    refine sv ha (r_move ha rfl) rfl rfl rfl ?_; clear ha a; intro a ha
    refine sc ha (r_call ha [va, en k] rfl Tryd.call26) rfl rfl rfl (c_rRound va (rfA l k) k _ hsa (by rw [rfA_len l hl]) (by omega)) ?_
    clear ha a
    rintro e w15 ⟨b16, rfl, hBc, hb16, hge16⟩
    have hg := grown_call hBc; clear hBc
    have hz16 : w0.heap.size ≤ b16 := Nat.le_trans hB.size hge16
    have hne_hsa_b16 : ∀ j, Value.ownBlock va = some j → j ≠ b16 := fun j hj => by have := hsa.lt j hj; omega
    replace hB := keepB0 hg hB
    replace hsa := keepS0 hg hsa
    clear hg hge16
    refine ⟨_, rfl, ?_⟩; intro a ha
    refine sv ha (r_assign ha rfl) rfl rfl rfl ?_; clear ha a; intro a ha
    refine hK14 _ _ ?_; clear hK14 K13
    refine region ?_
    refine sv ha (r_move ha rfl) rfl rfl rfl ?_; clear ha a; intro a ha
    refine sv ha (rn_add ha k 1 rfl rfl (by omega)) rfl rfl rfl ?_; clear ha a; intro a ha
    refine sv ha (r_assign ha rfl) rfl rfl rfl ?_; clear ha a; intro a ha
    exact ⟨k + 1, by omega, .slice (some ⟨b16, 0, none⟩) 25 25, (by omega), ha.to [2, 3, 0] rfl, hB, (show Sl _ _ ((rround (rfA l k) k).map e64) from (Sl.ofBlockM hb16 (by rw [rround_len]) (by omega)))⟩
  · skip
    replace hc12 := of_decide_eq_false hc12
    refine wp_exit ?_
    obtain rfl : k = 24 := by omega
    refine hK4 _ _ ?_; clear hK9 K8 hK4 K3
    refine wp_seq_k fun K17 hK18 => ?_
    refine region ?_
    refine sv ha (r_move ha rfl) rfl rfl rfl ?_; clear ha a; intro a ha
    refine sv ha (r_assign ha rfl) rfl rfl rfl ?_; clear ha a; intro a ha
    refine hK18 _ _ ?_; clear hK18 K17
    refine wp_ret ?_
    repeat (first | (with_reducible refine t_ret ?_) | (with_reducible refine x_ret ?_))
    exact ret1 ha Tryd.results28 rfl ⟨_, rfl, hB, hsa⟩
end Go.Proofs.YtdfgdaeboidkhaaDoor
