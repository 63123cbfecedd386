/- WALKS written by gen.py (own program) out of specs. -/
import Derived.Test.YtdiddkcoihpnhaaDoorZ5
import Derived.Test.YtdiddkcoihpnhaaDoorNv
namespace Go.Proofs.YtdiddkcoihpnhaaDoor
open Go.RowKit Go.Rx
set_option maxRecDepth 100000
set_option maxHeartbeats 4000000
set_option linter.unusedVariables false

theorem zero_33Z6 : ∀ w, (zeroValue 33).run Tryd.prog w = .ok (.agg ((List.replicate 256 (0 : Int)).map ei).toArray) w := fun _ => by kernel_rfl
theorem c_rprod (p q : List Int) (w0 : World) (hp : p.length = 256) (hq : q.length = 256) :
    Calls Tryd.prog 49 #[.agg ((p).map ei).toArray, .agg ((q).map ei).toArray] w0 fun e w' => e = .returned (.agg ((prd p q).map ei).toArray) ∧ Below w0.heap.size w0 w' := by
  refine enter (args := [_, _]) Tryd.func49 rfl Tryd.ntmps49 rfl ?_
  intro a ha
  have hB := Below.refl w0.heap.size w0
  refine wp_seq_k fun K1 hK2 => ?_
  refine region ?_
  refine sbox ha rfl rfl ?_
  clear ha a; intro a w3 b4 ha hg hb4 hge4 hlt4
  have hz4 : w0.heap.size ≤ b4 := Nat.le_trans hB.size hge4
  replace hB := keepB0 hg hB
  clear hg hge4 hlt4
  refine sbox ha rfl rfl ?_
  clear ha a; intro a w5 b6 ha hg hb6 hge6 hlt6
  have hz6 : w0.heap.size ≤ b6 := Nat.le_trans hB.size hge6
  have hq4_6 : b4 < b6 := Nat.lt_of_lt_of_le (lt_of_block hb4) hge6
  replace hB := keepB0 hg hB
  replace hb4 := keepO0 hg hb4
  clear hg hge6 hlt6
  refine salloc ha zero_33Z6 rfl ?_
  clear ha a; intro a w7 b8 ha hg hb8 hge8 hlt8
  have hz8 : w0.heap.size ≤ b8 := Nat.le_trans hB.size hge8
  have hq4_8 : b4 < b8 := Nat.lt_of_lt_of_le (lt_of_block hb4) hge8
  have hq6_8 : b6 < b8 := Nat.lt_of_lt_of_le (lt_of_block hb6) hge8
  replace hB := keepB0 hg hB
  replace hb4 := keepO0 hg hb4
  replace hb6 := keepO0 hg hb6
  clear hg hge8 hlt8
  refine hK2 _ _ ?_; clear hK2 K1
  refine wp_seq_k fun K9 hK10 => ?_
  refine region ?_
  refine sv ha (r_loadR ha rfl Tryd.isAgg33 Tryd.sizeOf33 (C := (p).map ei) (by rw [List.length_map, hp]) (cells_all hb4)) rfl rfl rfl ?_; clear ha a; intro a ha
  refine sc ha (r_call ha [.agg ((p).map ei).toArray] rfl Tryd.call41) rfl rfl rfl (c_rclean p _ (by rw [hp])) ?_
  clear ha a
  rintro e w11 ⟨rfl, hBc⟩
  have hg := grown_call hBc; clear hBc
  replace hB := keepB0 hg hB
  replace hb4 := keepO0 hg hb4
  replace hb6 := keepO0 hg hb6
  replace hb8 := keepO0 hg hb8
  clear hg
  refine ⟨_, rfl, ?_⟩; intro a ha
  refine sstoreW ha rfl rfl (one_ei _) Tryd.sizeOf33 (by rw [List.length_map, (cl_red _ (by rw [hp])).len]) hb4 (by rw [List.length_map, hp]) ?_
  clear ha a; intro a w12 ha hg hb4'
  clear hb4; have hb4 := hb4'; clear hb4'
  replace hB := keepB1 hg (by omega) hB
  replace hb6 := keepO1 hg (by omega) hb6
  replace hb8 := keepO1 hg (by omega) hb8
  clear hg
  refine hK10 _ _ ?_; clear hK10 K9
  refine wp_seq_k fun K13 hK14 => ?_
  refine region ?_
  refine sv ha (r_loadR ha rfl Tryd.isAgg33 Tryd.sizeOf33 (C := (q).map ei) (by rw [List.length_map, hq]) (cells_all hb6)) rfl rfl rfl ?_; clear ha a; intro a ha
  refine sc ha (r_call ha [.agg ((q).map ei).toArray] rfl Tryd.call41) rfl rfl rfl (c_rclean q _ (by rw [hq])) ?_
  clear ha a
  rintro e w15 ⟨rfl, hBc⟩
  have hg := grown_call hBc; clear hBc
  replace hB := keepB0 hg hB
  replace hb4 := keepO0 hg hb4
  replace hb6 := keepO0 hg hb6
  replace hb8 := keepO0 hg hb8
  clear hg
  refine ⟨_, rfl, ?_⟩; intro a ha
  refine sstoreW ha rfl rfl (one_ei _) Tryd.sizeOf33 (by rw [List.length_map, (cl_red _ (by rw [hq])).len]) hb6 (by rw [List.length_map, hq]) ?_
  clear ha a; intro a w16 ha hg hb6'
  clear hb6; have hb6 := hb6'; clear hb6'
  replace hB := keepB1 hg (by omega) hB
  replace hb4 := keepO1 hg (by omega) hb4
  replace hb8 := keepO1 hg (by omega) hb8
  clear hg
  refine hK14 _ _ ?_; clear hK14 K13
  refine wp_seq_k fun K17 hK18 => ?_
  refine region ?_
  refine salloc ha zero_33Z6 rfl ?_
  clear ha a; intro a w19 b20 ha hg hb20 hge20 hlt20
  have hz20 : w0.heap.size ≤ b20 := Nat.le_trans hB.size hge20
  have hq4_20 : b4 < b20 := Nat.lt_of_lt_of_le (lt_of_block hb4) hge20
  have hq6_20 : b6 < b20 := Nat.lt_of_lt_of_le (lt_of_block hb6) hge20
  have hq8_20 : b8 < b20 := Nat.lt_of_lt_of_le (lt_of_block hb8) hge20
  replace hB := keepB0 hg hB
  replace hb4 := keepO0 hg hb4
  replace hb6 := keepO0 hg hb6
  replace hb8 := keepO0 hg hb8
  clear hg hge20 hlt20
  refine hK18 _ _ ?_; clear hK18 K17
  refine wp_seq_k fun K21 hK22 => ?_
  refine wp_seq_k fun K23 hK24 => ?_
  refine region ?_
  refine sv ha (r_assign ha rfl) rfl rfl rfl ?_; clear ha a; intro a ha
  refine hK24 _ _ ?_; clear hK24 K23
  refine wp_block ?_
  refine loopG (fun (i : Nat) a w => (i ≤ 256) ∧ Has 61 [(0, .agg ((p).map ei).toArray), (1, .agg ((q).map ei).toArray), (2, .pointer (some ⟨b4, 0, none⟩)), (3, .pointer (some ⟨b6, 0, none⟩)), (4, .pointer (some ⟨b8, 0, none⟩)), (9, .agg ((p).map ei).toArray), (10, .agg ((cl p).map ei).toArray), (11, .agg ((q).map ei).toArray), (12, .agg ((cl q).map ei).toArray), (5, .pointer (some ⟨b20, 0, none⟩)), (6, en i)] a ∧ Below w0.heap.size w0 w ∧ w.heap[b4]? = some (.cells ((cl p).map ei).toArray 33 (0, 0)) ∧ w.heap[b6]? = some (.cells ((cl q).map ei).toArray 33 (0, 0)) ∧ w.heap[b8]? = some (.cells ((List.replicate 256 (0 : Int)).map ei).toArray 33 (0, 0)) ∧ w.heap[b20]? = some (.cells ((rprA (cl p) (cl q) i).map ei).toArray 33 (0, 0))) (fun i => 256 - i) 0 ⟨(by omega), ha.to [0, 1, 2, 3, 4, 9, 10, 11, 12, 5, 6] rfl, hB, hb4, hb6, hb8, hb20⟩ ?_
  clear ha a hB hb4 hb6 hb8 hb20
  intro i a w25 ⟨hki, ha, hB, hb4, hb6, hb8, hb20⟩
  refine wp_seq_k fun K26 hK27 => ?_
  refine wp_seq_k fun K28 hK29 => ?_
  refine region ?_
  refine sv ha (r_move ha rfl) rfl rfl rfl ?_; clear ha a; intro a ha
  refine sv ha (r_lss ha ((i : Nat) : Int) 256 (decide (i < 256)) rfl rfl (decide_eq_decide.2 (by omega))) rfl rfl rfl ?_; clear ha a; intro a ha
  refine hK29 _ _ ?_; clear hK29 K28
  refine cond_if ha rfl (fun hc30 => ?_) (fun hc30 => ?_)
  · skip
    replace hc30 := of_decide_eq_true hc30
    refine wp_skip ?_
    refine hK27 _ _ ?_; clear hK27 K26
    refine wp_seq_k fun K31 hK32 => ?_
    refine wp_block ?_
    refine wp_seq_k fun K33 hK34 => ?_
    refine region ?_
    refine sv ha (r_assign ha rfl) rfl rfl rfl ?_; clear ha a; intro a ha
    refine hK34 _ _ ?_; clear hK34 K33
    refine wp_block ?_
    refine loopG (fun (j : Nat) a w => (j ≤ 256) ∧ Has 61 [(0, .agg ((p).map ei).toArray), (1, .agg ((q).map ei).toArray), (2, .pointer (some ⟨b4, 0, none⟩)), (3, .pointer (some ⟨b6, 0, none⟩)), (4, .pointer (some ⟨b8, 0, none⟩)), (9, .agg ((p).map ei).toArray), (10, .agg ((cl p).map ei).toArray), (11, .agg ((q).map ei).toArray), (12, .agg ((cl q).map ei).toArray), (5, .pointer (some ⟨b20, 0, none⟩)), (6, en i), (13, en i), (14, .bool (decide (i < 256))), (7, en j)] a ∧ Below w0.heap.size w0 w ∧ w.heap[b4]? = some (.cells ((cl p).map ei).toArray 33 (0, 0)) ∧ w.heap[b6]? = some (.cells ((cl q).map ei).toArray 33 (0, 0)) ∧ w.heap[b8]? = some (.cells ((List.replicate 256 (0 : Int)).map ei).toArray 33 (0, 0)) ∧ w.heap[b20]? = some (.cells ((rprJ (cl p) (cl q) i (rprA (cl p) (cl q) i) j).map ei).toArray 33 (0, 0))) (fun j => 256 - j) 0 ⟨(by omega), ha.to [0, 1, 2, 3, 4, 9, 10, 11, 12, 5, 6, 13, 14, 7] rfl, hB, hb4, hb6, hb8, hb20⟩ ?_
    clear ha a hB hb4 hb6 hb8 hb20
    intro j a w35 ⟨hkj, ha, hB, hb4, hb6, hb8, hb20⟩
    refine wp_seq_k fun K36 hK37 => ?_
    refine wp_seq_k fun K38 hK39 => ?_
    refine region ?_
    refine sv ha (r_move ha rfl) rfl rfl rfl ?_; clear ha a; intro a ha
    refine sv ha (r_lss ha ((j : Nat) : Int) 256 (decide (j < 256)) rfl rfl (decide_eq_decide.2 (by omega))) rfl rfl rfl ?_; clear ha a; intro a ha
    refine hK39 _ _ ?_; clear hK39 K38
    refine cond_if ha rfl (fun hc40 => ?_) (fun hc40 => ?_)
    · skip
      replace hc40 := of_decide_eq_true hc40
      refine wp_skip ?_
      refine hK37 _ _ ?_; clear hK37 K36
      refine wp_seq_k fun K41 hK42 => ?_
      refine wp_block ?_
      refine wp_seq_k fun K43 hK44 => ?_
      refine regionD (S := fun w => Below w0.heap.size w0 w ∧ w.heap[b4]? = some (.cells ((cl p).map ei).toArray 33 (0, 0)) ∧ w.heap[b6]? = some (.cells ((cl q).map ei).toArray 33 (0, 0)) ∧ w.heap[b8]? = some (.cells ((List.replicate 256 (0 : Int)).map ei).toArray 33 (0, 0)) ∧ w.heap[b20]? = some (.cells ((rprJ (cl p) (cl q) i (rprA (cl p) (cl q) i) j).map ei).toArray 33 (0, 0)) ∧ True) [] [0, 1, 2, 3, 4, 5, 6, 7, 8] [0, 1, 2, 3, 4, 5, 6, 7, 8] mixed (by kernel_rfl) (fun w hg => ⟨keepB0 hg hB, keepO0 hg hb4, keepO0 hg hb6, keepO0 hg hb8, keepO0 hg hb20, trivial⟩) ?_
      intro w45 hg
      replace hB := keepB0 hg hB
      replace hb4 := keepO0 hg hb4
      replace hb6 := keepO0 hg hb6
      replace hb8 := keepO0 hg hb8
      replace hb20 := keepO0 hg hb20
      clear hg
      refine cv ha rfl rfl (fun w _ => r_move ha rfl) rfl rfl rfl ?_; clear ha a; intro a ha
      refine cv ha rfl rfl (fun w _ => r_indexArr (i := i) ha i Tryd.runUnderlying33 Tryd.sizeOf3 rfl rfl (by omega) (by omega)) rfl rfl rfl ?_; clear ha a; intro a ha
      have hlt46 := ((show Red (cl p) from (cl_red p hp))).lt i
      refine cv ha rfl rfl (fun w ⟨hB, hb4, hb6, hb8, hb20, _⟩ => n_of (r_load ha rfl Tryd.isAgg3 (cell_of hb4 (get_map ei (cl p) 0 i (by rw [(cl_red _ (by rw [hp])).len]; omega)))) (k := tn (cl p) i) ((show Red (cl p) from (cl_red p hp)).tn _)) rfl rfl rfl ?_; clear ha a; intro a ha
      refine cv ha rfl rfl (fun w _ => r_move ha rfl) rfl rfl rfl ?_; clear ha a; intro a ha
      refine cv ha rfl rfl (fun w _ => r_indexArr (i := j) ha j Tryd.runUnderlying33 Tryd.sizeOf3 rfl rfl (by omega) (by omega)) rfl rfl rfl ?_; clear ha a; intro a ha
      have hlt47 := ((show Red (cl q) from (cl_red q hq))).lt j
      refine cv ha rfl rfl (fun w ⟨hB, hb4, hb6, hb8, hb20, _⟩ => n_of (r_load ha rfl Tryd.isAgg3 (cell_of hb6 (get_map ei (cl q) 0 j (by rw [(cl_red _ (by rw [hq])).len]; omega)))) (k := tn (cl q) j) ((show Red (cl q) from (cl_red q hq)).tn _)) rfl rfl rfl ?_; clear ha a; intro a ha
      have hmm48 := Nat.mul_le_mul (show tn (cl p) i ≤ 3328 by omega) (show tn (cl q) j ≤ 3328 by omega)
      refine cv ha rfl rfl (fun w _ => rn_mul ha (tn (cl p) i) (tn (cl q) j) rfl rfl (by omega)) rfl rfl rfl ?_; clear ha a; intro a ha
      refine cv ha rfl rfl (fun w _ => rn_rem ha ((tn (cl p) i) * (tn (cl q) j)) 3329 rfl rfl (by omega)) rfl rfl rfl ?_; clear ha a; intro a ha
      refine cv ha rfl rfl (fun w _ => r_assign ha rfl) rfl rfl rfl ?_; clear ha a; intro a ha
      refine cfin (hK44 _ _ ?_); clear hK44 K43
      refine wp_seq_k fun K49 hK50 => ?_
      refine region ?_
      refine sv ha (r_move ha rfl) rfl rfl rfl ?_; clear ha a; intro a ha
      refine sv ha (r_move ha rfl) rfl rfl rfl ?_; clear ha a; intro a ha
      refine sv ha (rn_add ha i j rfl rfl (by omega)) rfl rfl rfl ?_; clear ha a; intro a ha
      refine sv ha (r_lss ha ((i + j : Nat) : Int) 256 (decide (i + j < 256)) rfl rfl (decide_eq_decide.2 (by omega))) rfl rfl rfl ?_; clear ha a; intro a ha
      refine hK50 _ _ ?_; clear hK50 K49
      refine cond_if ha rfl (fun hc51 => ?_) (fun hc51 => ?_)
      · skip
        replace hc51 := of_decide_eq_true hc51
        refine region ?_
        refine sv ha (r_move ha rfl) rfl rfl rfl ?_; clear ha a; intro a ha
        refine sv ha (r_move ha rfl) rfl rfl rfl ?_; clear ha a; intro a ha
        refine sv ha (rn_add ha i j rfl rfl (by omega)) rfl rfl rfl ?_; clear ha a; intro a ha
        refine sv ha (r_move ha rfl) rfl rfl rfl ?_; clear ha a; intro a ha
        refine sv ha (r_move ha rfl) rfl rfl rfl ?_; clear ha a; intro a ha
        refine sv ha (rn_add ha i j rfl rfl (by omega)) rfl rfl rfl ?_; clear ha a; intro a ha
        refine sv ha (r_indexArr (i := i + j) ha (i + j) Tryd.runUnderlying33 Tryd.sizeOf3 rfl rfl (by omega) (by omega)) rfl rfl rfl ?_; clear ha a; intro a ha
        have hlt52 := ((show Red (rprJ (cl p) (cl q) i (rprA (cl p) (cl q) i) j) from (rprJ_red (cl p) (cl q) i (rpr_red (cl p) (cl q) i) j))).lt (i + j)
        refine sv ha (n_of (r_load ha rfl Tryd.isAgg3 (cell_of hb20 (get_map ei (rprJ (cl p) (cl q) i (rprA (cl p) (cl q) i) j) 0 (i + j) (by rw [(rprJ_red _ _ _ (rpr_red _ _ _) _).len]; omega)))) (k := tn (rprJ (cl p) (cl q) i (rprA (cl p) (cl q) i) j) (i + j)) ((show Red (rprJ (cl p) (cl q) i (rprA (cl p) (cl q) i) j) from (rprJ_red (cl p) (cl q) i (rpr_red (cl p) (cl q) i) j)).tn _)) rfl rfl rfl ?_; clear ha a; intro a ha
        refine sv ha (r_move ha rfl) rfl rfl rfl ?_; clear ha a; intro a ha
        refine sv ha (rn_add ha (tn (rprJ (cl p) (cl q) i (rprA (cl p) (cl q) i) j) (i + j)) (((tn (cl p) i) * (tn (cl q) j)) % 3329) rfl rfl (by omega)) rfl rfl rfl ?_; clear ha a; intro a ha
        refine sv ha (rn_rem ha ((tn (rprJ (cl p) (cl q) i (rprA (cl p) (cl q) i) j) (i + j)) + (((tn (cl p) i) * (tn (cl q) j)) % 3329)) 3329 rfl rfl (by omega)) rfl rfl rfl ?_; clear ha a; intro a ha
        refine sv ha (r_indexArr (i := i + j) ha (i + j) Tryd.runUnderlying33 Tryd.sizeOf3 rfl rfl (by omega) (by omega)) rfl rfl rfl ?_; clear ha a; intro a ha
        refine sstore ha (v := ei ((((tn (rprJ (cl p) (cl q) i (rprA (cl p) (cl q) i) j) (i + j)) + (((tn (cl p) i) * (tn (cl q) j)) % 3329)) % 3329 : Nat) : Int)) rfl rfl rfl rfl Tryd.sizeOf3 hb20 (by rw [List.length_map, (rprJ_red _ _ _ (rpr_red _ _ _) _).len]; omega) ?_
        clear ha a; intro a w53 ha hg hb20'
        rw [set_map] at hb20'
        clear hb20; have hb20 := hb20'; clear hb20'
        replace hB := keepB1 hg (by omega) hB
        replace hb4 := keepO1 hg (by omega) hb4
        replace hb6 := keepO1 hg (by omega) hb6
        replace hb8 := keepO1 hg (by omega) hb8
        clear hg
        refine hK42 _ _ ?_; clear hK42 K41
        refine region ?_
        refine sv ha (r_move ha rfl) rfl rfl rfl ?_; clear ha a; intro a ha
        refine sv ha (rn_add ha j 1 rfl rfl (by omega)) rfl rfl rfl ?_; clear ha a; intro a ha
        refine sv ha (r_assign ha rfl) rfl rfl rfl ?_; clear ha a; intro a ha
        exact ⟨j + 1, by omega, (by omega), ha.to [0, 1, 2, 3, 4, 9, 10, 11, 12, 5, 6, 13, 14, 7] rfl, hB, hb4, hb6, hb8, (by first | (rw [rprJ_lt (cl p) (cl q) i (rprA (cl p) (cl q) i) j (by omega)]; exact hb20) | (rw [rprJ_ge (cl p) (cl q) i (rprA (cl p) (cl q) i) j (by omega)]; exact hb20))⟩
      · skip
        replace hc51 := of_decide_eq_false hc51
        refine region ?_
        refine sv ha (r_move ha rfl) rfl rfl rfl ?_; clear ha a; intro a ha
        refine sv ha (r_move ha rfl) rfl rfl rfl ?_; clear ha a; intro a ha
        refine sv ha (rn_add ha i j rfl rfl (by omega)) rfl rfl rfl ?_; clear ha a; intro a ha
        refine sv ha (rn_sub ha (i + j) 256 rfl rfl (by omega) (by omega)) rfl rfl rfl ?_; clear ha a; intro a ha
        refine sv ha (r_move ha rfl) rfl rfl rfl ?_; clear ha a; intro a ha
        refine sv ha (r_move ha rfl) rfl rfl rfl ?_; clear ha a; intro a ha
        refine sv ha (rn_add ha i j rfl rfl (by omega)) rfl rfl rfl ?_; clear ha a; intro a ha
        refine sv ha (rn_sub ha (i + j) 256 rfl rfl (by omega) (by omega)) rfl rfl rfl ?_; clear ha a; intro a ha
        refine sv ha (r_indexArr (i := (i + j) - 256) ha ((i + j) - 256) Tryd.runUnderlying33 Tryd.sizeOf3 rfl rfl (by omega) (by omega)) rfl rfl rfl ?_; clear ha a; intro a ha
        have hlt54 := ((show Red (rprJ (cl p) (cl q) i (rprA (cl p) (cl q) i) j) from (rprJ_red (cl p) (cl q) i (rpr_red (cl p) (cl q) i) j))).lt ((i + j) - 256)
        refine sv ha (n_of (r_load ha rfl Tryd.isAgg3 (cell_of hb20 (get_map ei (rprJ (cl p) (cl q) i (rprA (cl p) (cl q) i) j) 0 ((i + j) - 256) (by rw [(rprJ_red _ _ _ (rpr_red _ _ _) _).len]; omega)))) (k := tn (rprJ (cl p) (cl q) i (rprA (cl p) (cl q) i) j) ((i + j) - 256)) ((show Red (rprJ (cl p) (cl q) i (rprA (cl p) (cl q) i) j) from (rprJ_red (cl p) (cl q) i (rpr_red (cl p) (cl q) i) j)).tn _)) rfl rfl rfl ?_; clear ha a; intro a ha
        refine sv ha (rn_add ha (tn (rprJ (cl p) (cl q) i (rprA (cl p) (cl q) i) j) ((i + j) - 256)) 3329 rfl rfl (by omega)) rfl rfl rfl ?_; clear ha a; intro a ha
        refine sv ha (r_move ha rfl) rfl rfl rfl ?_; clear ha a; intro a ha
        refine sv ha (rn_sub ha ((tn (rprJ (cl p) (cl q) i (rprA (cl p) (cl q) i) j) ((i + j) - 256)) + 3329) (((tn (cl p) i) * (tn (cl q) j)) % 3329) rfl rfl (by omega) (by omega)) rfl rfl rfl ?_; clear ha a; intro a ha
        refine sv ha (rn_rem ha (((tn (rprJ (cl p) (cl q) i (rprA (cl p) (cl q) i) j) ((i + j) - 256)) + 3329) - (((tn (cl p) i) * (tn (cl q) j)) % 3329)) 3329 rfl rfl (by omega)) rfl rfl rfl ?_; clear ha a; intro a ha
        refine sv ha (r_indexArr (i := (i + j) - 256) ha ((i + j) - 256) Tryd.runUnderlying33 Tryd.sizeOf3 rfl rfl (by omega) (by omega)) rfl rfl rfl ?_; clear ha a; intro a ha
        refine sstore ha (v := ei (((((tn (rprJ (cl p) (cl q) i (rprA (cl p) (cl q) i) j) ((i + j) - 256)) + 3329) - (((tn (cl p) i) * (tn (cl q) j)) % 3329)) % 3329 : Nat) : Int)) rfl rfl rfl rfl Tryd.sizeOf3 hb20 (by rw [List.length_map, (rprJ_red _ _ _ (rpr_red _ _ _) _).len]; omega) ?_
        clear ha a; intro a w55 ha hg hb20'
        rw [set_map] at hb20'
        clear hb20; have hb20 := hb20'; clear hb20'
        replace hB := keepB1 hg (by omega) hB
        replace hb4 := keepO1 hg (by omega) hb4
        replace hb6 := keepO1 hg (by omega) hb6
        replace hb8 := keepO1 hg (by omega) hb8
        clear hg
        refine hK42 _ _ ?_; clear hK42 K41
        refine region ?_
        refine sv ha (r_move ha rfl) rfl rfl rfl ?_; clear ha a; intro a ha
        refine sv ha (rn_add ha j 1 rfl rfl (by omega)) rfl rfl rfl ?_; clear ha a; intro a ha
        refine sv ha (r_assign ha rfl) rfl rfl rfl ?_; clear ha a; intro a ha
        exact ⟨j + 1, by omega, (by omega), ha.to [0, 1, 2, 3, 4, 9, 10, 11, 12, 5, 6, 13, 14, 7] rfl, hB, hb4, hb6, hb8, (by first | (rw [rprJ_lt (cl p) (cl q) i (rprA (cl p) (cl q) i) j (by omega)]; exact hb20) | (rw [rprJ_ge (cl p) (cl q) i (rprA (cl p) (cl q) i) j (by omega)]; exact hb20))⟩
    · skip
      replace hc40 := of_decide_eq_false hc40
      refine wp_exit ?_
      obtain rfl : j = 256 := by omega
      refine hK32 _ _ ?_; clear hK37 K36 hK32 K31
      refine region ?_
      refine sv ha (r_move ha rfl) rfl rfl rfl ?_; clear ha a; intro a ha
      refine sv ha (rn_add ha i 1 rfl rfl (by omega)) rfl rfl rfl ?_; clear ha a; intro a ha
      refine sv ha (r_assign ha rfl) rfl rfl rfl ?_; clear ha a; intro a ha
      exact ⟨i + 1, by omega, (by omega), ha.to [0, 1, 2, 3, 4, 9, 10, 11, 12, 5, 6] rfl, hB, hb4, hb6, hb8, hb20⟩
  · skip
    replace hc30 := of_decide_eq_false hc30
    refine wp_exit ?_
    obtain rfl : i = 256 := by omega
    refine hK22 _ _ ?_; clear hK27 K26 hK22 K21
    refine wp_seq_k fun K56 hK57 => ?_
    refine region ?_
    refine sv ha (r_loadR ha rfl Tryd.isAgg33 Tryd.sizeOf33 (C := (rprA (cl p) (cl q) 256).map ei) (by rw [List.length_map, (rpr_red _ _ _).len]) (cells_all hb20)) rfl rfl rfl ?_; clear ha a; intro a ha
    refine sstoreW ha rfl rfl (one_ei _) Tryd.sizeOf33 (by rw [List.length_map, (rpr_red _ _ _).len]) hb8 (by rw [List.length_map, List.length_replicate]) ?_
    clear ha a; intro a w58 ha hg hb8'
    clear hb8; have hb8 := hb8'; clear hb8'
    replace hB := keepB1 hg (by omega) hB
    replace hb4 := keepO1 hg (by omega) hb4
    replace hb6 := keepO1 hg (by omega) hb6
    replace hb20 := keepO1 hg (by omega) hb20
    clear hg
    refine hK57 _ _ ?_; clear hK57 K56
    refine wp_ret ?_
    repeat (first | (with_reducible refine t_ret ?_) | (with_reducible refine x_ret ?_))
    exact retC _ ha Tryd.results49 rfl hb8 Tryd.underlying33 rfl (by rw [List.length_map, (rpr_red _ _ _).len]; kernel_rfl) ⟨(by rw [prd_eq p q hp hq]), hB⟩

theorem zero_34Z6 : ∀ w, (zeroValue 34).run Tryd.prog w = .ok (.agg ((List.replicate 256 (0 : Int)).map ei).toArray) w := fun _ => by kernel_rfl
theorem law_NttProducts (p q : List Int) (w0 : World) (hp : p.length = 256) (hq : q.length = 256) (hG : Glob w0) :
    Calls Tryd.prog 15 #[.agg ((p).map ei).toArray, .agg ((q).map ei).toArray] w0 fun e w' => e = .returned (.bool true) ∧ Below w0.heap.size w0 w' := by
  refine enter (args := [_, _]) Tryd.func15 rfl Tryd.ntmps15 rfl ?_
  intro a ha
  have hB := Below.refl w0.heap.size w0
  refine wp_seq_k fun K1 hK2 => ?_
  refine region ?_
  refine sbox ha rfl rfl ?_
  clear ha a; intro a w3 b4 ha hg hb4 hge4 hlt4
  have hz4 : w0.heap.size ≤ b4 := Nat.le_trans hB.size hge4
  replace hB := keepB0 hg hB
  clear hg hge4 hlt4
  refine sbox ha rfl rfl ?_
  clear ha a; intro a w5 b6 ha hg hb6 hge6 hlt6
  have hz6 : w0.heap.size ≤ b6 := Nat.le_trans hB.size hge6
  have hq4_6 : b4 < b6 := Nat.lt_of_lt_of_le (lt_of_block hb4) hge6
  replace hB := keepB0 hg hB
  replace hb4 := keepO0 hg hb4
  clear hg hge6 hlt6
  refine sv ha (r_assign ha rfl) rfl rfl rfl ?_; clear ha a; intro a ha
  refine hK2 _ _ ?_; clear hK2 K1
  refine wp_seq_k fun K7 hK8 => ?_
  refine region ?_
  refine sc ha (r_call ha [] rfl Tryd.call35) rfl rfl rfl (c_awake11  _ (glob_keep hG hB)) ?_
  clear ha a
  rintro e w9 ⟨rfl, hBc⟩
  have hg := grown_call hBc; clear hBc
  replace hB := keepB0 hg hB
  replace hb4 := keepO0 hg hb4
  replace hb6 := keepO0 hg hb6
  clear hg
  refine ⟨_, rfl, ?_⟩; intro a ha
  refine sv ha (r_assign ha rfl) rfl rfl rfl ?_; clear ha a; intro a ha
  refine hK8 _ _ ?_; clear hK8 K7
  refine wp_seq_k fun K10 hK11 => ?_
  refine wp_seq_k fun K12 hK13 => ?_
  refine region ?_
  refine sv ha (r_move ha rfl) rfl rfl rfl ?_; clear ha a; intro a ha
  refine sv ha (r_not ha true false rfl rfl) rfl rfl rfl ?_; clear ha a; intro a ha
  refine hK13 _ _ ?_; clear hK13 K12
  refine cond_f ha rfl ?_
  refine wp_skip ?_
  refine hK11 _ _ ?_; clear hK11 K10
  refine wp_seq_k fun K14 hK15 => ?_
  refine region ?_
  refine sv ha (r_loadR ha rfl Tryd.isAgg33 Tryd.sizeOf33 (C := (p).map ei) (by rw [List.length_map, hp]) (cells_all hb4)) rfl rfl rfl ?_; clear ha a; intro a ha
  refine sv ha (r_loadR ha rfl Tryd.isAgg33 Tryd.sizeOf33 (C := (q).map ei) (by rw [List.length_map, hq]) (cells_all hb6)) rfl rfl rfl ?_; clear ha a; intro a ha
  refine sc ha (r_call ha [.agg ((p).map ei).toArray, .agg ((q).map ei).toArray] rfl Tryd.call48) rfl rfl rfl (c_prod p q _ (by rw [hp]) (by rw [hq]) (glob_keep hG hB)) ?_
  clear ha a
  rintro e w16 ⟨rfl, hBc⟩
  have hg := grown_call hBc; clear hBc
  replace hB := keepB0 hg hB
  replace hb4 := keepO0 hg hb4
  replace hb6 := keepO0 hg hb6
  clear hg
  refine ⟨_, rfl, ?_⟩; intro a ha
  refine salloc ha zero_34Z6 rfl ?_
  clear ha a; intro a w17 b18 ha hg hb18 hge18 hlt18
  have hz18 : w0.heap.size ≤ b18 := Nat.le_trans hB.size hge18
  have hq4_18 : b4 < b18 := Nat.lt_of_lt_of_le (lt_of_block hb4) hge18
  have hq6_18 : b6 < b18 := Nat.lt_of_lt_of_le (lt_of_block hb6) hge18
  replace hB := keepB0 hg hB
  replace hb4 := keepO0 hg hb4
  replace hb6 := keepO0 hg hb6
  clear hg hge18 hlt18
  refine sstoreW ha rfl rfl (one_ei _) Tryd.sizeOf34 (by rw [List.length_map, (prd_red _ _).len]) hb18 (by rw [List.length_map, List.length_replicate]) ?_
  clear ha a; intro a w19 ha hg hb18'
  clear hb18; have hb18 := hb18'; clear hb18'
  replace hB := keepB1 hg (by omega) hB
  replace hb4 := keepO1 hg (by omega) hb4
  replace hb6 := keepO1 hg (by omega) hb6
  clear hg
  refine hK15 _ _ ?_; clear hK15 K14
  refine wp_seq_k fun K20 hK21 => ?_
  refine regionD (S := fun w => Below w0.heap.size w0 w ∧ w.heap[b4]? = some (.cells ((p).map ei).toArray 33 (0, 0)) ∧ w.heap[b6]? = some (.cells ((q).map ei).toArray 33 (0, 0)) ∧ w.heap[b18]? = some (.cells ((prd p q).map ei).toArray 34 (0, 0)) ∧ True) [] [0, 1, 2, 4, 5, 6, 8, 10, 13, 14, 15] [0, 1, 2, 3, 4, 5, 6, 8, 10, 7, 9, 11, 12, 13, 14, 15] mixed (by kernel_rfl) (fun w hg => ⟨keepB0 hg hB, keepO0 hg hb4, keepO0 hg hb6, keepO0 hg hb18, trivial⟩) ?_
  intro w22 hg
  replace hB := keepB0 hg hB
  replace hb4 := keepO0 hg hb4
  replace hb6 := keepO0 hg hb6
  replace hb18 := keepO0 hg hb18
  clear hg
  refine cv ha rfl rfl (fun w ⟨hB, hb4, hb6, hb18, _⟩ => r_loadR ha rfl Tryd.isAgg34 Tryd.sizeOf34 (C := (prd p q).map ei) (by rw [List.length_map, (prd_red _ _).len]) (cells_all hb18)) rfl rfl rfl ?_; clear ha a; intro a ha
  refine cv ha rfl rfl (fun w ⟨hB, hb4, hb6, hb18, _⟩ => r_loadR ha rfl Tryd.isAgg33 Tryd.sizeOf33 (C := (p).map ei) (by rw [List.length_map, hp]) (cells_all hb4)) rfl rfl rfl ?_; clear ha a; intro a ha
  refine cv ha rfl rfl (fun w ⟨hB, hb4, hb6, hb18, _⟩ => r_loadR ha rfl Tryd.isAgg33 Tryd.sizeOf33 (C := (q).map ei) (by rw [List.length_map, hq]) (cells_all hb6)) rfl rfl rfl ?_; clear ha a; intro a ha
  refine cc ha rfl rfl (r_call ha [.agg ((p).map ei).toArray, .agg ((q).map ei).toArray] rfl Tryd.call49) rfl rfl rfl (c_rprod p q _ (by rw [hp]) (by rw [hq])) ?_
  clear ha a
  rintro e w23 ⟨rfl, hBc⟩
  have hg := grown_call hBc; clear hBc
  replace hB := keepB0 hg hB
  replace hb4 := keepO0 hg hb4
  replace hb6 := keepO0 hg hb6
  replace hb18 := keepO0 hg hb18
  clear hg
  refine ⟨fun _ => ⟨hB, hb4, hb6, hb18, trivial⟩, _, rfl, ?_⟩; intro a ha
  refine cv ha rfl rfl (fun w _ => r_eqA (f := (fun z : Int => z)) (fun x y h => h) (prd p q) (prd p q) ha rfl rfl (by rw [(prd_red _ _).len]) (by rw [(prd_red _ _).len]) Tryd.eqGuardType34 Tryd.runUnderlying34 Tryd.sizeOf3 Tryd.underlying3 Tryd.isAgg3 true (decide_eq_true rfl)) rfl rfl rfl ?_; clear ha a; intro a ha
  refine cv ha rfl rfl (fun w _ => r_move ha rfl) rfl rfl rfl ?_; clear ha a; intro a ha
  refine cvg ha rfl rfl (fun w ⟨hB, hb4, hb6, hb18, _⟩ => r_loadR ha rfl Tryd.isAgg34 Tryd.sizeOf34 (C := (prd p q).map ei) (by rw [List.length_map, (prd_red _ _).len]) (cells_all hb18)) rfl rfl rfl rfl rfl ?_; clear ha a; intro a ha
  refine cvg ha rfl rfl (fun w ⟨hB, hb4, hb6, hb18, _⟩ => r_loadR ha rfl Tryd.isAgg33 Tryd.sizeOf33 (C := (p).map ei) (by rw [List.length_map, hp]) (cells_all hb4)) rfl rfl rfl rfl rfl ?_; clear ha a; intro a ha
  refine cvg ha rfl rfl (fun w ⟨hB, hb4, hb6, hb18, _⟩ => r_loadR ha rfl Tryd.isAgg33 Tryd.sizeOf33 (C := (q).map ei) (by rw [List.length_map, hq]) (cells_all hb6)) rfl rfl rfl rfl rfl ?_; clear ha a; intro a ha
  refine ccg ha rfl rfl (r_call ha [.agg (((prd p q)).map ei).toArray] rfl Tryd.call42) rfl rfl rfl rfl rfl (c_fwd (prd p q) _ (by rw [(prd_red _ _).len]) (glob_keep hG hB)) ?_
  clear ha a
  rintro e w24 ⟨rfl, hBc⟩
  have hg := grown_call hBc; clear hBc
  replace hB := keepB0 hg hB
  replace hb4 := keepO0 hg hb4
  replace hb6 := keepO0 hg hb6
  replace hb18 := keepO0 hg hb18
  clear hg
  refine ⟨fun _ => ⟨hB, hb4, hb6, hb18, trivial⟩, _, rfl, ?_⟩; intro a ha
  refine ccg ha rfl rfl (r_call ha [.agg ((p).map ei).toArray] rfl Tryd.call42) rfl rfl rfl rfl rfl (c_fwd p _ (by rw [hp]) (glob_keep hG hB)) ?_
  clear ha a
  rintro e w25 ⟨rfl, hBc⟩
  have hg := grown_call hBc; clear hBc
  replace hB := keepB0 hg hB
  replace hb4 := keepO0 hg hb4
  replace hb6 := keepO0 hg hb6
  replace hb18 := keepO0 hg hb18
  clear hg
  refine ⟨fun _ => ⟨hB, hb4, hb6, hb18, trivial⟩, _, rfl, ?_⟩; intro a ha
  refine ccg ha rfl rfl (r_call ha [.agg ((q).map ei).toArray] rfl Tryd.call42) rfl rfl rfl rfl rfl (c_fwd q _ (by rw [hq]) (glob_keep hG hB)) ?_
  clear ha a
  rintro e w26 ⟨rfl, hBc⟩
  have hg := grown_call hBc; clear hBc
  replace hB := keepB0 hg hB
  replace hb4 := keepO0 hg hb4
  replace hb6 := keepO0 hg hb6
  replace hb18 := keepO0 hg hb18
  clear hg
  refine ⟨fun _ => ⟨hB, hb4, hb6, hb18, trivial⟩, _, rfl, ?_⟩; intro a ha
  refine ccg ha rfl rfl (r_call ha [.agg (((fwd p)).map ei).toArray, .agg (((fwd q)).map ei).toArray] rfl Tryd.call46) rfl rfl rfl rfl rfl (c_times (fwd p) (fwd q) _ (by rw [(fwd_red _ (by rw [hp])).len]) (by rw [(fwd_red _ (by rw [hq])).len]) (glob_keep hG hB)) ?_
  clear ha a
  rintro e w27 ⟨rfl, hBc⟩
  have hg := grown_call hBc; clear hBc
  replace hB := keepB0 hg hB
  replace hb4 := keepO0 hg hb4
  replace hb6 := keepO0 hg hb6
  replace hb18 := keepO0 hg hb18
  clear hg
  refine ⟨fun _ => ⟨hB, hb4, hb6, hb18, trivial⟩, _, rfl, ?_⟩; intro a ha
  refine cvg ha rfl rfl (fun w _ => r_eqA (f := (fun z : Int => z)) (fun x y h => h) (fwd (prd p q)) (tms (fwd p) (fwd q)) ha rfl rfl (by rw [(fwd_red _ (by rw [(prd_red _ _).len])).len]) (by rw [(tms_red _ _).len]) Tryd.eqGuardType34 Tryd.runUnderlying34 Tryd.sizeOf3 Tryd.underlying3 Tryd.isAgg3 true (decide_eq_true (fwd_prd p q))) rfl rfl rfl rfl rfl ?_; clear ha a; intro a ha
  refine cv ha rfl rfl (fun w _ => r_pick ha true rfl rfl) rfl rfl rfl ?_; clear ha a; intro a ha
  refine cv ha rfl rfl (fun w _ => r_assign ha rfl) rfl rfl rfl ?_; clear ha a; intro a ha
  refine cfin (hK21 _ _ ?_); clear hK21 K20
  refine wp_ret ?_
  repeat (first | (with_reducible refine t_ret ?_) | (with_reducible refine x_ret ?_))
  exact ret1 ha Tryd.results15 rfl ⟨rfl, hB⟩
end Go.Proofs.YtdiddkcoihpnhaaDoor
