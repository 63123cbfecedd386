/- WALKS written by gen.py (own program) out of specs. -/
import Derived.Test.YtaignhikdfpbbaaDoorQ4
import Derived.Test.YtaignhikdfpbbaaDoorSe
namespace Go.Proofs.YtaignhikdfpbbaaDoor
open Go.RowKit Go.Rx
set_option maxRecDepth 100000
set_option maxHeartbeats 4000000
set_option linter.unusedVariables false
set_option linter.unusedSimpArgs false

theorem c_rabsN (r : Nat) (s : UInt8) (v : Value) (b : List UInt8) (w0 : World) (hr : 1 ≤ r ∧ r ≤ 200) (hs : Sl w0 v (b.map e8)) (hb : b.length ≤ 100000) :
    Calls Tryd.prog 32 #[en r, e8 s, v] w0 fun e w' => ∃ u0 : Value, e = .returned (u0) ∧ Below w0.heap.size w0 w' ∧ Sl w' u0 ((rabA r s b (nbk b r)).map e64) ∧ (∀ j, u0.ownBlock = some j → w0.heap.size ≤ j) := by
  refine enter (args := [_, _, _]) Tryd.func32 rfl Tryd.ntmps32 rfl ?_
  intro a ha
  have hB := Below.refl w0.heap.size w0
  have hr1 : 1 ≤ r := hr.1
  refine wp_seq_k fun K1 hK2 => ?_
  refine region ?_
  refine sv ha (r_assign ha rfl) rfl rfl rfl ?_; clear ha a; intro a ha
  refine hK2 _ _ ?_; clear hK2 K1
  refine wp_seq_k fun K3 hK4 => ?_
  refine region ?_
  refine smake (k := 25) ha rfl rfl Tryd.underlying54 rfl rfl rfl rfl (show 8 * _ ≤ _ by omega) (by omega) rfl ?_
  clear ha a; intro a w5 b6 ha hg hb6 hge6 hlt6
  have hz6 : w0.heap.size ≤ b6 := Nat.le_trans hB.size hge6
  replace hB := keepB0 hg hB
  clear hg hge6 hlt6
  rw [show (List.replicate 25 (Value.int .u64 0)) = (List.replicate 25 (0 : UInt64)).map e64 by rw [List.map_replicate]; rfl] at hb6
  refine sv ha (r_assign ha rfl) rfl rfl rfl ?_; clear ha a; intro a ha
  refine hK4 _ _ ?_; clear hK4 K3
  refine wp_seq_k fun K7 hK8 => ?_
  refine wp_seq_k fun K9 hK10 => ?_
  refine region ?_
  refine sv ha (r_move ha rfl) rfl rfl rfl ?_; clear ha a; intro a ha
  refine sv ha (r_lss ha ((r : Nat) : Int) 1 false rfl rfl (decide_eq_false (by omega))) rfl rfl rfl ?_; clear ha a; intro a ha
  refine sv ha (r_move ha rfl) rfl rfl rfl ?_; clear ha a; intro a ha
  refine svg ha (r_move ha rfl) rfl rfl rfl rfl rfl ?_; clear ha a; intro a ha
  refine svg ha (r_gtr ha ((r : Nat) : Int) 200 false rfl rfl (decide_eq_false (by omega))) rfl rfl rfl rfl rfl ?_; clear ha a; intro a ha
  refine sv ha (r_pick ha false rfl rfl) rfl rfl rfl ?_; clear ha a; intro a ha
  refine hK10 _ _ ?_; clear hK10 K9
  refine cond_f ha rfl ?_
  refine wp_skip ?_
  refine hK8 _ _ ?_; clear hK8 K7
  refine wp_seq_k fun K11 hK12 => ?_
  refine region ?_
  refine sv ha (r_assign ha rfl) rfl rfl rfl ?_; clear ha a; intro a ha
  refine hK12 _ _ ?_; clear hK12 K11
  refine wp_seq_k fun K13 hK14 => ?_
  refine region ?_
  refine sv ha (r_move ha rfl) rfl rfl rfl ?_; clear ha a; intro a ha
  refine sv ha (r_move ha rfl) rfl rfl rfl ?_; clear ha a; intro a ha
  refine sapp (C := (([] : List UInt8)).map e8) (D := (b).map e8) ha rfl rfl Tryd.underlying22 rfl rfl rfl rfl (World.ownsRow_nil w5 w0.heap.size 5 1) (hs.below hB) (one_e8 _) (by simp only [List.length_map]; show _ * 1 ≤ _; omega) (by simp only [List.length_map]; omega) hB.size rfl ?_
  clear ha a; intro a w16 v15 ha hg ho15 hnl15 hpl15
  rw [← List.map_append, List.length_map] at ho15
  rw [List.nil_append, Nat.zero_add] at ho15
  have hg : World.grownBy w5 w16 none := hg
  have hne_15_b6 : ∀ j, v15.ownBlock = some j → j ≠ b6 := fun j hj => (hpl15 j hj).elim (fun h => by simp [Value.ownBlock] at h) (fun h => by have := lt_of_block hb6; omega)
  replace hB := keepB0 hg hB
  replace hb6 := keepO0 hg hb6
  clear hg
  refine sv ha (r_assign ha rfl) rfl rfl rfl ?_; clear ha a; intro a ha
  refine hK14 _ _ ?_; clear hK14 K13
  refine wp_seq_k fun K17 hK18 => ?_
  refine region ?_
  refine sv ha (r_move ha rfl) rfl rfl rfl ?_; clear ha a; intro a ha
  refine sv ha (r_move ha rfl) rfl rfl rfl ?_; clear ha a; intro a ha
  refine sbuildS ha [(0, e8 s)] (([s] : List UInt8).map e8) rfl Tryd.runUnderlying22 Tryd.sizeOf5 Tryd.zeroValue5 rfl rfl rfl rfl rfl ?_
  clear ha a; intro a w19 b20 ha hg hb20 hge20 hlt20
  have hz20 : w0.heap.size ≤ b20 := Nat.le_trans hB.size hge20
  have hne_ho15_b20 : ∀ j, Value.ownBlock v15 = some j → j ≠ b20 := fun j hj => by have := (ho15.lt j hj).2; omega
  have hq6_20 : b6 < b20 := Nat.lt_of_lt_of_le (lt_of_block hb6) hge20
  replace hB := keepB0 hg hB
  replace hb6 := keepO0 hg hb6
  replace ho15 := keepW0 hg ho15
  clear hg hge20 hlt20
  refine sapp (C := (b).map e8) (D := (([s] : List UInt8)).map e8) ha rfl rfl Tryd.underlying22 rfl rfl rfl rfl ho15 (Sl.ofBlockM hb20 (by rw [show ([s] : List UInt8).length = 1 from rfl]) (by omega)) (one_e8 _) (by simp only [List.length_map, show ([s] : List UInt8).length = 1 from rfl]; show _ * 1 ≤ _; omega) (by simp only [List.length_map, show ([s] : List UInt8).length = 1 from rfl]; omega) hB.size rfl ?_
  clear ha a; intro a w22 v21 ha hg ho21 hnl21 hpl21
  rw [← List.map_append, List.length_map, show ([s] : List UInt8).length = 1 from rfl] at ho21
  rw [List.length_map, show ([s] : List UInt8).length = 1 from rfl] at hnl21
  have hne_21_b6 : ∀ j, v21.ownBlock = some j → j ≠ b6 := fun j hj => (hpl21 j hj).elim (fun h => hne_15_b6 j h) (fun h => by have := lt_of_block hb6; omega)
  have hne_21_b20 : ∀ j, v21.ownBlock = some j → j ≠ b20 := fun j hj => (hpl21 j hj).elim (fun h => hne_ho15_b20 j h) (fun h => by have := lt_of_block hb20; omega)
  replace hB := keepBR hg (own_row ho15) hB
  replace hb6 := keepOR hg (ne_of_ap hne_15_b6) hb6
  replace hb20 := keepOR hg (ne_of_ap hne_ho15_b20) hb20
  clear hg
  refine sv ha (r_assign ha rfl) rfl rfl rfl ?_; clear ha a; intro a ha
  refine hK18 _ _ ?_; clear hK18 K17
  refine wp_seq_k fun K23 hK24 => ?_
  refine wp_block ?_
  refine loopG (fun (j : Nat) a w => ∃ vp : Value, (j ≤ (padN (b.length + 1) r)) ∧ (∀ j, vp.ownBlock = some j → j ≠ b6) ∧ (∀ j, vp.ownBlock = some j → j ≠ b20) ∧ Has 79 [(0, en r), (1, e8 s), (2, v), (6, .slice none 0 0), (12, .slice (some ⟨b6, 0, none⟩) 25 25), (7, .slice (some ⟨b6, 0, none⟩) 25 25), (13, en r), (14, .bool false), (15, .bool false), (16, en r), (17, .bool false), (18, .bool false), (20, .slice none 0 0), (21, v), (22, v15), (23, v15), (24, e8 s), (25, .slice (some ⟨b20, 0, none⟩) 1 1), (26, v21), (8, vp)] a ∧ Below w0.heap.size w0 w ∧ w.heap[b6]? = some (.cells ((List.replicate 25 (0 : UInt64)).map e64).toArray 83 (0, 0)) ∧ w.heap[b20]? = some (.cells ((([s] : List UInt8)).map e8).toArray 5 (0, 0)) ∧ w.ownsRow w0.heap.size 5 1 vp ((b ++ [s]) ++ List.replicate j (0 : UInt8)).length (((b ++ [s]) ++ List.replicate j (0 : UInt8)).map e8)) (fun j => (padN (b.length + 1) r) - j) 0 ⟨v21, (by omega), hne_21_b6, hne_21_b20, ha.to [0, 1, 2, 6, 12, 7, 13, 14, 15, 16, 17, 18, 20, 21, 22, 23, 24, 25, 26, 8] rfl, hB, hb6, hb20, (own_castl (own_len ho21) (by rw [List.replicate_zero, List.append_nil]))⟩ ?_
  clear ha a hB hb6 hb20 ho21
  intro j a w25 ⟨vp, hkj, hnb_vp_b6, hnb_vp_b20, ha, hB, hb6, hb20, hovp⟩
  have hpad := padN_iff (b.length + 1) r j hr1 hkj
  have hpn : padN (b.length + 1) r < r := Nat.mod_lt _ (by omega)
  refine wp_seq_k fun K26 hK27 => ?_
  refine wp_seq_k fun K28 hK29 => ?_
  refine region ?_
  refine sv ha (r_move ha rfl) rfl rfl rfl ?_; clear ha a; intro a ha
  refine sv ha (v_of (r_lenS ha Tryd.runUnderlying22 (Sl.ofOwns hovp) rfl (by rw [List.length_map])) (congrArg en (pre_len b s j : ((b ++ [s]) ++ List.replicate j (0 : UInt8)).length = b.length + 1 + j))) rfl rfl rfl ?_; clear ha a; intro a ha
  refine sv ha (r_move ha rfl) rfl rfl rfl ?_; clear ha a; intro a ha
  refine sv ha (rn_rem ha (b.length + 1 + j) r rfl rfl (by omega)) rfl rfl rfl ?_; clear ha a; intro a ha
  refine sv ha (r_neq ha (((b.length + 1 + j) % r : Nat) : Int) 0 (decide ((b.length + 1 + j) % r ≠ 0)) rfl rfl (decide_eq_decide.2 (by omega))) rfl rfl rfl ?_; clear ha a; intro a ha
  refine hK29 _ _ ?_; clear hK29 K28
  refine cond_if ha rfl (fun hc30 => ?_) (fun hc30 => ?_)
  · skip
    replace hc30 := of_decide_eq_true hc30
    refine wp_skip ?_
    refine hK27 _ _ ?_; clear hK27 K26
    refine wp_block ?_
    refine region ?_
    refine sv ha (r_move ha rfl) rfl rfl rfl ?_; clear ha a; intro a ha
    refine sbuildS ha [(0, .int .u8 0)] (([(0 : UInt8)] : List UInt8).map e8) rfl Tryd.runUnderlying22 Tryd.sizeOf5 Tryd.zeroValue5 rfl rfl rfl rfl rfl ?_
    clear ha a; intro a w31 b32 ha hg hb32 hge32 hlt32
    have hz32 : w0.heap.size ≤ b32 := Nat.le_trans hB.size hge32
    have hne_hovp_b32 : ∀ j, Value.ownBlock vp = some j → j ≠ b32 := fun j hj => by have := (hovp.lt j hj).2; omega
    have hq6_32 : b6 < b32 := Nat.lt_of_lt_of_le (lt_of_block hb6) hge32
    have hq20_32 : b20 < b32 := Nat.lt_of_lt_of_le (lt_of_block hb20) hge32
    replace hB := keepB0 hg hB
    replace hb6 := keepO0 hg hb6
    replace hb20 := keepO0 hg hb20
    replace hovp := keepW0 hg hovp
    clear hg hge32 hlt32
    refine sapp (C := (((b ++ [s]) ++ List.replicate j (0 : UInt8))).map e8) (D := (([(0 : UInt8)] : List UInt8)).map e8) ha rfl rfl Tryd.underlying22 rfl rfl rfl rfl hovp (Sl.ofBlockM hb32 (by rw [show ([(0 : UInt8)] : List UInt8).length = 1 from rfl]) (by omega)) (one_e8 _) (by simp only [List.length_map, List.length_cons, List.length_nil]; show _ * 1 ≤ _; have := pre_len b s j; omega) (by simp only [List.length_map, List.length_cons, List.length_nil]; have := pre_len b s j; omega) hB.size rfl ?_
    clear ha a; intro a w34 v33 ha hg ho33 hnl33 hpl33
    rw [← List.map_append, List.length_map, show ([(0 : UInt8)] : List UInt8).length = 1 from rfl] at ho33
    rw [List.length_map, show ([(0 : UInt8)] : List UInt8).length = 1 from rfl] at hnl33
    have hne_33_b6 : ∀ j, v33.ownBlock = some j → j ≠ b6 := fun j hj => (hpl33 j hj).elim (fun h => hnb_vp_b6 j h) (fun h => by have := lt_of_block hb6; omega)
    have hne_33_b20 : ∀ j, v33.ownBlock = some j → j ≠ b20 := fun j hj => (hpl33 j hj).elim (fun h => hnb_vp_b20 j h) (fun h => by have := lt_of_block hb20; omega)
    have hne_33_b32 : ∀ j, v33.ownBlock = some j → j ≠ b32 := fun j hj => (hpl33 j hj).elim (fun h => hne_hovp_b32 j h) (fun h => by have := lt_of_block hb32; omega)
    replace hB := keepBR hg (own_row hovp) hB
    replace hb6 := keepOR hg (ne_of_ap hnb_vp_b6) hb6
    replace hb20 := keepOR hg (ne_of_ap hnb_vp_b20) hb20
    replace hb32 := keepOR hg (ne_of_ap hne_hovp_b32) hb32
    clear hg
    replace ho33 := own_castl (own_len ho33) (pre_step b s j)
    refine sv ha (r_assign ha rfl) rfl rfl rfl ?_; clear ha a; intro a ha
    exact ⟨j + 1, by omega, v33, (by omega), hne_33_b6, hne_33_b20, ha.to [0, 1, 2, 6, 12, 7, 13, 14, 15, 16, 17, 18, 20, 21, 22, 23, 24, 25, 26, 8] rfl, hB, hb6, hb20, (own_castl (own_len ho33) rfl)⟩
  · skip
    replace hc30 := of_decide_eq_false hc30
    refine wp_exit ?_
    obtain rfl : j = (padN (b.length + 1) r) := by omega
    refine hK24 _ _ ?_; clear hK27 K26 hK24 K23
    refine wp_seq_k fun K35 hK36 => ?_
    refine region ?_
    refine sv ha (r_move ha rfl) rfl rfl rfl ?_; clear ha a; intro a ha
    refine sv ha (r_move ha rfl) rfl rfl rfl ?_; clear ha a; intro a ha
    refine sv ha (v_of (r_lenS ha Tryd.runUnderlying22 (Sl.ofOwns hovp) rfl (by rw [List.length_map])) (congrArg en (pre_len b s _ : ((b ++ [s]) ++ List.replicate (padN (b.length + 1) r) (0 : UInt8)).length = b.length + 1 + padN (b.length + 1) r))) rfl rfl rfl ?_; clear ha a; intro a ha
    refine sv ha (rn_sub ha (b.length + 1 + padN (b.length + 1) r) 1 rfl rfl (by omega) (by omega)) rfl rfl rfl ?_; clear ha a; intro a ha
    refine sv ha (r_move ha rfl) rfl rfl rfl ?_; clear ha a; intro a ha
    refine sv ha (r_move ha rfl) rfl rfl rfl ?_; clear ha a; intro a ha
    refine sv ha (v_of (r_lenS ha Tryd.runUnderlying22 (Sl.ofOwns hovp) rfl (by rw [List.length_map])) (congrArg en (pre_len b s _ : ((b ++ [s]) ++ List.replicate (padN (b.length + 1) r) (0 : UInt8)).length = b.length + 1 + padN (b.length + 1) r))) rfl rfl rfl ?_; clear ha a; intro a ha
    refine sv ha (rn_sub ha (b.length + 1 + padN (b.length + 1) r) 1 rfl rfl (by omega) (by omega)) rfl rfl rfl ?_; clear ha a; intro a ha
    refine sv ha (r_indexS (i := (b.length + 1 + padN (b.length + 1) r) - 1) ha Tryd.runUnderlying22 Tryd.sizeOf5 (Sl.ofOwns hovp) (C := ((b ++ [s]) ++ List.replicate (padN (b.length + 1) r) (0 : UInt8)).map e8) rfl rfl (by rw [List.length_map, pre_len b s _]; omega)) rfl rfl rfl ?_; clear ha a; intro a ha
    refine sv ha (r_loadS ha rfl Tryd.isAgg5 (Sl.ofOwns hovp) (get_map e8 ((b ++ [s]) ++ List.replicate (padN (b.length + 1) r) (0 : UInt8)) 0 ((b.length + 1 + padN (b.length + 1) r) - 1) (by rw [pre_len b s _]; omega))) rfl rfl rfl ?_; clear ha a; intro a ha
    refine sv ha (rb_xor ha (((b ++ [s]) ++ List.replicate (padN (b.length + 1) r) (0 : UInt8)).getD ((b.length + 1 + padN (b.length + 1) r) - 1) 0) (128 : UInt8) rfl rfl) rfl rfl rfl ?_; clear ha a; intro a ha
    refine sv ha (r_indexS (i := (b.length + 1 + padN (b.length + 1) r) - 1) ha Tryd.runUnderlying22 Tryd.sizeOf5 (Sl.ofOwns hovp) (C := ((b ++ [s]) ++ List.replicate (padN (b.length + 1) r) (0 : UInt8)).map e8) rfl rfl (by rw [List.length_map, pre_len b s _]; omega)) rfl rfl rfl ?_; clear ha a; intro a ha
    refine sstoreO ha (v := e8 ((((b ++ [s]) ++ List.replicate (padN (b.length + 1) r) (0 : UInt8)).getD ((b.length + 1 + padN (b.length + 1) r) - 1) 0) ^^^ (128 : UInt8))) rfl rfl rfl rfl Tryd.sizeOf5 hovp (by rw [List.length_map, pre_len b s _]; omega) ?_
    clear ha a; intro a w37 ha hg hovp'
    rw [set_map] at hovp'
    replace hB := keepBR hg (own_row hovp) hB
    replace hb6 := keepOR hg (ne_of_ap hnb_vp_b6) hb6
    replace hb20 := keepOR hg (ne_of_ap hnb_vp_b20) hb20
    clear hg; clear hovp; have hovp := hovp'; clear hovp'
    replace hovp := own_castl (own_len hovp) (show ((b ++ [s]) ++ List.replicate (padN (b.length + 1) r) (0 : UInt8)).set ((b.length + 1 + padN (b.length + 1) r) - 1) ((((b ++ [s]) ++ List.replicate (padN (b.length + 1) r) (0 : UInt8)).getD ((b.length + 1 + padN (b.length + 1) r) - 1) 0) ^^^ (128 : UInt8)) = rpad r s b from rfl)
    refine hK36 _ _ ?_; clear hK36 K35
    refine wp_seq_k fun K38 hK39 => ?_
    refine wp_seq_k fun K40 hK41 => ?_
    refine region ?_
    refine sv ha (r_assign ha rfl) rfl rfl rfl ?_; clear ha a; intro a ha
    refine hK41 _ _ ?_; clear hK41 K40
    refine wp_block ?_
    have hnb : nbk b r * r ≤ 200000 := by rw [← rpad_nb r s b hr1, rpad_len]; have := Nat.mod_lt (r - (b.length + 1) % r) (show 0 < r by omega); unfold padN; omega
    refine loopG (fun (m : Nat) a w => ∃ va : Value, (m ≤ (nbk b r)) ∧ (∀ j, va.ownBlock = some j → w0.heap.size ≤ j) ∧ (∀ j, va.ownBlock = some j → j ≠ b20) ∧ (∀ j, va.ownBlock = some j → vp.ownBlock ≠ some j) ∧ Has 79 [(0, en r), (1, e8 s), (2, v), (6, .slice none 0 0), (12, .slice (some ⟨b6, 0, none⟩) 25 25), (13, en r), (14, .bool false), (15, .bool false), (16, en r), (17, .bool false), (18, .bool false), (20, .slice none 0 0), (21, v), (22, v15), (23, v15), (24, e8 s), (25, .slice (some ⟨b20, 0, none⟩) 1 1), (26, v21), (8, vp), (27, vp), (28, en (b.length + 1 + (padN (b.length + 1) r))), (29, en r), (30, en ((b.length + 1 + (padN (b.length + 1) r)) % r)), (31, .bool (decide ((b.length + 1 + (padN (b.length + 1) r)) % r ≠ 0))), (35, vp), (36, vp), (37, en (b.length + 1 + padN (b.length + 1) r)), (38, en ((b.length + 1 + padN (b.length + 1) r) - 1)), (39, vp), (40, vp), (41, en (b.length + 1 + padN (b.length + 1) r)), (42, en ((b.length + 1 + padN (b.length + 1) r) - 1)), (43, ptrOf vp ((b.length + 1 + padN (b.length + 1) r) - 1)), (44, e8 (((b ++ [s]) ++ List.replicate (padN (b.length + 1) r) (0 : UInt8)).getD ((b.length + 1 + padN (b.length + 1) r) - 1) 0)), (45, e8 ((((b ++ [s]) ++ List.replicate (padN (b.length + 1) r) (0 : UInt8)).getD ((b.length + 1 + padN (b.length + 1) r) - 1) 0) ^^^ (128 : UInt8))), (46, ptrOf vp ((b.length + 1 + padN (b.length + 1) r) - 1)), (9, en (m * r)), (7, va)] a ∧ Below w0.heap.size w0 w ∧ w.heap[b20]? = some (.cells ((([s] : List UInt8)).map e8).toArray 5 (0, 0)) ∧ w.ownsRow w0.heap.size 5 1 vp ((rpad r s b).length) ((rpad r s b).map e8) ∧ Sl w va ((rabA r s b m).map e64)) (fun m => (nbk b r) - m) 0 ⟨.slice (some ⟨b6, 0, none⟩) 25 25, (Nat.zero_le _), (fun j hj => by cases hj; exact hz6), (fun j hj => by simp only [Value.ownBlock, Option.some.injEq] at hj; omega), (fun j h1 h2 => by cases h1; exact hnb_vp_b6 _ h2 rfl), ha.to [0, 1, 2, 6, 12, 13, 14, 15, 16, 17, 18, 20, 21, 22, 23, 24, 25, 26, 8, 27, 28, 29, 30, 31, 35, 36, 37, 38, 39, 40, 41, 42, 43, 44, 45, 46, 9, 7] (by rw [Nat.zero_mul]; rfl), hB, hb20, hovp, (Sl.castM (l := List.replicate 25 (0 : UInt64)) (Sl.ofBlockM hb6 (by rw [List.length_replicate]) (by omega)) rfl)⟩ ?_
    clear ha a hB hb6 hb20 hovp
    intro m a w42 ⟨va, hkm, hfr_va, hnb_va_b20, hds_va_hovp, ha, hB, hb20, hovp, hsva⟩
    have hm1 : m < nbk b r → m * r + r ≤ nbk b r * r := fun h => by have := Nat.mul_le_mul_right r (show m + 1 ≤ nbk b r from h); rw [Nat.succ_mul] at this; exact this
    have hm2 : nbk b r ≤ m → nbk b r * r ≤ m * r := fun h => Nat.mul_le_mul_right r h
    refine wp_seq_k fun K43 hK44 => ?_
    refine wp_seq_k fun K45 hK46 => ?_
    refine region ?_
    refine sv ha (r_move ha rfl) rfl rfl rfl ?_; clear ha a; intro a ha
    refine sv ha (r_move ha rfl) rfl rfl rfl ?_; clear ha a; intro a ha
    refine sv ha (v_of (r_lenS ha Tryd.runUnderlying22 (Sl.ofOwns hovp) rfl (by rw [List.length_map])) (congrArg en (rpad_nb r s b hr1 : (rpad r s b).length = nbk b r * r))) rfl rfl rfl ?_; clear ha a; intro a ha
    refine sv ha (r_lss ha ((m * r : Nat) : Int) ((nbk b r * r : Nat) : Int) (decide (m * r < nbk b r * r)) rfl rfl (decide_eq_decide.2 (by omega))) rfl rfl rfl ?_; clear ha a; intro a ha
    refine hK46 _ _ ?_; clear hK46 K45
    refine cond_if ha rfl (fun hc47 => ?_) (fun hc47 => ?_)
    · skip
      replace hc47 := of_decide_eq_true hc47
      refine wp_skip ?_
      refine hK44 _ _ ?_; clear hK44 K43
      refine wp_seq_k fun K48 hK49 => ?_
      refine wp_block ?_
      refine wp_seq_k fun K50 hK51 => ?_
      refine region ?_
      refine sv ha (r_move ha rfl) rfl rfl rfl ?_; clear ha a; intro a ha
      refine sc ha (r_call ha [va] rfl Tryd.call33) rfl rfl rfl (c_rbytes va (rabA r s b m) _ hsva (by rw [rabA_len])) ?_
      clear ha a
      rintro e w52 ⟨u53, rfl, hBc, ho53⟩
      have hg := grown_call hBc; clear hBc
      have hnb_ho53_b20 : ∀ j, u53.ownBlock = some j → j ≠ b20 := fun j hj => by have h1 := (own_row ho53) j hj; have h2 := lt_of_block hb20; omega
      have hds_ho53_hovp : ∀ j, u53.ownBlock = some j → vp.ownBlock ≠ some j := fun j h1 h2 => by have h3 := (own_row ho53) j h1; have h4 := (fun j hj => (hovp.lt j hj).2) j h2; omega
      have hds_ho53_hsva : ∀ j, u53.ownBlock = some j → va.ownBlock ≠ some j := fun j h1 h2 => by have h3 := (own_row ho53) j h1; have h4 := (fun j hj => hsva.lt j hj) j h2; omega
      replace ho53 := own_base ho53 hB.size
      replace hB := keepB0 hg hB
      replace hb20 := keepO0 hg hb20
      replace hovp := keepW0 hg hovp
      replace hsva := keepS0 hg hsva
      clear hg
      refine ⟨_, rfl, ?_⟩; intro a ha
      refine sv ha (r_assign ha rfl) rfl rfl rfl ?_; clear ha a; intro a ha
      refine hK51 _ _ ?_; clear hK51 K50
      refine wp_seq_k fun K54 hK55 => ?_
      refine wp_seq_k fun K56 hK57 => ?_
      refine region ?_
      refine sv ha (r_assign ha rfl) rfl rfl rfl ?_; clear ha a; intro a ha
      refine hK57 _ _ ?_; clear hK57 K56
      refine wp_block ?_
      refine loopG (fun (k : Nat) a w => ∃ vs : Value, (k ≤ r) ∧ (∀ j, vs.ownBlock = some j → j ≠ b20) ∧ (∀ j, vs.ownBlock = some j → vp.ownBlock ≠ some j) ∧ (∀ j, vs.ownBlock = some j → va.ownBlock ≠ some j) ∧ Has 79 [(0, en r), (1, e8 s), (2, v), (6, .slice none 0 0), (12, .slice (some ⟨b6, 0, none⟩) 25 25), (13, en r), (14, .bool false), (15, .bool false), (16, en r), (17, .bool false), (18, .bool false), (20, .slice none 0 0), (21, v), (22, v15), (23, v15), (24, e8 s), (25, .slice (some ⟨b20, 0, none⟩) 1 1), (26, v21), (8, vp), (27, vp), (28, en (b.length + 1 + (padN (b.length + 1) r))), (29, en r), (30, en ((b.length + 1 + (padN (b.length + 1) r)) % r)), (31, .bool (decide ((b.length + 1 + (padN (b.length + 1) r)) % r ≠ 0))), (35, vp), (36, vp), (37, en (b.length + 1 + padN (b.length + 1) r)), (38, en ((b.length + 1 + padN (b.length + 1) r) - 1)), (39, vp), (40, vp), (41, en (b.length + 1 + padN (b.length + 1) r)), (42, en ((b.length + 1 + padN (b.length + 1) r) - 1)), (43, ptrOf vp ((b.length + 1 + padN (b.length + 1) r) - 1)), (44, e8 (((b ++ [s]) ++ List.replicate (padN (b.length + 1) r) (0 : UInt8)).getD ((b.length + 1 + padN (b.length + 1) r) - 1) 0)), (45, e8 ((((b ++ [s]) ++ List.replicate (padN (b.length + 1) r) (0 : UInt8)).getD ((b.length + 1 + padN (b.length + 1) r) - 1) 0) ^^^ (128 : UInt8))), (46, ptrOf vp ((b.length + 1 + padN (b.length + 1) r) - 1)), (9, en (m * r)), (7, va), (47, en (m * r)), (48, vp), (49, en (nbk b r * r)), (50, .bool (decide (m * r < nbk b r * r))), (54, va), (55, u53), (10, vs), (11, en k)] a ∧ Below w0.heap.size w0 w ∧ w.heap[b20]? = some (.cells ((([s] : List UInt8)).map e8).toArray 5 (0, 0)) ∧ w.ownsRow w0.heap.size 5 1 vp ((rpad r s b).length) ((rpad r s b).map e8) ∧ Sl w va ((rabA r s b m).map e64) ∧ w.ownsRow w0.heap.size 5 1 vs (rsx (rabA r s b m) (rpad r s b) (m * r) k).length ((rsx (rabA r s b m) (rpad r s b) (m * r) k).map e8)) (fun k => r - k) 0 ⟨u53, (by omega), hnb_ho53_b20, hds_ho53_hovp, hds_ho53_hsva, ha.to [0, 1, 2, 6, 12, 13, 14, 15, 16, 17, 18, 20, 21, 22, 23, 24, 25, 26, 8, 27, 28, 29, 30, 31, 35, 36, 37, 38, 39, 40, 41, 42, 43, 44, 45, 46, 9, 7, 47, 48, 49, 50, 54, 55, 10, 11] rfl, hB, hb20, hovp, hsva, (own_castl (own_len ho53) rfl)⟩ ?_
      clear ha a hB hb20 hovp hsva ho53
      intro k a w58 ⟨vs, hkk, hnb_vs_b20, hds_vs_hovp, hds_vs_hsva, ha, hB, hb20, hovp, hsva, hovs⟩
      refine wp_seq_k fun K59 hK60 => ?_
      refine wp_seq_k fun K61 hK62 => ?_
      refine region ?_
      refine sv ha (r_move ha rfl) rfl rfl rfl ?_; clear ha a; intro a ha
      refine sv ha (r_move ha rfl) rfl rfl rfl ?_; clear ha a; intro a ha
      refine sv ha (r_lss ha ((k : Nat) : Int) ((r : Nat) : Int) (decide (k < r)) rfl rfl (decide_eq_decide.2 (by omega))) rfl rfl rfl ?_; clear ha a; intro a ha
      refine hK62 _ _ ?_; clear hK62 K61
      refine cond_if ha rfl (fun hc63 => ?_) (fun hc63 => ?_)
      · skip
        replace hc63 := of_decide_eq_true hc63
        refine wp_skip ?_
        refine hK60 _ _ ?_; clear hK60 K59
        refine wp_seq_k fun K64 hK65 => ?_
        refine wp_block ?_
        refine regionD (S := fun w => Below w0.heap.size w0 w ∧ w.heap[b20]? = some (.cells ((([s] : List UInt8)).map e8).toArray 5 (0, 0)) ∧ w.ownsRow w0.heap.size 5 1 vp ((rpad r s b).length) ((rpad r s b).map e8) ∧ Sl w va ((rabA r s b m).map e64) ∧ w.ownsRow w0.heap.size 5 1 vs (rsx (rabA r s b m) (rpad r s b) (m * r) k).length ((rsx (rabA r s b m) (rpad r s b) (m * r) k).map e8) ∧ True) [14] [0, 1, 2, 3, 4, 5, 6, 7, 8, 9, 10, 11, 12, 13] [0, 1, 2, 3, 4, 5, 6, 7, 8, 9, 10, 11, 12, 13, 14] mixed (by kernel_rfl) (fun w hg => ⟨keepB0 hg hB, keepO0 hg hb20, keepW0 hg hovp, keepS0 hg hsva, keepW0 hg hovs, trivial⟩) ?_
        intro w66 hg
        replace hB := keepB0 hg hB
        replace hb20 := keepO0 hg hb20
        replace hovp := keepW0 hg hovp
        replace hsva := keepS0 hg hsva
        replace hovs := keepW0 hg hovs
        clear hg
        refine cv ha rfl rfl (fun w _ => r_move ha rfl) rfl rfl rfl ?_; clear ha a; intro a ha
        refine cv ha rfl rfl (fun w _ => r_move ha rfl) rfl rfl rfl ?_; clear ha a; intro a ha
        refine cv ha rfl rfl (fun w _ => r_move ha rfl) rfl rfl rfl ?_; clear ha a; intro a ha
        refine cv ha rfl rfl (fun w _ => r_move ha rfl) rfl rfl rfl ?_; clear ha a; intro a ha
        refine cv ha rfl rfl (fun w ⟨hB, hb20, hovp, hsva, hovs, _⟩ => r_indexS (i := k) ha Tryd.runUnderlying22 Tryd.sizeOf5 (Sl.ofOwns hovs) (C := (rsx (rabA r s b m) (rpad r s b) (m * r) k).map e8) rfl rfl (by rw [List.length_map, rsx_len]; omega)) rfl rfl rfl ?_; clear ha a; intro a ha
        refine cv ha rfl rfl (fun w ⟨hB, hb20, hovp, hsva, hovs, _⟩ => r_loadS ha rfl Tryd.isAgg5 (Sl.ofOwns hovs) (get_map e8 (rsx (rabA r s b m) (rpad r s b) (m * r) k) 0 k (by rw [rsx_len]; omega))) rfl rfl rfl ?_; clear ha a; intro a ha
        refine cv ha rfl rfl (fun w _ => r_move ha rfl) rfl rfl rfl ?_; clear ha a; intro a ha
        refine cv ha rfl rfl (fun w _ => r_move ha rfl) rfl rfl rfl ?_; clear ha a; intro a ha
        refine cv ha rfl rfl (fun w _ => r_move ha rfl) rfl rfl rfl ?_; clear ha a; intro a ha
        refine cv ha rfl rfl (fun w _ => rn_add ha (m * r) k rfl rfl (by omega)) rfl rfl rfl ?_; clear ha a; intro a ha
        refine cv ha rfl rfl (fun w ⟨hB, hb20, hovp, hsva, hovs, _⟩ => r_indexS (i := (m * r) + k) ha Tryd.runUnderlying22 Tryd.sizeOf5 (Sl.ofOwns hovp) (C := (rpad r s b).map e8) rfl rfl (by rw [List.length_map, rpad_nb r s b hr1]; omega)) rfl rfl rfl ?_; clear ha a; intro a ha
        refine cv ha rfl rfl (fun w ⟨hB, hb20, hovp, hsva, hovs, _⟩ => r_loadS ha rfl Tryd.isAgg5 (Sl.ofOwns hovp) (get_map e8 (rpad r s b) 0 ((m * r) + k) (by rw [rpad_nb r s b hr1]; omega))) rfl rfl rfl ?_; clear ha a; intro a ha
        refine cv ha rfl rfl (fun w _ => rb_xor ha ((rsx (rabA r s b m) (rpad r s b) (m * r) k).getD k 0) ((rpad r s b).getD ((m * r) + k) 0) rfl rfl) rfl rfl rfl ?_; clear ha a; intro a ha
        refine cv ha rfl rfl (fun w ⟨hB, hb20, hovp, hsva, hovs, _⟩ => r_indexS (i := k) ha Tryd.runUnderlying22 Tryd.sizeOf5 (Sl.ofOwns hovs) (C := (rsx (rabA r s b m) (rpad r s b) (m * r) k).map e8) rfl rfl (by rw [List.length_map, rsx_len]; omega)) rfl rfl rfl ?_; clear ha a; intro a ha
        refine cstoreO ha rfl rfl (v := e8 (((rsx (rabA r s b m) (rpad r s b) (m * r) k).getD k 0) ^^^ ((rpad r s b).getD ((m * r) + k) 0))) rfl rfl rfl rfl Tryd.sizeOf5 hovs (by rw [List.length_map, rsx_len]; omega) rfl ?_
        clear ha a; intro a w67 ha hg hovs'
        rw [set_map] at hovs'
        replace hB := keepBR hg (own_row hovs) hB
        replace hb20 := keepOR hg (ne_of_ap hnb_vs_b20) hb20
        replace hovp := keepWR hg hds_vs_hovp hovp
        replace hsva := keepSR hg hds_vs_hsva hsva
        clear hg; clear hovs; have hovs := hovs'; clear hovs'
        refine cfin (hK65 _ _ ?_); clear hK65 K64
        refine region ?_
        refine sv ha (r_move ha rfl) rfl rfl rfl ?_; clear ha a; intro a ha
        refine sv ha (rn_add ha k 1 rfl rfl (by omega)) rfl rfl rfl ?_; clear ha a; intro a ha
        refine sv ha (r_assign ha rfl) rfl rfl rfl ?_; clear ha a; intro a ha
        exact ⟨k + 1, by omega, vs, (by omega), hnb_vs_b20, hds_vs_hovp, hds_vs_hsva, ha.to [0, 1, 2, 6, 12, 13, 14, 15, 16, 17, 18, 20, 21, 22, 23, 24, 25, 26, 8, 27, 28, 29, 30, 31, 35, 36, 37, 38, 39, 40, 41, 42, 43, 44, 45, 46, 9, 7, 47, 48, 49, 50, 54, 55, 10, 11] rfl, hB, hb20, hovp, hsva, (own_castl (own_len hovs) rfl)⟩
      · skip
        replace hc63 := of_decide_eq_false hc63
        refine wp_exit ?_
        obtain rfl : r = k := by omega
        refine hK55 _ _ ?_; clear hK60 K59 hK55 K54
        refine region ?_
        refine sv ha (r_move ha rfl) rfl rfl rfl ?_; clear ha a; intro a ha
        refine sc ha (r_call ha [vs] rfl Tryd.call67) rfl rfl rfl (c_rstate vs (rsx (rabA r s b m) (rpad r s b) (m * r) r) _ (Sl.ofOwns hovs) (by rw [rsx_len])) ?_
        clear ha a
        rintro e w68 ⟨u69, rfl, hBc, hs69, hd69⟩
        have hg := grown_call hBc; clear hBc
        have hnb_hs69_b20 : ∀ j, u69.ownBlock = some j → j ≠ b20 := fun j hj => by have h1 := hd69 j hj; have h2 := lt_of_block hb20; omega
        have hds_hs69_hovp : ∀ j, u69.ownBlock = some j → vp.ownBlock ≠ some j := fun j h1 h2 => by have h3 := hd69 j h1; have h4 := (fun j hj => (hovp.lt j hj).2) j h2; omega
        have hds_hs69_hsva : ∀ j, u69.ownBlock = some j → va.ownBlock ≠ some j := fun j h1 h2 => by have h3 := hd69 j h1; have h4 := (fun j hj => hsva.lt j hj) j h2; omega
        have hds_hs69_hovs : ∀ j, u69.ownBlock = some j → vs.ownBlock ≠ some j := fun j h1 h2 => by have h3 := hd69 j h1; have h4 := (fun j hj => (hovs.lt j hj).2) j h2; omega
        replace hd69 : ∀ j, u69.ownBlock = some j → w0.heap.size ≤ j := fun j hj => Nat.le_trans hB.size (hd69 j hj)
        replace hB := keepB0 hg hB
        replace hb20 := keepO0 hg hb20
        replace hovp := keepW0 hg hovp
        replace hsva := keepS0 hg hsva
        replace hovs := keepW0 hg hovs
        clear hg
        refine ⟨_, rfl, ?_⟩; intro a ha
        refine sc ha (r_call ha [u69] rfl Tryd.call34) rfl rfl rfl (c_rFast u69 (rst (rsx (rabA r s b m) (rpad r s b) (m * r) r)) _ hs69 (by rw [rst_len])) ?_
        clear ha a
        rintro e w70 ⟨b71, rfl, hBc, hb71, hge71⟩
        have hg := grown_call hBc; clear hBc
        have hz71 : w0.heap.size ≤ b71 := Nat.le_trans hB.size hge71
        have hne_hovp_b71 : ∀ j, Value.ownBlock vp = some j → j ≠ b71 := fun j hj => by have := (hovp.lt j hj).2; omega
        have hne_hsva_b71 : ∀ j, Value.ownBlock va = some j → j ≠ b71 := fun j hj => by have := hsva.lt j hj; omega
        have hne_hovs_b71 : ∀ j, Value.ownBlock vs = some j → j ≠ b71 := fun j hj => by have := (hovs.lt j hj).2; omega
        have hne_hs69_b71 : ∀ j, Value.ownBlock u69 = some j → j ≠ b71 := fun j hj => by have := hs69.lt j hj; omega
        have hq20_71 : b20 < b71 := Nat.lt_of_lt_of_le (lt_of_block hb20) hge71
        replace hB := keepB0 hg hB
        replace hb20 := keepO0 hg hb20
        replace hovp := keepW0 hg hovp
        replace hsva := keepS0 hg hsva
        replace hovs := keepW0 hg hovs
        replace hs69 := keepS0 hg hs69
        clear hg hge71
        refine ⟨_, rfl, ?_⟩; intro a ha
        refine sv ha (r_assign ha rfl) rfl rfl rfl ?_; clear ha a; intro a ha
        refine hK49 _ _ ?_; clear hK49 K48
        refine region ?_
        refine sv ha (r_move ha rfl) rfl rfl rfl ?_; clear ha a; intro a ha
        refine sv ha (r_move ha rfl) rfl rfl rfl ?_; clear ha a; intro a ha
        refine sv ha (v_of (rn_add ha (m * r) r rfl rfl (by omega)) (congrArg en ((Nat.succ_mul m r).symm : (m * r) + r = (m + 1) * r))) rfl rfl rfl ?_; clear ha a; intro a ha
        refine sv ha (r_assign ha rfl) rfl rfl rfl ?_; clear ha a; intro a ha
        exact ⟨m + 1, by omega, .slice (some ⟨b71, 0, none⟩) 25 25, (by omega), (fun j hj => by cases hj; exact hz71), (fun j hj => by simp only [Value.ownBlock, Option.some.injEq] at hj; omega), (fun j h1 h2 => by cases h1; exact hne_hovp_b71 _ h2 rfl), ha.to [0, 1, 2, 6, 12, 13, 14, 15, 16, 17, 18, 20, 21, 22, 23, 24, 25, 26, 8, 27, 28, 29, 30, 31, 35, 36, 37, 38, 39, 40, 41, 42, 43, 44, 45, 46, 9, 7] rfl, hB, hb20, hovp, (Sl.castM (l := fast (rst (rsx (rabA r s b m) (rpad r s b) (m * r) r))) (Sl.ofBlockM hb71 (by rw [fast_len, rst_len]) (by omega)) rfl)⟩
    · skip
      replace hc47 := of_decide_eq_false hc47
      refine wp_exit ?_
      obtain rfl : m = (nbk b r) := by omega
      refine hK39 _ _ ?_; clear hK44 K43 hK39 K38
      refine wp_seq_k fun K72 hK73 => ?_
      refine region ?_
      refine sv ha (r_move ha rfl) rfl rfl rfl ?_; clear ha a; intro a ha
      refine sv ha (r_assign ha rfl) rfl rfl rfl ?_; clear ha a; intro a ha
      refine hK73 _ _ ?_; clear hK73 K72
      refine wp_ret ?_
      repeat (first | (with_reducible refine t_ret ?_) | (with_reducible refine x_ret ?_))
      exact ret1 ha Tryd.results32 rfl ⟨_, rfl, hB, (Sl.castM (l := rabA r s b (nbk b r)) hsva rfl), hfr_va⟩

theorem c_rout (v : Value) (p : List UInt64) (r n : Nat) (w0 : World) (hs : Sl w0 v (p.map e64)) (hl : p.length = 25) (hr : 1 ≤ r ∧ r ≤ 200) (hn : n ≤ 100000) :
    Calls Tryd.prog 72 #[v, en r, en n] w0 fun e w' => ∃ u0 : Value, e = .returned (u0) ∧ Below w0.heap.size w0 w' ∧ Sl w' u0 ((sqz p r n).map e8) ∧ (∀ j, u0.ownBlock = some j → w0.heap.size ≤ j) := by
  refine enter (args := [_, _, _]) Tryd.func72 rfl Tryd.ntmps72 rfl ?_
  intro a ha
  have hB := Below.refl w0.heap.size w0
  refine wp_seq_k fun K1 hK2 => ?_
  refine region ?_
  refine sv ha (r_assign ha rfl) rfl rfl rfl ?_; clear ha a; intro a ha
  refine hK2 _ _ ?_; clear hK2 K1
  refine wp_seq_k fun K3 hK4 => ?_
  refine region ?_
  refine sv ha (r_assign ha rfl) rfl rfl rfl ?_; clear ha a; intro a ha
  refine hK4 _ _ ?_; clear hK4 K3
  refine wp_seq_k fun K5 hK6 => ?_
  refine wp_block ?_
  refine loopG (fun (g : Nat × List UInt64) a w => ∃ vo : Value, ∃ va : Value, ((roA p r g.1).length < n → g.2 = fpow p g.1) ∧ (g.2.length = 25) ∧ (g.1 ≤ n) ∧ (∀ j, va.ownBlock = some j → vo.ownBlock ≠ some j) ∧ Has 27 [(1, en r), (2, en n), (6, .slice none 0 0), (7, vo), (0, va)] a ∧ Below w0.heap.size w0 w ∧ w.ownsRow w0.heap.size 5 1 vo (roA p r g.1).length ((roA p r g.1).map e8) ∧ Sl w va ((g.2).map e64)) (fun g => n - g.1) (0, p) ⟨.slice none 0 0, v, (fun _ => rfl), hl, (Nat.zero_le _), (fun j _ hj => (nil_own j hj).elim), ha.to [1, 2, 6, 7, 0] rfl, hB, (own_castl (l := ([] : List UInt8)) (World.ownsRow_nil _ _ _ _) rfl), (Sl.castM (l := p) (hs.below hB) rfl)⟩ ?_
  clear ha a hB
  intro g a w7 ⟨vo, va, hgq, hgl, hgk, hds_va_vo, ha, hB, hovo, hsva⟩
  have hro := roA_len p r hr.2 g.1
  have hro2 : g.1 ≤ g.1 * r := Nat.le_mul_of_pos_right g.1 (by omega)
  refine wp_seq_k fun K8 hK9 => ?_
  refine wp_seq_k fun K10 hK11 => ?_
  refine region ?_
  refine sv ha (r_move ha rfl) rfl rfl rfl ?_; clear ha a; intro a ha
  refine sv ha (r_lenS ha Tryd.runUnderlying22 (Sl.ofOwns hovo) rfl (by rw [List.length_map])) rfl rfl rfl ?_; clear ha a; intro a ha
  refine sv ha (r_move ha rfl) rfl rfl rfl ?_; clear ha a; intro a ha
  refine sv ha (r_lss ha (((roA p r g.1).length : Nat) : Int) ((n : Nat) : Int) (decide ((roA p r g.1).length < n)) rfl rfl (decide_eq_decide.2 (by omega))) rfl rfl rfl ?_; clear ha a; intro a ha
  refine hK11 _ _ ?_; clear hK11 K10
  refine cond_if ha rfl (fun hc12 => ?_) (fun hc12 => ?_)
  · skip
    replace hc12 := of_decide_eq_true hc12
    refine wp_skip ?_
    refine hK9 _ _ ?_; clear hK9 K8
    refine wp_block ?_
    refine wp_seq_k fun K13 hK14 => ?_
    refine region ?_
    refine sv ha (r_move ha rfl) rfl rfl rfl ?_; clear ha a; intro a ha
    refine sv ha (r_move ha rfl) rfl rfl rfl ?_; clear ha a; intro a ha
    refine sc ha (r_call ha [va] rfl Tryd.call33) rfl rfl rfl (c_rbytes va g.2 _ hsva (by rw [hgl])) ?_
    clear ha a
    rintro e w15 ⟨u16, rfl, hBc, ho16⟩
    have hg := grown_call hBc; clear hBc
    have hds_ho16_hovo : ∀ j, u16.ownBlock = some j → vo.ownBlock ≠ some j := fun j h1 h2 => by have h3 := (own_row ho16) j h1; have h4 := (fun j hj => (hovo.lt j hj).2) j h2; omega
    have hds_ho16_hsva : ∀ j, u16.ownBlock = some j → va.ownBlock ≠ some j := fun j h1 h2 => by have h3 := (own_row ho16) j h1; have h4 := (fun j hj => hsva.lt j hj) j h2; omega
    replace ho16 := own_base ho16 hB.size
    replace hB := keepB0 hg hB
    replace hovo := keepW0 hg hovo
    replace hsva := keepS0 hg hsva
    clear hg
    refine ⟨_, rfl, ?_⟩; intro a ha
    refine sv ha (r_move ha rfl) rfl rfl rfl ?_; clear ha a; intro a ha
    refine sv ha (r_resl (C := (rby g.2).map e8) ha 0 r Tryd.runUnderlying22 Tryd.sizeOf5 (Sl.ofOwns ho16) rfl rfl rfl (by omega) (by rw [List.length_map]; exact (by rw [rby_len]; omega))) rfl rfl rfl ?_; clear ha a; intro a ha
    refine sapp (C := ((roA p r g.1)).map e8) (D := ((rby g.2).take r).map e8) ha rfl rfl Tryd.underlying22 rfl rfl rfl rfl hovo (Sl.castM (Sl.cutM (lo := 0) (hi := r) (Sl.ofOwns ho16) (by omega) (by rw [rby_len]; omega)) rfl) (one_e8 _) (by simp only [List.length_map, List.length_take]; show _ * 1 ≤ _; omega) (by simp only [List.length_map, List.length_take]; omega) hB.size rfl ?_
    clear ha a; intro a w18 v17 ha hg ho17 hnl17 hpl17
    rw [← List.map_append, List.length_map] at ho17
    have hds_ho17_hsva : ∀ j, v17.ownBlock = some j → va.ownBlock ≠ some j := fun j h1 h2 => (hpl17 j h1).elim (fun h => (fun j h1 h2 => hds_va_vo j h2 h1) j h h2) (fun h => by have h4 := (fun j hj => hsva.lt j hj) j h2; omega)
    have hds_ho17_ho16 : ∀ j, v17.ownBlock = some j → u16.ownBlock ≠ some j := fun j h1 h2 => (hpl17 j h1).elim (fun h => (fun j h1 h2 => hds_ho16_hovo j h2 h1) j h h2) (fun h => by have h4 := (fun j hj => (ho16.lt j hj).2) j h2; omega)
    replace hB := keepBR hg (own_row hovo) hB
    replace hsva := keepSR hg (fun j h1 h2 => hds_va_vo j h2 h1) hsva
    replace ho16 := keepWR hg (fun j h1 h2 => hds_ho16_hovo j h2 h1) ho16
    clear hg
    refine sv ha (r_assign ha rfl) rfl rfl rfl ?_; clear ha a; intro a ha
    refine hK14 _ _ ?_; clear hK14 K13
    refine wp_seq_k fun K19 hK20 => ?_
    refine region ?_
    refine sv ha (r_move ha rfl) rfl rfl rfl ?_; clear ha a; intro a ha
    refine sv ha (r_lenS ha Tryd.runUnderlying22 (Sl.ofOwns ho17) rfl (own_k ho17)) rfl rfl rfl ?_; clear ha a; intro a ha
    refine sv ha (r_move ha rfl) rfl rfl rfl ?_; clear ha a; intro a ha
    refine sv ha (r_lss ha ((((roA p r g.1).length) + (((rby g.2).take r).length) : Nat) : Int) ((n : Nat) : Int) (decide (((roA p r g.1).length) + (((rby g.2).take r).length) < n)) rfl rfl (decide_eq_decide.2 (by omega))) rfl rfl rfl ?_; clear ha a; intro a ha
    refine hK20 _ _ ?_; clear hK20 K19
    refine cond_if ha rfl (fun hc21 => ?_) (fun hc21 => ?_)
    · skip
      replace hc21 := of_decide_eq_true hc21
      refine region ?_
      refine sv ha (r_move ha rfl) rfl rfl rfl ?_; clear ha a; intro a ha
      refine sc ha (r_call ha [va] rfl Tryd.call34) rfl rfl rfl (c_rFast va g.2 _ hsva (by rw [hgl])) ?_
      clear ha a
      rintro e w22 ⟨b23, rfl, hBc, hb23, hge23⟩
      have hg := grown_call hBc; clear hBc
      have hz23 : w0.heap.size ≤ b23 := Nat.le_trans hB.size hge23
      have hne_hsva_b23 : ∀ j, Value.ownBlock va = some j → j ≠ b23 := fun j hj => by have := hsva.lt j hj; omega
      have hne_ho16_b23 : ∀ j, Value.ownBlock u16 = some j → j ≠ b23 := fun j hj => by have := (ho16.lt j hj).2; omega
      have hne_ho17_b23 : ∀ j, Value.ownBlock v17 = some j → j ≠ b23 := fun j hj => by have := (ho17.lt j hj).2; omega
      replace hB := keepB0 hg hB
      replace hsva := keepS0 hg hsva
      replace ho16 := keepW0 hg ho16
      replace ho17 := keepW0 hg ho17
      clear hg hge23
      refine ⟨_, rfl, ?_⟩; intro a ha
      refine sv ha (r_assign ha rfl) rfl rfl rfl ?_; clear ha a; intro a ha
      have hq := hgq (by omega)
      have hf1 : fast g.2 = fpow p (g.1 + 1) := by rw [hq, fpow]
      have hf2 : (fast g.2).length = 25 := by rw [fast_len, hgl]
      generalize fast g.2 = f2 at *
      exact ⟨(g.1 + 1, f2), (by show n - (g.1 + 1) < n - g.1; omega), v17, .slice (some ⟨b23, 0, none⟩) 25 25, (fun _ => hf1), hf2, (by show g.1 + 1 ≤ n; omega), (fun j h1 h2 => by cases h1; exact hne_ho17_b23 _ h2 rfl), ha.to [1, 2, 6, 7, 0] rfl, hB, (own_castl (own_len ho17) (by rw [hq]; rfl)), (Sl.castM (l := f2) (Sl.ofBlockM hb23 (by rw [hf2]) (by omega)) rfl)⟩
    · skip
      replace hc21 := of_decide_eq_false hc21
      refine wp_skip ?_
      have hq := hgq (by omega)
      have hf1 : fast g.2 = fpow p (g.1 + 1) := by rw [hq, fpow]
      have hf2 : (fast g.2).length = 25 := by rw [fast_len, hgl]
      generalize fast g.2 = f2 at *
      exact ⟨(g.1 + 1, g.2), (by show n - (g.1 + 1) < n - g.1; omega), v17, va, (fun h => by exfalso; have h2 : (roA p r (g.1 + 1)).length < n := h; rw [roA, ← hq, List.length_append] at h2; omega), hgl, (by show g.1 + 1 ≤ n; omega), (fun j h1 h2 => hds_ho17_hsva j h2 h1), ha.to [1, 2, 6, 7, 0] rfl, hB, (own_castl (own_len ho17) (by rw [hq]; rfl)), (Sl.castM (l := g.2) hsva rfl)⟩
  · skip
    replace hc12 := of_decide_eq_false hc12
    refine wp_exit ?_
    refine hK6 _ _ ?_; clear hK9 K8 hK6 K5
    refine wp_seq_k fun K24 hK25 => ?_
    refine region ?_
    refine sv ha (r_move ha rfl) rfl rfl rfl ?_; clear ha a; intro a ha
    refine sv ha (r_move ha rfl) rfl rfl rfl ?_; clear ha a; intro a ha
    refine sv ha (r_resl (C := (roA p r g.1).map e8) ha 0 n Tryd.runUnderlying22 Tryd.sizeOf5 (Sl.ofOwns hovo) rfl rfl rfl (by omega) (by rw [List.length_map]; exact (by omega))) rfl rfl rfl ?_; clear ha a; intro a ha
    refine sv ha (r_assign ha rfl) rfl rfl rfl ?_; clear ha a; intro a ha
    refine hK25 _ _ ?_; clear hK25 K24
    refine wp_ret ?_
    repeat (first | (with_reducible refine t_ret ?_) | (with_reducible refine x_ret ?_))
    exact ret1 ha Tryd.results72 rfl ⟨_, rfl, hB, (Sl.castM (l := ((roA p r g.1).drop 0).take (n - 0)) (Sl.cutM (lo := 0) (hi := n) (Sl.ofOwns hovo) (by omega) (by omega)) (roA_take p r n _ hr (by omega))), (fun j hj => (own_row hovo) j (own_rsl _ _ j hj))⟩

theorem c_rshake256 (v : Value) (b : List UInt8) (n : Nat) (w0 : World) (hs : Sl w0 v (b.map e8)) (hb : b.length ≤ 100000) (hn : n ≤ 100000) :
    Calls Tryd.prog 40 #[v, en n] w0 fun e w' => ∃ u0 : Value, e = .returned (u0) ∧ Below w0.heap.size w0 w' ∧ Sl w' u0 ((sqz (absR 136 31 noughts b) 136 n).map e8) ∧ (∀ j, u0.ownBlock = some j → w0.heap.size ≤ j) := by
  refine enter (args := [_, _]) Tryd.func40 rfl Tryd.ntmps40 rfl ?_
  intro a ha
  have hB := Below.refl w0.heap.size w0
  refine wp_seq_k fun K1 hK2 => ?_
  refine region ?_
  refine sv ha (r_assign ha rfl) rfl rfl rfl ?_; clear ha a; intro a ha
  refine hK2 _ _ ?_; clear hK2 K1
  refine wp_seq_k fun K3 hK4 => ?_
  refine region ?_
  refine sv ha (r_move ha rfl) rfl rfl rfl ?_; clear ha a; intro a ha
  refine sc ha (r_call ha [en 136, e8 (31 : UInt8), v] rfl Tryd.call32) rfl rfl rfl (c_rabsN 136 (31 : UInt8) v b _ (by omega) (hs.below hB) (by omega)) ?_
  clear ha a
  rintro e w5 ⟨u6, rfl, hBc, hs6, hd6⟩
  have hg := grown_call hBc; clear hBc
  replace hd6 : ∀ j, u6.ownBlock = some j → w0.heap.size ≤ j := fun j hj => Nat.le_trans hB.size (hd6 j hj)
  replace hB := keepB0 hg hB
  clear hg
  refine ⟨_, rfl, ?_⟩; intro a ha
  refine sv ha (r_move ha rfl) rfl rfl rfl ?_; clear ha a; intro a ha
  refine sc ha (r_call ha [u6, en 136, en n] rfl Tryd.call72) rfl rfl rfl (c_rout u6 (rabA 136 (31 : UInt8) b (nbk b 136)) 136 n _ hs6 (by rw [rabA_len]) (by omega) (by omega)) ?_
  clear ha a
  rintro e w7 ⟨u8, rfl, hBc, hs8, hd8⟩
  have hg := grown_call hBc; clear hBc
  have hds_hs8_hs6 : ∀ j, u8.ownBlock = some j → u6.ownBlock ≠ some j := fun j h1 h2 => by have h3 := hd8 j h1; have h4 := (fun j hj => hs6.lt j hj) j h2; omega
  replace hd8 : ∀ j, u8.ownBlock = some j → w0.heap.size ≤ j := fun j hj => Nat.le_trans hB.size (hd8 j hj)
  replace hB := keepB0 hg hB
  replace hs6 := keepS0 hg hs6
  clear hg
  refine ⟨_, rfl, ?_⟩; intro a ha
  refine sv ha (r_assign ha rfl) rfl rfl rfl ?_; clear ha a; intro a ha
  refine hK4 _ _ ?_; clear hK4 K3
  refine wp_ret ?_
  repeat (first | (with_reducible refine t_ret ?_) | (with_reducible refine x_ret ?_))
  exact ret1 ha Tryd.results40 rfl ⟨_, rfl, hB, (Sl.castM (l := sqz (rabA 136 (31 : UInt8) b (nbk b 136)) 136 n) hs8 (by rw [rabs_eq _ _ _ (by omega)])), hd8⟩
end Go.Proofs.YtaignhikdfpbbaaDoor
