/- WALKS written by gen.py (own program) out of specs. -/
import Derived.Test.YtaignhikdfpbbaaDoorQ3
import Derived.Test.YtaignhikdfpbbaaDoorSr
namespace Go.Proofs.YtaignhikdfpbbaaDoor
open Go.RowKit Go.Rx
set_option maxRecDepth 100000
set_option maxHeartbeats 4000000
set_option linter.unusedVariables false
set_option linter.unusedSimpArgs false

theorem c_rload (v : Value) (b : List UInt8) (w0 : World) (hs : Sl w0 v (b.map e8)) (hb : b.length ≤ 8) :
    Calls Tryd.prog 93 #[v] w0 fun e w' => e = .returned (e64 (ldR b)) ∧ Below w0.heap.size w0 w' := by
  refine enter (args := [_]) Tryd.func93 rfl Tryd.ntmps93 rfl ?_
  intro a ha
  have hB := Below.refl w0.heap.size w0
  refine wp_seq_k fun K1 hK2 => ?_
  refine region ?_
  refine sv ha (r_assign ha rfl) rfl rfl rfl ?_; clear ha a; intro a ha
  refine hK2 _ _ ?_; clear hK2 K1
  refine wp_seq_k fun K3 hK4 => ?_
  refine region ?_
  refine sv ha (r_assign ha rfl) rfl rfl rfl ?_; clear ha a; intro a ha
  refine hK4 _ _ ?_; clear hK4 K3
  refine wp_seq_k fun K5 hK6 => ?_
  refine region ?_
  refine sv ha (r_move ha rfl) rfl rfl rfl ?_; clear ha a; intro a ha
  refine sv ha (r_lenS ha Tryd.runUnderlying22 (hs.below hB) rfl (by rw [List.length_map])) rfl rfl rfl ?_; clear ha a; intro a ha
  refine sv ha (r_assign ha rfl) rfl rfl rfl ?_; clear ha a; intro a ha
  refine hK6 _ _ ?_; clear hK6 K5
  refine wp_seq_k fun K7 hK8 => ?_
  refine wp_seq_k fun K9 hK10 => ?_
  refine region ?_
  refine sv ha (r_move ha rfl) rfl rfl rfl ?_; clear ha a; intro a ha
  refine sv ha (r_gtr ha ((b.length : Nat) : Int) 8 false rfl rfl (decide_eq_false (by omega))) rfl rfl rfl ?_; clear ha a; intro a ha
  refine hK10 _ _ ?_; clear hK10 K9
  refine cond_f ha rfl ?_
  refine wp_skip ?_
  refine hK8 _ _ ?_; clear hK8 K7
  refine wp_seq_k fun K11 hK12 => ?_
  refine wp_seq_k fun K13 hK14 => ?_
  refine region ?_
  refine sv ha (r_move ha rfl) rfl rfl rfl ?_; clear ha a; intro a ha
  refine sv ha (r_sub ha ((b.length : Nat) : Int) 1 rfl rfl (by omega)) rfl rfl rfl ?_; clear ha a; intro a ha
  refine sv ha (r_assign ha rfl) rfl rfl rfl ?_; clear ha a; intro a ha
  refine hK14 _ _ ?_; clear hK14 K13
  refine wp_block ?_
  refine loopG (fun (k : Nat) a w => (k ≤ b.length) ∧ Has 25 [(0, v), (2, .int .u64 0), (6, v), (7, en b.length), (4, en b.length), (8, en b.length), (9, .bool false), (10, en b.length), (11, ei (((b.length : Nat) : Int) - 1)), (5, ei (((k : Nat) : Int) - 1)), (3, e64 (ldR (b.drop k)))] a ∧ Below w0.heap.size w0 w) (fun k => k) b.length ⟨(Nat.le_refl _), ha.to [0, 2, 6, 7, 4, 8, 9, 10, 11, 5, 3] (by rw [List.drop_length]; rfl), hB⟩ ?_
  clear ha a hB
  intro k a w15 ⟨hkk, ha, hB⟩
  refine wp_seq_k fun K16 hK17 => ?_
  refine wp_seq_k fun K18 hK19 => ?_
  refine region ?_
  refine sv ha (r_move ha rfl) rfl rfl rfl ?_; clear ha a; intro a ha
  refine sv ha (r_geq ha (((k : Nat) : Int) - 1) 0 (decide (((k : Nat) : Int) - 1 ≥ 0)) rfl rfl (decide_eq_decide.2 (by omega))) rfl rfl rfl ?_; clear ha a; intro a ha
  refine hK19 _ _ ?_; clear hK19 K18
  refine cond_if ha rfl (fun hc20 => ?_) (fun hc20 => ?_)
  · skip
    replace hc20 := of_decide_eq_true hc20
    refine wp_skip ?_
    refine hK17 _ _ ?_; clear hK17 K16
    refine wp_seq_k fun K21 hK22 => ?_
    refine wp_block ?_
    refine region ?_
    refine sv ha (r_move ha rfl) rfl rfl rfl ?_; clear ha a; intro a ha
    refine sv ha (ru_mul ha (ldR (b.drop k)) (256 : UInt64) rfl rfl) rfl rfl rfl ?_; clear ha a; intro a ha
    refine sv ha (r_move ha rfl) rfl rfl rfl ?_; clear ha a; intro a ha
    refine sv ha (n_of (r_move ha rfl) (k := k - 1) (by omega)) rfl rfl rfl ?_; clear ha a; intro a ha
    refine sv ha (r_indexS (i := k - 1) ha Tryd.runUnderlying22 Tryd.sizeOf5 (hs.below hB) (C := (b).map e8) rfl rfl (by rw [List.length_map]; omega)) rfl rfl rfl ?_; clear ha a; intro a ha
    refine sv ha (r_loadS ha rfl Tryd.isAgg5 (hs.below hB) (get_map e8 b 0 (k - 1) (by omega))) rfl rfl rfl ?_; clear ha a; intro a ha
    refine sv ha (r_conv_u8_u64 ha (b.getD (k - 1) 0) Tryd.runUnderlying5 Tryd.runUnderlying83 rfl) rfl rfl rfl ?_; clear ha a; intro a ha
    refine sv ha (v_of (ru_add ha ((ldR (b.drop k)) * (256 : UInt64)) ((b.getD (k - 1) 0).toUInt64) rfl rfl) (congrArg e64 (ldR_step b k (by omega) (by omega) : ((ldR (b.drop k)) * (256 : UInt64)) + ((b.getD (k - 1) 0).toUInt64) = ldR (b.drop (k - 1))))) rfl rfl rfl ?_; clear ha a; intro a ha
    refine sv ha (r_assign ha rfl) rfl rfl rfl ?_; clear ha a; intro a ha
    refine hK22 _ _ ?_; clear hK22 K21
    refine region ?_
    refine sv ha (r_move ha rfl) rfl rfl rfl ?_; clear ha a; intro a ha
    refine sv ha (z_of (r_sub ha (((k : Nat) : Int) - 1) 1 rfl rfl (by omega)) (k := ((k - 1 : Nat) : Int) - 1) (by omega)) rfl rfl rfl ?_; clear ha a; intro a ha
    refine sv ha (r_assign ha rfl) rfl rfl rfl ?_; clear ha a; intro a ha
    exact ⟨k - 1, by omega, (by omega), ha.to [0, 2, 6, 7, 4, 8, 9, 10, 11, 5, 3] rfl, hB⟩
  · skip
    replace hc20 := of_decide_eq_false hc20
    refine wp_exit ?_
    refine hK12 _ _ ?_; clear hK17 K16 hK12 K11
    refine wp_seq_k fun K23 hK24 => ?_
    refine region ?_
    refine sv ha (r_move ha rfl) rfl rfl rfl ?_; clear ha a; intro a ha
    refine sv ha (r_assign ha rfl) rfl rfl rfl ?_; clear ha a; intro a ha
    refine hK24 _ _ ?_; clear hK24 K23
    refine wp_ret ?_
    repeat (first | (with_reducible refine t_ret ?_) | (with_reducible refine x_ret ?_))
    exact ret1 ha Tryd.results93 rfl ⟨(by have h0 : k = 0 := (by omega); subst h0; rfl), hB⟩

theorem c_rstore (x : UInt64) (w0 : World) :
    Calls Tryd.prog 68 #[e64 x, en 8] w0 fun e w' => ∃ u0 : Value, e = .returned (u0) ∧ Below w0.heap.size w0 w' ∧ Sl w' u0 ((rs8 x).map e8) ∧ (∀ j, u0.ownBlock = some j → w0.heap.size ≤ j) := by
  refine enter (args := [_, _]) Tryd.func68 rfl Tryd.ntmps68 rfl ?_
  intro a ha
  have hB := Below.refl w0.heap.size w0
  refine wp_seq_k fun K1 hK2 => ?_
  refine region ?_
  refine sv ha (r_assign ha rfl) rfl rfl rfl ?_; clear ha a; intro a ha
  refine hK2 _ _ ?_; clear hK2 K1
  refine wp_seq_k fun K3 hK4 => ?_
  refine region ?_
  refine sv ha (r_assign ha rfl) rfl rfl rfl ?_; clear ha a; intro a ha
  refine hK4 _ _ ?_; clear hK4 K3
  refine wp_seq_k fun K5 hK6 => ?_
  refine wp_seq_k fun K7 hK8 => ?_
  refine region ?_
  refine sv ha (r_assign ha rfl) rfl rfl rfl ?_; clear ha a; intro a ha
  refine hK8 _ _ ?_; clear hK8 K7
  refine wp_block ?_
  refine loopG (fun (k : Nat) a w => ∃ vo : Value, (k ≤ 8) ∧ Has 25 [(1, en 8), (4, .slice none 0 0), (6, en k), (0, e64 (rsX x k)), (5, vo)] a ∧ Below w0.heap.size w0 w ∧ w.ownsRow w0.heap.size 5 1 vo (rsA x k).length ((rsA x k).map e8)) (fun k => 8 - k) 0 ⟨.slice none 0 0, (by omega), ha.to [1, 4, 6, 0, 5] rfl, hB, (own_castl (l := ([] : List UInt8)) (World.ownsRow_nil _ _ _ _) rfl)⟩ ?_
  clear ha a hB
  intro k a w9 ⟨vo, hkk, ha, hB, hovo⟩
  have hra := rsA_len x k
  refine wp_seq_k fun K10 hK11 => ?_
  refine wp_seq_k fun K12 hK13 => ?_
  refine region ?_
  refine sv ha (r_move ha rfl) rfl rfl rfl ?_; clear ha a; intro a ha
  refine sv ha (r_move ha rfl) rfl rfl rfl ?_; clear ha a; intro a ha
  refine sv ha (r_lss ha ((k : Nat) : Int) ((8 : Nat) : Int) (decide (k < 8)) rfl rfl (decide_eq_decide.2 (by omega))) rfl rfl rfl ?_; clear ha a; intro a ha
  refine sv ha (r_move ha rfl) rfl rfl rfl ?_; clear ha a; intro a ha
  cases hq14 : (decide (k < 8))
  all_goals rw [hq14] at ha
  case false =>
    replace hq14 := of_decide_eq_false hq14
    refine sno ha rfl rfl rfl rfl rfl rfl ?_; clear ha a; intro a ha
    refine sno ha rfl rfl rfl rfl rfl rfl ?_; clear ha a; intro a ha
    refine sv ha (r_pick ha false rfl rfl) rfl rfl rfl ?_; clear ha a; intro a ha
    refine hK13 _ _ ?_; clear hK13 K12
    refine cond_f ha rfl ?_
    refine wp_exit ?_
    obtain rfl : k = 8 := by omega
    refine hK6 _ _ ?_; clear hK11 K10 hK6 K5
    refine wp_seq_k fun K15 hK16 => ?_
    refine region ?_
    refine sv ha (r_move ha rfl) rfl rfl rfl ?_; clear ha a; intro a ha
    refine sv ha (r_assign ha rfl) rfl rfl rfl ?_; clear ha a; intro a ha
    refine hK16 _ _ ?_; clear hK16 K15
    refine wp_ret ?_
    repeat (first | (with_reducible refine t_ret ?_) | (with_reducible refine x_ret ?_))
    exact ret1 ha Tryd.results68 rfl ⟨_, rfl, hB, (Sl.castM (l := rsA x 8) (Sl.ofOwns hovo) rfl), (own_row hovo)⟩
  case true =>
    replace hq14 := of_decide_eq_true hq14
    refine svg ha (r_move ha rfl) rfl rfl rfl rfl rfl ?_; clear ha a; intro a ha
    refine svg ha (r_lss ha ((k : Nat) : Int) 8 true rfl rfl (decide_eq_true (by omega))) rfl rfl rfl rfl rfl ?_; clear ha a; intro a ha
    refine sv ha (r_pick ha true rfl rfl) rfl rfl rfl ?_; clear ha a; intro a ha
    refine hK13 _ _ ?_; clear hK13 K12
    refine cond_t ha rfl ?_
    refine wp_skip ?_
    refine hK11 _ _ ?_; clear hK11 K10
    refine wp_seq_k fun K17 hK18 => ?_
    refine wp_block ?_
    refine wp_seq_k fun K19 hK20 => ?_
    refine region ?_
    refine sv ha (r_move ha rfl) rfl rfl rfl ?_; clear ha a; intro a ha
    refine sv ha (r_move ha rfl) rfl rfl rfl ?_; clear ha a; intro a ha
    refine sv ha (ru_rem ha (rsX x k) (256 : UInt64) rfl rfl (by decide)) rfl rfl rfl ?_; clear ha a; intro a ha
    refine sv ha (r_conv_u64_u8 ha ((rsX x k) % (256 : UInt64)) Tryd.runUnderlying83 Tryd.runUnderlying5 rfl) rfl rfl rfl ?_; clear ha a; intro a ha
    refine sbuildS ha [(0, e8 (((rsX x k) % (256 : UInt64)).toUInt8))] (([((rsX x k) % (256 : UInt64)).toUInt8] : List UInt8).map e8) rfl Tryd.runUnderlying22 Tryd.sizeOf5 Tryd.zeroValue5 rfl rfl rfl rfl rfl ?_
    clear ha a; intro a w21 b22 ha hg hb22 hge22 hlt22
    have hz22 : w0.heap.size ≤ b22 := Nat.le_trans hB.size hge22
    have hne_hovo_b22 : ∀ j, Value.ownBlock vo = some j → j ≠ b22 := fun j hj => by have := (hovo.lt j hj).2; omega
    replace hB := keepB0 hg hB
    replace hovo := keepW0 hg hovo
    clear hg hge22 hlt22
    refine sapp (C := ((rsA x k)).map e8) (D := (([((rsX x k) % (256 : UInt64)).toUInt8] : List UInt8)).map e8) ha rfl rfl Tryd.underlying22 rfl rfl rfl rfl hovo (Sl.ofBlockM hb22 (by rw [show ([((rsX x k) % (256 : UInt64)).toUInt8] : List UInt8).length = 1 from rfl]) (by omega)) (one_e8 _) (by simp only [List.length_map, show ([((rsX x k) % (256 : UInt64)).toUInt8] : List UInt8).length = 1 from rfl]; show _ * 1 ≤ _; omega) (by simp only [List.length_map, show ([((rsX x k) % (256 : UInt64)).toUInt8] : List UInt8).length = 1 from rfl]; omega) hB.size rfl ?_
    clear ha a; intro a w24 v23 ha hg ho23 hnl23 hpl23
    rw [← List.map_append, List.length_map, show ([((rsX x k) % (256 : UInt64)).toUInt8] : List UInt8).length = 1 from rfl] at ho23
    rw [List.length_map, show ([((rsX x k) % (256 : UInt64)).toUInt8] : List UInt8).length = 1 from rfl] at hnl23
    have hne_23_b22 : ∀ j, v23.ownBlock = some j → j ≠ b22 := fun j hj => (hpl23 j hj).elim (fun h => hne_hovo_b22 j h) (fun h => by have := lt_of_block hb22; omega)
    replace hB := keepBR hg (own_row hovo) hB
    replace hb22 := keepOR hg (ne_of_ap hne_hovo_b22) hb22
    clear hg
    refine sv ha (r_assign ha rfl) rfl rfl rfl ?_; clear ha a; intro a ha
    refine hK20 _ _ ?_; clear hK20 K19
    refine region ?_
    refine sv ha (r_move ha rfl) rfl rfl rfl ?_; clear ha a; intro a ha
    refine sv ha (ru_quo ha (rsX x k) (256 : UInt64) rfl rfl (by decide)) rfl rfl rfl ?_; clear ha a; intro a ha
    refine sv ha (r_assign ha rfl) rfl rfl rfl ?_; clear ha a; intro a ha
    refine hK18 _ _ ?_; clear hK18 K17
    refine region ?_
    refine sv ha (r_move ha rfl) rfl rfl rfl ?_; clear ha a; intro a ha
    refine sv ha (rn_add ha k 1 rfl rfl (by omega)) rfl rfl rfl ?_; clear ha a; intro a ha
    refine sv ha (r_assign ha rfl) rfl rfl rfl ?_; clear ha a; intro a ha
    exact ⟨k + 1, by omega, v23, (by omega), ha.to [1, 4, 6, 0, 5] rfl, hB, (own_castl (own_len ho23) rfl)⟩

theorem c_rbytes (v : Value) (p : List UInt64) (w0 : World) (hs : Sl w0 v (p.map e64)) (hl : p.length = 25) :
    Calls Tryd.prog 33 #[v] w0 fun e w' => ∃ u0 : Value, e = .returned (u0) ∧ Below w0.heap.size w0 w' ∧ w'.ownsRow w0.heap.size 5 1 u0 (rby p).length ((rby p).map e8) := by
  refine enter (args := [_]) Tryd.func33 rfl Tryd.ntmps33 rfl ?_
  intro a ha
  have hB := Below.refl w0.heap.size w0
  refine wp_seq_k fun K1 hK2 => ?_
  refine region ?_
  refine sv ha (r_assign ha rfl) rfl rfl rfl ?_; clear ha a; intro a ha
  refine hK2 _ _ ?_; clear hK2 K1
  refine wp_seq_k fun K3 hK4 => ?_
  refine region ?_
  refine sv ha (r_assign ha rfl) rfl rfl rfl ?_; clear ha a; intro a ha
  refine hK4 _ _ ?_; clear hK4 K3
  refine wp_seq_k fun K5 hK6 => ?_
  refine wp_seq_k fun K7 hK8 => ?_
  refine region ?_
  refine sv ha (r_assign ha rfl) rfl rfl rfl ?_; clear ha a; intro a ha
  refine hK8 _ _ ?_; clear hK8 K7
  refine wp_block ?_
  refine loopG (fun (k : Nat) a w => ∃ vo : Value, (k ≤ 25) ∧ Has 17 [(0, v), (2, .slice none 0 0), (4, en k), (3, vo)] a ∧ Below w0.heap.size w0 w ∧ w.ownsRow w0.heap.size 5 1 vo (rbA p k).length ((rbA p k).map e8)) (fun k => 25 - k) 0 ⟨.slice none 0 0, (by omega), ha.to [0, 2, 4, 3] rfl, hB, (own_castl (l := ([] : List UInt8)) (World.ownsRow_nil _ _ _ _) rfl)⟩ ?_
  clear ha a hB
  intro k a w9 ⟨vo, hkk, ha, hB, hovo⟩
  have hra := rbA_len p k
  refine wp_seq_k fun K10 hK11 => ?_
  refine wp_seq_k fun K12 hK13 => ?_
  refine region ?_
  refine sv ha (r_move ha rfl) rfl rfl rfl ?_; clear ha a; intro a ha
  refine sv ha (r_lss ha ((k : Nat) : Int) 25 (decide (k < 25)) rfl rfl (decide_eq_decide.2 (by omega))) rfl rfl rfl ?_; clear ha a; intro a ha
  refine hK13 _ _ ?_; clear hK13 K12
  refine cond_if ha rfl (fun hc14 => ?_) (fun hc14 => ?_)
  · skip
    replace hc14 := of_decide_eq_true hc14
    refine wp_skip ?_
    refine hK11 _ _ ?_; clear hK11 K10
    refine wp_seq_k fun K15 hK16 => ?_
    refine wp_block ?_
    refine region ?_
    refine sv ha (r_move ha rfl) rfl rfl rfl ?_; clear ha a; intro a ha
    refine sv ha (r_move ha rfl) rfl rfl rfl ?_; clear ha a; intro a ha
    refine sv ha (r_move ha rfl) rfl rfl rfl ?_; clear ha a; intro a ha
    refine sv ha (r_indexS (i := k) ha Tryd.runUnderlying54 Tryd.sizeOf83 (hs.below hB) (C := (p).map e64) rfl rfl (by rw [List.length_map, hl]; omega)) rfl rfl rfl ?_; clear ha a; intro a ha
    refine sv ha (r_loadS ha rfl Tryd.isAgg83 (hs.below hB) (get_map e64 p 0 k (by rw [hl]; omega))) rfl rfl rfl ?_; clear ha a; intro a ha
    refine sc ha (r_call ha [e64 (p.getD k 0), en 8] rfl Tryd.call68) rfl rfl rfl (c_rstore (p.getD k 0) _ ) ?_
    clear ha a
    rintro e w17 ⟨u18, rfl, hBc, hs18, hd18⟩
    have hg := grown_call hBc; clear hBc
    have hds_hs18_hovo : ∀ j, u18.ownBlock = some j → vo.ownBlock ≠ some j := fun j h1 h2 => by have h3 := hd18 j h1; have h4 := (fun j hj => (hovo.lt j hj).2) j h2; omega
    replace hd18 : ∀ j, u18.ownBlock = some j → w0.heap.size ≤ j := fun j hj => Nat.le_trans hB.size (hd18 j hj)
    replace hB := keepB0 hg hB
    replace hovo := keepW0 hg hovo
    clear hg
    refine ⟨_, rfl, ?_⟩; intro a ha
    refine sapp (C := ((rbA p k)).map e8) (D := (rs8 (p.getD k 0)).map e8) ha rfl rfl Tryd.underlying22 rfl rfl rfl rfl hovo hs18 (one_e8 _) (by simp only [List.length_map, rs8_len]; show _ * 1 ≤ _; omega) (by simp only [List.length_map, rs8_len]; omega) hB.size rfl ?_
    clear ha a; intro a w20 v19 ha hg ho19 hnl19 hpl19
    rw [← List.map_append, List.length_map, rs8_len] at ho19
    rw [List.length_map, rs8_len] at hnl19
    have hds_ho19_hs18 : ∀ j, v19.ownBlock = some j → u18.ownBlock ≠ some j := fun j h1 h2 => (hpl19 j h1).elim (fun h => (fun j h1 h2 => hds_hs18_hovo j h2 h1) j h h2) (fun h => by have h4 := (fun j hj => hs18.lt j hj) j h2; omega)
    replace hB := keepBR hg (own_row hovo) hB
    replace hs18 := keepSR hg (fun j h1 h2 => hds_hs18_hovo j h2 h1) hs18
    clear hg
    refine sv ha (r_assign ha rfl) rfl rfl rfl ?_; clear ha a; intro a ha
    refine hK16 _ _ ?_; clear hK16 K15
    refine region ?_
    refine sv ha (r_move ha rfl) rfl rfl rfl ?_; clear ha a; intro a ha
    refine sv ha (rn_add ha k 1 rfl rfl (by omega)) rfl rfl rfl ?_; clear ha a; intro a ha
    refine sv ha (r_assign ha rfl) rfl rfl rfl ?_; clear ha a; intro a ha
    exact ⟨k + 1, by omega, v19, (by omega), ha.to [0, 2, 4, 3] rfl, hB, (own_castl (own_len ho19) rfl)⟩
  · skip
    replace hc14 := of_decide_eq_false hc14
    refine wp_exit ?_
    obtain rfl : k = 25 := by omega
    refine hK6 _ _ ?_; clear hK11 K10 hK6 K5
    refine wp_seq_k fun K21 hK22 => ?_
    refine region ?_
    refine sv ha (r_move ha rfl) rfl rfl rfl ?_; clear ha a; intro a ha
    refine sv ha (r_assign ha rfl) rfl rfl rfl ?_; clear ha a; intro a ha
    refine hK22 _ _ ?_; clear hK22 K21
    refine wp_ret ?_
    repeat (first | (with_reducible refine t_ret ?_) | (with_reducible refine x_ret ?_))
    exact ret1 ha Tryd.results33 rfl ⟨_, rfl, hB, (own_castl (own_len hovo) rfl)⟩

theorem c_rstate (v : Value) (b : List UInt8) (w0 : World) (hs : Sl w0 v (b.map e8)) (hl : b.length = 200) :
    Calls Tryd.prog 67 #[v] w0 fun e w' => ∃ u0 : Value, e = .returned (u0) ∧ Below w0.heap.size w0 w' ∧ Sl w' u0 ((rst b).map e64) ∧ (∀ j, u0.ownBlock = some j → w0.heap.size ≤ j) := by
  refine enter (args := [_]) Tryd.func67 rfl Tryd.ntmps67 rfl ?_
  intro a ha
  have hB := Below.refl w0.heap.size w0
  refine wp_seq_k fun K1 hK2 => ?_
  refine region ?_
  refine sv ha (r_assign ha rfl) rfl rfl rfl ?_; clear ha a; intro a ha
  refine hK2 _ _ ?_; clear hK2 K1
  refine wp_seq_k fun K3 hK4 => ?_
  refine region ?_
  refine sv ha (r_assign ha rfl) rfl rfl rfl ?_; clear ha a; intro a ha
  refine hK4 _ _ ?_; clear hK4 K3
  refine wp_seq_k fun K5 hK6 => ?_
  refine wp_seq_k fun K7 hK8 => ?_
  refine region ?_
  refine sv ha (r_assign ha rfl) rfl rfl rfl ?_; clear ha a; intro a ha
  refine hK8 _ _ ?_; clear hK8 K7
  refine wp_block ?_
  refine loopG (fun (k : Nat) a w => ∃ vo : Value, (k ≤ 25) ∧ Has 21 [(0, v), (2, .slice none 0 0), (4, en k), (3, vo)] a ∧ Below w0.heap.size w0 w ∧ w.ownsRow w0.heap.size 83 1 vo (rstA b k).length ((rstA b k).map e64)) (fun k => 25 - k) 0 ⟨.slice none 0 0, (by omega), ha.to [0, 2, 4, 3] rfl, hB, (own_castl (l := ([] : List UInt64)) (World.ownsRow_nil _ _ _ _) rfl)⟩ ?_
  clear ha a hB
  intro k a w9 ⟨vo, hkk, ha, hB, hovo⟩
  have hra := rstA_len b k
  refine wp_seq_k fun K10 hK11 => ?_
  refine wp_seq_k fun K12 hK13 => ?_
  refine region ?_
  refine sv ha (r_move ha rfl) rfl rfl rfl ?_; clear ha a; intro a ha
  refine sv ha (r_lss ha ((k : Nat) : Int) 25 (decide (k < 25)) rfl rfl (decide_eq_decide.2 (by omega))) rfl rfl rfl ?_; clear ha a; intro a ha
  refine hK13 _ _ ?_; clear hK13 K12
  refine cond_if ha rfl (fun hc14 => ?_) (fun hc14 => ?_)
  · skip
    replace hc14 := of_decide_eq_true hc14
    refine wp_skip ?_
    refine hK11 _ _ ?_; clear hK11 K10
    refine wp_seq_k fun K15 hK16 => ?_
    refine wp_block ?_
    refine region ?_
    refine sv ha (r_move ha rfl) rfl rfl rfl ?_; clear ha a; intro a ha
    refine sv ha (r_move ha rfl) rfl rfl rfl ?_; clear ha a; intro a ha
    refine sv ha (r_move ha rfl) rfl rfl rfl ?_; clear ha a; intro a ha
    refine sv ha (rn_mul ha 8 k rfl rfl (by omega)) rfl rfl rfl ?_; clear ha a; intro a ha
    refine sv ha (r_move ha rfl) rfl rfl rfl ?_; clear ha a; intro a ha
    refine sv ha (rn_mul ha 8 k rfl rfl (by omega)) rfl rfl rfl ?_; clear ha a; intro a ha
    refine sv ha (rn_add ha (8 * k) 8 rfl rfl (by omega)) rfl rfl rfl ?_; clear ha a; intro a ha
    refine sv ha (r_resl (C := (b).map e8) ha (8 * k) ((8 * k) + 8) Tryd.runUnderlying22 Tryd.sizeOf5 (hs.below hB) rfl rfl rfl (by omega) (by rw [List.length_map]; exact (by omega))) rfl rfl rfl ?_; clear ha a; intro a ha
    refine sc ha (r_call ha [(rsl v (8 * k) ((8 * k) + 8))] rfl Tryd.call93) rfl rfl rfl (c_rload (rsl v (8 * k) ((8 * k) + 8)) ((b.drop (8 * k)).take (((8 * k) + 8) - (8 * k))) _ (Sl.cutM (lo := 8 * k) (hi := (8 * k) + 8) (hs.below hB) (by omega) (by omega)) (by rw [List.length_take]; omega)) ?_
    clear ha a
    rintro e w17 ⟨rfl, hBc⟩
    have hg := grown_call hBc; clear hBc
    replace hB := keepB0 hg hB
    replace hovo := keepW0 hg hovo
    clear hg
    refine ⟨_, rfl, ?_⟩; intro a ha
    refine sbuildS ha [(0, e64 (ldR ((b.drop (8 * k)).take (((8 * k) + 8) - (8 * k)))))] (([ldR ((b.drop (8 * k)).take (((8 * k) + 8) - (8 * k)))] : List UInt64).map e64) rfl Tryd.runUnderlying54 Tryd.sizeOf83 Tryd.zeroValue83 rfl rfl rfl rfl rfl ?_
    clear ha a; intro a w18 b19 ha hg hb19 hge19 hlt19
    have hz19 : w0.heap.size ≤ b19 := Nat.le_trans hB.size hge19
    have hne_hovo_b19 : ∀ j, Value.ownBlock vo = some j → j ≠ b19 := fun j hj => by have := (hovo.lt j hj).2; omega
    replace hB := keepB0 hg hB
    replace hovo := keepW0 hg hovo
    clear hg hge19 hlt19
    refine sapp (C := ((rstA b k)).map e64) (D := (([ldR ((b.drop (8 * k)).take (((8 * k) + 8) - (8 * k)))] : List UInt64)).map e64) ha rfl rfl Tryd.underlying54 rfl rfl rfl rfl hovo (Sl.ofBlockM hb19 (by rw [show ([ldR ((b.drop (8 * k)).take (((8 * k) + 8) - (8 * k)))] : List UInt64).length = 1 from rfl]) (by omega)) (one_e64 _) (by simp only [List.length_map, show ([ldR ((b.drop (8 * k)).take (((8 * k) + 8) - (8 * k)))] : List UInt64).length = 1 from rfl]; show _ * 8 ≤ _; omega) (by simp only [List.length_map, show ([ldR ((b.drop (8 * k)).take (((8 * k) + 8) - (8 * k)))] : List UInt64).length = 1 from rfl]; omega) hB.size rfl ?_
    clear ha a; intro a w21 v20 ha hg ho20 hnl20 hpl20
    rw [← List.map_append, List.length_map, show ([ldR ((b.drop (8 * k)).take (((8 * k) + 8) - (8 * k)))] : List UInt64).length = 1 from rfl] at ho20
    rw [List.length_map, show ([ldR ((b.drop (8 * k)).take (((8 * k) + 8) - (8 * k)))] : List UInt64).length = 1 from rfl] at hnl20
    have hne_20_b19 : ∀ j, v20.ownBlock = some j → j ≠ b19 := fun j hj => (hpl20 j hj).elim (fun h => hne_hovo_b19 j h) (fun h => by have := lt_of_block hb19; omega)
    replace hB := keepBR hg (own_row hovo) hB
    replace hb19 := keepOR hg (ne_of_ap hne_hovo_b19) hb19
    clear hg
    refine sv ha (r_assign ha rfl) rfl rfl rfl ?_; clear ha a; intro a ha
    refine hK16 _ _ ?_; clear hK16 K15
    refine region ?_
    refine sv ha (r_move ha rfl) rfl rfl rfl ?_; clear ha a; intro a ha
    refine sv ha (rn_add ha k 1 rfl rfl (by omega)) rfl rfl rfl ?_; clear ha a; intro a ha
    refine sv ha (r_assign ha rfl) rfl rfl rfl ?_; clear ha a; intro a ha
    exact ⟨k + 1, by omega, v20, (by omega), ha.to [0, 2, 4, 3] rfl, hB, (own_castl (own_len ho20) rfl)⟩
  · skip
    replace hc14 := of_decide_eq_false hc14
    refine wp_exit ?_
    obtain rfl : k = 25 := by omega
    refine hK6 _ _ ?_; clear hK11 K10 hK6 K5
    refine wp_seq_k fun K22 hK23 => ?_
    refine region ?_
    refine sv ha (r_move ha rfl) rfl rfl rfl ?_; clear ha a; intro a ha
    refine sv ha (r_assign ha rfl) rfl rfl rfl ?_; clear ha a; intro a ha
    refine hK23 _ _ ?_; clear hK23 K22
    refine wp_ret ?_
    repeat (first | (with_reducible refine t_ret ?_) | (with_reducible refine x_ret ?_))
    exact ret1 ha Tryd.results67 rfl ⟨_, rfl, hB, (Sl.castM (l := rstA b 25) (Sl.ofOwns hovo) rfl), (own_row hovo)⟩

theorem c_rabsO (rate : Int) (s : UInt8) (v : Value) (b : List UInt8) (w0 : World) (hr : rate < 1 ∨ 200 < rate) (hs : Sl w0 v (b.map e8)) :
    Calls Tryd.prog 32 #[ei rate, e8 s, v] w0 fun e w' => ∃ u0 : Value, e = .returned (u0) ∧ Below w0.heap.size w0 w' ∧ Sl w' u0 ((noughts).map e64) ∧ (∀ j, u0.ownBlock = some j → w0.heap.size ≤ j) := by
  refine enter (args := [_, _, _]) Tryd.func32 rfl Tryd.ntmps32 rfl ?_
  intro a ha
  have hB := Below.refl w0.heap.size w0
  refine wp_seq_k fun K1 hK2 => ?_
  refine region ?_
  refine sv ha (r_assign ha rfl) rfl rfl rfl ?_; clear ha a; intro a ha
  refine hK2 _ _ ?_; clear hK2 K1
  refine wp_seq_k fun K3 hK4 => ?_
  refine region ?_
  refine smake (k := 25) ha rfl rfl Tryd.underlying54 rfl rfl rfl rfl (show 8 * _ ≤ _ by omega) (by omega) rfl ?_
  clear ha a; intro a w5 b6 ha hg hb6 hge6 hlt6
  have hz6 : w0.heap.size ≤ b6 := Nat.le_trans hB.size hge6
  replace hB := keepB0 hg hB
  clear hg hge6 hlt6
  rw [show (List.replicate 25 (Value.int .u64 0)) = (List.replicate 25 (0 : UInt64)).map e64 by rw [List.map_replicate]; rfl] at hb6
  refine sv ha (r_assign ha rfl) rfl rfl rfl ?_; clear ha a; intro a ha
  refine hK4 _ _ ?_; clear hK4 K3
  refine wp_seq_k fun K7 hK8 => ?_
  refine wp_seq_k fun K9 hK10 => ?_
  refine region ?_
  refine sv ha (r_move ha rfl) rfl rfl rfl ?_; clear ha a; intro a ha
  refine sv ha (r_lss ha rate 1 (decide (rate < 1)) rfl rfl (decide_eq_decide.2 (by omega))) rfl rfl rfl ?_; clear ha a; intro a ha
  refine sv ha (r_move ha rfl) rfl rfl rfl ?_; clear ha a; intro a ha
  cases hq11 : (decide (rate < 1))
  all_goals rw [hq11] at ha
  case false =>
    replace hq11 := of_decide_eq_false hq11
    refine svg ha (r_move ha rfl) rfl rfl rfl rfl rfl ?_; clear ha a; intro a ha
    refine svg ha (r_gtr ha rate 200 true rfl rfl (decide_eq_true (by omega))) rfl rfl rfl rfl rfl ?_; clear ha a; intro a ha
    refine sv ha (r_pick ha false rfl rfl) rfl rfl rfl ?_; clear ha a; intro a ha
    refine hK10 _ _ ?_; clear hK10 K9
    refine cond_t ha rfl ?_
    refine wp_seq_k fun K12 hK13 => ?_
    refine region ?_
    refine sv ha (r_move ha rfl) rfl rfl rfl ?_; clear ha a; intro a ha
    refine sv ha (r_assign ha rfl) rfl rfl rfl ?_; clear ha a; intro a ha
    refine hK13 _ _ ?_; clear hK13 K12
    refine wp_ret ?_
    repeat (first | (with_reducible refine t_ret ?_) | (with_reducible refine x_ret ?_))
    exact ret1 ha Tryd.results32 rfl ⟨_, rfl, hB, (Sl.castM (l := List.replicate 25 (0 : UInt64)) (Sl.ofBlockM hb6 (by rw [List.length_replicate]) (by omega)) rfl), (fun j hj => by cases hj; exact hz6)⟩
  case true =>
    replace hq11 := of_decide_eq_true hq11
    refine sno ha rfl rfl rfl rfl rfl rfl ?_; clear ha a; intro a ha
    refine sno ha rfl rfl rfl rfl rfl rfl ?_; clear ha a; intro a ha
    refine sv ha (r_pick ha true rfl rfl) rfl rfl rfl ?_; clear ha a; intro a ha
    refine hK10 _ _ ?_; clear hK10 K9
    refine cond_t ha rfl ?_
    refine wp_seq_k fun K14 hK15 => ?_
    refine region ?_
    refine sv ha (r_move ha rfl) rfl rfl rfl ?_; clear ha a; intro a ha
    refine sv ha (r_assign ha rfl) rfl rfl rfl ?_; clear ha a; intro a ha
    refine hK15 _ _ ?_; clear hK15 K14
    refine wp_ret ?_
    repeat (first | (with_reducible refine t_ret ?_) | (with_reducible refine x_ret ?_))
    exact ret1 ha Tryd.results32 rfl ⟨_, rfl, hB, (Sl.castM (l := List.replicate 25 (0 : UInt64)) (Sl.ofBlockM hb6 (by rw [List.length_replicate]) (by omega)) rfl), (fun j hj => by cases hj; exact hz6)⟩
end Go.Proofs.YtaignhikdfpbbaaDoor
