/- WALKS written by gen.py (own program) out of specs. -/
import Derived.Test.YtaignhikdfpbbaaDoorK2
import Derived.Test.YtaignhikdfpbbaaDoorRxI
import Derived.Test.YtaignhikdfpbbaaDoorSk
namespace Go.Proofs.YtaignhikdfpbbaaDoor
open Go.RowKit Go.Rx
set_option maxRecDepth 100000
set_option maxHeartbeats 4000000
set_option linter.unusedVariables false
set_option linter.unusedSimpArgs false

theorem c_load (v : Value) (b : List UInt8) (w0 : World) (hs : Sl w0 v (b.map e8)) :
    Calls Tryd.prog 109 #[v] w0 fun e w' => e = .returned (e64 (ld8 b)) ∧ Below w0.heap.size w0 w' := by
  refine enter (args := [_]) Tryd.func109 rfl Tryd.ntmps109 rfl ?_
  intro a ha
  have hB := Below.refl w0.heap.size w0
  refine wp_seq_k fun K1 hK2 => ?_
  refine region ?_
  refine sv ha (r_assign ha rfl) rfl rfl rfl ?_; clear ha a; intro a ha
  refine hK2 _ _ ?_; clear hK2 K1
  refine wp_seq_k fun K3 hK4 => ?_
  refine region ?_
  refine sv ha (r_assign ha rfl) rfl rfl rfl ?_; clear ha a; intro a ha
  refine hK4 _ _ ?_; clear hK4 K3
  refine wp_seq_k fun K5 hK6 => ?_
  refine wp_seq_k fun K7 hK8 => ?_
  refine region ?_
  refine sv ha (r_move ha rfl) rfl rfl rfl ?_; clear ha a; intro a ha
  refine sv ha (r_lenS ha Tryd.runUnderlying22 (hs.below hB) rfl (by rw [List.length_map])) rfl rfl rfl ?_; clear ha a; intro a ha
  refine sv ha (rn_min ha b.length 8 rfl rfl) rfl rfl rfl ?_; clear ha a; intro a ha
  refine sv ha (r_move ha rfl) rfl rfl rfl ?_; clear ha a; intro a ha
  refine hK8 _ _ ?_; clear hK8 K7
  refine wp_block ?_
  refine loopG (fun (k : Nat) a w => (k ≤ (min b.length 8)) ∧ Has 24 [(0, v), (2, .int .u64 0), (5, v), (6, en b.length), (7, en (min b.length 8)), (3, e64 (ldA b k)), (8, en k)] a ∧ Below w0.heap.size w0 w) (fun k => (min b.length 8) - k) 0 ⟨(by omega), ha.to [0, 2, 5, 6, 7, 3, 8] rfl, hB⟩ ?_
  clear ha a hB
  intro k a w9 ⟨hkk, ha, hB⟩
  refine wp_seq_k fun K10 hK11 => ?_
  refine region ?_
  refine sv ha (r_lss ha ((k : Nat) : Int) ((min b.length 8 : Nat) : Int) (decide (k < min b.length 8)) rfl rfl (decide_eq_decide.2 (by omega))) rfl rfl rfl ?_; clear ha a; intro a ha
  refine hK11 _ _ ?_; clear hK11 K10
  refine wp_seq_k fun K12 hK13 => ?_
  refine cond_if ha rfl (fun hc14 => ?_) (fun hc14 => ?_)
  · skip
    replace hc14 := of_decide_eq_true hc14
    refine wp_skip ?_
    refine hK13 _ _ ?_; clear hK13 K12
    refine wp_seq_k fun K15 hK16 => ?_
    refine wp_block ?_
    refine wp_seq_k fun K17 hK18 => ?_
    refine region ?_
    refine sv ha (r_move ha rfl) rfl rfl rfl ?_; clear ha a; intro a ha
    refine sv ha (r_assign ha rfl) rfl rfl rfl ?_; clear ha a; intro a ha
    refine hK18 _ _ ?_; clear hK18 K17
    refine region ?_
    refine sv ha (r_move ha rfl) rfl rfl rfl ?_; clear ha a; intro a ha
    refine sv ha (r_move ha rfl) rfl rfl rfl ?_; clear ha a; intro a ha
    refine sv ha (r_move ha rfl) rfl rfl rfl ?_; clear ha a; intro a ha
    refine sv ha (r_indexS (i := k) ha Tryd.runUnderlying22 Tryd.sizeOf5 (hs.below hB) (C := (b).map e8) rfl rfl (by rw [List.length_map]; omega)) rfl rfl rfl ?_; clear ha a; intro a ha
    refine sv ha (r_loadS ha rfl Tryd.isAgg5 (hs.below hB) (get_map e8 b 0 k (by omega))) rfl rfl rfl ?_; clear ha a; intro a ha
    refine sv ha (r_conv_u8_u64 ha (b.getD k 0) Tryd.runUnderlying5 Tryd.runUnderlying83 rfl) rfl rfl rfl ?_; clear ha a; intro a ha
    refine sv ha (r_move ha rfl) rfl rfl rfl ?_; clear ha a; intro a ha
    refine sv ha (rn_mul ha 8 k rfl rfl (by omega)) rfl rfl rfl ?_; clear ha a; intro a ha
    refine sv ha (r_conv_n_u64 ha (8 * k) Tryd.runUnderlying3 Tryd.runUnderlying45 rfl (by omega)) rfl rfl rfl ?_; clear ha a; intro a ha
    refine sv ha (ru_shl ha ((b.getD k 0).toUInt64) (8 * k) rfl rfl (by omega)) rfl rfl rfl ?_; clear ha a; intro a ha
    refine sv ha (ru_or ha (ldA b k) (((b.getD k 0).toUInt64) <<< UInt64.ofNat (8 * k)) rfl rfl) rfl rfl rfl ?_; clear ha a; intro a ha
    refine sv ha (r_assign ha rfl) rfl rfl rfl ?_; clear ha a; intro a ha
    refine hK16 _ _ ?_; clear hK16 K15
    refine region ?_
    refine sv ha (rn_add ha k 1 rfl rfl (by omega)) rfl rfl rfl ?_; clear ha a; intro a ha
    refine sv ha (r_move ha rfl) rfl rfl rfl ?_; clear ha a; intro a ha
    exact ⟨k + 1, by omega, (by omega), ha.to [0, 2, 5, 6, 7, 3, 8] rfl, hB⟩
  · skip
    replace hc14 := of_decide_eq_false hc14
    refine wp_exit ?_
    obtain rfl : k = (min b.length 8) := by omega
    refine hK6 _ _ ?_; clear hK13 K12 hK6 K5
    refine wp_seq_k fun K19 hK20 => ?_
    refine region ?_
    refine sv ha (r_move ha rfl) rfl rfl rfl ?_; clear ha a; intro a ha
    refine sv ha (r_assign ha rfl) rfl rfl rfl ?_; clear ha a; intro a ha
    refine hK20 _ _ ?_; clear hK20 K19
    refine wp_ret ?_
    repeat (first | (with_reducible refine t_ret ?_) | (with_reducible refine x_ret ?_))
    exact ret1 ha Tryd.results109 rfl ⟨rfl, hB⟩

theorem c_store (x : UInt64) (w0 : World) :
    Calls Tryd.prog 92 #[e64 x, en 8] w0 fun e w' => ∃ b, e = .returned (.slice (some ⟨b, 0, none⟩) 8 8) ∧ Below w0.heap.size w0 w' ∧ w'.heap[b]? = some (.cells ((st8 x).map e8).toArray 5 (0, 0)) ∧ w0.heap.size ≤ b := by
  refine enter (args := [_, _]) Tryd.func92 rfl Tryd.ntmps92 rfl ?_
  intro a ha
  have hB := Below.refl w0.heap.size w0
  refine wp_seq_k fun K1 hK2 => ?_
  refine region ?_
  refine sv ha (r_assign ha rfl) rfl rfl rfl ?_; clear ha a; intro a ha
  refine hK2 _ _ ?_; clear hK2 K1
  refine wp_seq_k fun K3 hK4 => ?_
  refine region ?_
  refine sv ha (r_move ha rfl) rfl rfl rfl ?_; clear ha a; intro a ha
  refine sv ha (rn_max ha 8 0 rfl rfl) rfl rfl rfl ?_; clear ha a; intro a ha
  refine sv ha (v_of (rn_min ha (max 8 0) 8 rfl rfl) (congrArg en (rfl : min (max 8 0) 8 = 8))) rfl rfl rfl ?_; clear ha a; intro a ha
  refine smake (k := 8) ha rfl rfl Tryd.underlying22 rfl rfl rfl rfl (show 1 * _ ≤ _ by omega) (by omega) rfl ?_
  clear ha a; intro a w5 b6 ha hg hb6 hge6 hlt6
  have hz6 : w0.heap.size ≤ b6 := Nat.le_trans hB.size hge6
  replace hB := keepB0 hg hB
  clear hg hge6 hlt6
  rw [show (List.replicate 8 (Value.int .u8 0)) = (List.replicate 8 (0 : UInt8)).map e8 by rw [List.map_replicate]; rfl] at hb6
  refine sv ha (r_assign ha rfl) rfl rfl rfl ?_; clear ha a; intro a ha
  refine hK4 _ _ ?_; clear hK4 K3
  refine wp_seq_k fun K7 hK8 => ?_
  refine wp_seq_k fun K9 hK10 => ?_
  refine region ?_
  refine sv ha (r_move ha rfl) rfl rfl rfl ?_; clear ha a; intro a ha
  refine sv ha (r_lenB ha Tryd.runUnderlying22 rfl) rfl rfl rfl ?_; clear ha a; intro a ha
  refine sv ha (r_move ha rfl) rfl rfl rfl ?_; clear ha a; intro a ha
  refine hK10 _ _ ?_; clear hK10 K9
  refine wp_block ?_
  refine loopG (fun (k : Nat) a w => (k ≤ 8) ∧ Has 27 [(0, e64 x), (1, en 8), (4, .slice none 0 0), (7, en 8), (8, en (max 8 0)), (9, en 8), (10, .slice (some ⟨b6, 0, none⟩) 8 8), (5, .slice (some ⟨b6, 0, none⟩) 8 8), (11, .slice (some ⟨b6, 0, none⟩) 8 8), (12, en 8), (13, en k)] a ∧ Below w0.heap.size w0 w ∧ w.heap[b6]? = some (.cells ((stA x k).map e8).toArray 5 (0, 0))) (fun k => 8 - k) 0 ⟨(by omega), ha.to [0, 1, 4, 7, 8, 9, 10, 5, 11, 12, 13] rfl, hB, hb6⟩ ?_
  clear ha a hB hb6
  intro k a w11 ⟨hkk, ha, hB, hb6⟩
  refine wp_seq_k fun K12 hK13 => ?_
  refine region ?_
  refine sv ha (r_lss ha ((k : Nat) : Int) ((8 : Nat) : Int) (decide (k < 8)) rfl rfl (decide_eq_decide.2 (by omega))) rfl rfl rfl ?_; clear ha a; intro a ha
  refine hK13 _ _ ?_; clear hK13 K12
  refine wp_seq_k fun K14 hK15 => ?_
  refine cond_if ha rfl (fun hc16 => ?_) (fun hc16 => ?_)
  · skip
    replace hc16 := of_decide_eq_true hc16
    refine wp_skip ?_
    refine hK15 _ _ ?_; clear hK15 K14
    refine wp_seq_k fun K17 hK18 => ?_
    refine wp_block ?_
    refine wp_seq_k fun K19 hK20 => ?_
    refine region ?_
    refine sv ha (r_move ha rfl) rfl rfl rfl ?_; clear ha a; intro a ha
    refine sv ha (r_assign ha rfl) rfl rfl rfl ?_; clear ha a; intro a ha
    refine hK20 _ _ ?_; clear hK20 K19
    refine region ?_
    refine sv ha (r_move ha rfl) rfl rfl rfl ?_; clear ha a; intro a ha
    refine sv ha (r_move ha rfl) rfl rfl rfl ?_; clear ha a; intro a ha
    refine sv ha (r_move ha rfl) rfl rfl rfl ?_; clear ha a; intro a ha
    refine sv ha (r_move ha rfl) rfl rfl rfl ?_; clear ha a; intro a ha
    refine sv ha (rn_mul ha 8 k rfl rfl (by omega)) rfl rfl rfl ?_; clear ha a; intro a ha
    refine sv ha (r_conv_n_u64 ha (8 * k) Tryd.runUnderlying3 Tryd.runUnderlying45 rfl (by omega)) rfl rfl rfl ?_; clear ha a; intro a ha
    refine sv ha (ru_shr ha x (8 * k) rfl rfl (by omega)) rfl rfl rfl ?_; clear ha a; intro a ha
    refine sv ha (r_conv_u64_u8 ha (x >>> UInt64.ofNat (8 * k)) Tryd.runUnderlying83 Tryd.runUnderlying5 rfl) rfl rfl rfl ?_; clear ha a; intro a ha
    refine sv ha (r_indexB ha k Tryd.runUnderlying22 Tryd.sizeOf5 rfl rfl (by omega)) rfl rfl rfl ?_; clear ha a; intro a ha
    refine sstore ha (v := e8 ((x >>> UInt64.ofNat (8 * k)).toUInt8)) rfl rfl rfl rfl Tryd.sizeOf5 hb6 (by rw [List.length_map, stA_len]; omega) ?_
    clear ha a; intro a w21 ha hg hb6'
    rw [set_map] at hb6'
    clear hb6; have hb6 := hb6'; clear hb6'
    replace hB := keepB1 hg (by omega) hB
    clear hg
    refine hK18 _ _ ?_; clear hK18 K17
    refine region ?_
    refine sv ha (rn_add ha k 1 rfl rfl (by omega)) rfl rfl rfl ?_; clear ha a; intro a ha
    refine sv ha (r_move ha rfl) rfl rfl rfl ?_; clear ha a; intro a ha
    exact ⟨k + 1, by omega, (by omega), ha.to [0, 1, 4, 7, 8, 9, 10, 5, 11, 12, 13] rfl, hB, hb6⟩
  · skip
    replace hc16 := of_decide_eq_false hc16
    refine wp_exit ?_
    obtain rfl : k = 8 := by omega
    refine hK8 _ _ ?_; clear hK15 K14 hK8 K7
    refine wp_seq_k fun K22 hK23 => ?_
    refine region ?_
    refine sv ha (r_move ha rfl) rfl rfl rfl ?_; clear ha a; intro a ha
    refine sv ha (r_assign ha rfl) rfl rfl rfl ?_; clear ha a; intro a ha
    refine hK23 _ _ ?_; clear hK23 K22
    refine wp_ret ?_
    repeat (first | (with_reducible refine t_ret ?_) | (with_reducible refine x_ret ?_))
    exact ret1 ha Tryd.results92 rfl ⟨_, rfl, hB, hb6, hz6⟩

theorem c_join (v : Value) (vs : List Value) (ls : List (List UInt8)) (w0 : World) (hjv : Sl w0 v vs) (hsv : Rows8 w0 vs ls) (hb : ls.flatten.length ≤ 140737488355328) (hc : ls.length ≤ 1000) :
    Calls Tryd.prog 39 #[v] w0 fun e w' => ∃ u0 : Value, e = .returned (u0) ∧ Below w0.heap.size w0 w' ∧ Sl w' u0 ((ls.flatten).map e8) ∧ (∀ j, u0.ownBlock = some j → w0.heap.size ≤ j) := by
  refine enter (args := [_]) Tryd.func39 rfl Tryd.ntmps39 rfl ?_
  intro a ha
  have hB := Below.refl w0.heap.size w0
  refine wp_seq_k fun K1 hK2 => ?_
  refine region ?_
  refine sv ha (r_assign ha rfl) rfl rfl rfl ?_; clear ha a; intro a ha
  refine hK2 _ _ ?_; clear hK2 K1
  refine wp_seq_k fun K3 hK4 => ?_
  refine region ?_
  refine sv ha (r_assign ha rfl) rfl rfl rfl ?_; clear ha a; intro a ha
  refine hK4 _ _ ?_; clear hK4 K3
  refine wp_seq_k fun K5 hK6 => ?_
  refine wp_seq_k fun K7 hK8 => ?_
  refine region ?_
  refine sv ha (r_move ha rfl) rfl rfl rfl ?_; clear ha a; intro a ha
  refine sv ha (r_lenS ha Tryd.runUnderlying93 (hjv.below hB) rfl hsv.len) rfl rfl rfl ?_; clear ha a; intro a ha
  refine sv ha (r_move ha rfl) rfl rfl rfl ?_; clear ha a; intro a ha
  refine hK8 _ _ ?_; clear hK8 K7
  refine wp_block ?_
  refine loopG (fun (k : Nat) a w => ∃ vo : Value, (k ≤ ls.length) ∧ Has 17 [(0, v), (2, .slice none 0 0), (6, v), (7, en ls.length), (8, en k), (3, vo)] a ∧ Below w0.heap.size w0 w ∧ w.ownsRow w0.heap.size 5 1 vo ((ls.take k).flatten).length (((ls.take k).flatten).map e8)) (fun k => ls.length - k) 0 ⟨.slice none 0 0, (by omega), ha.to [0, 2, 6, 7, 8, 3] rfl, hB, (own_castl (l := ([] : List UInt8)) (World.ownsRow_nil _ _ _ _) (by rw [List.take_zero]; rfl))⟩ ?_
  clear ha a hB
  intro k a w9 ⟨vo, hkk, ha, hB, hovo⟩
  refine wp_seq_k fun K10 hK11 => ?_
  refine region ?_
  refine sv ha (r_lss ha ((k : Nat) : Int) ((ls.length : Nat) : Int) (decide (k < ls.length)) rfl rfl (decide_eq_decide.2 (by omega))) rfl rfl rfl ?_; clear ha a; intro a ha
  refine hK11 _ _ ?_; clear hK11 K10
  refine wp_seq_k fun K12 hK13 => ?_
  refine cond_if ha rfl (fun hc14 => ?_) (fun hc14 => ?_)
  · skip
    replace hc14 := of_decide_eq_true hc14
    refine wp_skip ?_
    refine hK13 _ _ ?_; clear hK13 K12
    refine wp_seq_k fun K15 hK16 => ?_
    refine wp_block ?_
    refine wp_seq_k fun K17 hK18 => ?_
    refine region ?_
    refine sv ha (r_indexS (i := k) ha Tryd.runUnderlying93 Tryd.sizeOf22 (hjv.below hB) (C := vs) rfl rfl (by rw [hsv.len]; omega)) rfl rfl rfl ?_; clear ha a; intro a ha
    obtain ⟨x19, hx19, hs19⟩ := hsv.get k (by omega)
    refine sv ha (r_loadS ha rfl Tryd.isAgg22 (hjv.below hB) hx19) rfl rfl rfl ?_; clear ha a; intro a ha
    refine sv ha (r_assign ha rfl) rfl rfl rfl ?_; clear ha a; intro a ha
    refine hK18 _ _ ?_; clear hK18 K17
    refine region ?_
    refine sv ha (r_move ha rfl) rfl rfl rfl ?_; clear ha a; intro a ha
    refine sv ha (r_move ha rfl) rfl rfl rfl ?_; clear ha a; intro a ha
    refine sapp (C := (((ls.take k).flatten)).map e8) (D := (ls.getD k []).map e8) ha rfl rfl Tryd.underlying22 rfl rfl rfl rfl hovo (hs19.below hB) (one_e8 _) (by have := flat_le ls k (by omega); simp only [List.length_map]; show _ * 1 ≤ _; omega) (by have := flat_le ls k (by omega); simp only [List.length_map]; omega) hB.size rfl ?_
    clear ha a; intro a w21 v20 ha hg ho20 hnl20 hpl20
    rw [← List.map_append, List.length_map] at ho20
    replace hB := keepBR hg (own_row hovo) hB
    clear hg
    refine sv ha (r_assign ha rfl) rfl rfl rfl ?_; clear ha a; intro a ha
    refine hK16 _ _ ?_; clear hK16 K15
    refine region ?_
    refine sv ha (rn_add ha k 1 rfl rfl (by omega)) rfl rfl rfl ?_; clear ha a; intro a ha
    refine sv ha (r_move ha rfl) rfl rfl rfl ?_; clear ha a; intro a ha
    exact ⟨k + 1, by omega, v20, (by omega), ha.to [0, 2, 6, 7, 8, 3] rfl, hB, (own_castl (own_len ho20) (flat_take ls k (by omega)).symm)⟩
  · skip
    replace hc14 := of_decide_eq_false hc14
    refine wp_exit ?_
    obtain rfl : k = ls.length := by omega
    refine hK6 _ _ ?_; clear hK13 K12 hK6 K5
    refine wp_seq_k fun K22 hK23 => ?_
    refine region ?_
    refine sv ha (r_move ha rfl) rfl rfl rfl ?_; clear ha a; intro a ha
    refine sv ha (r_assign ha rfl) rfl rfl rfl ?_; clear ha a; intro a ha
    refine hK23 _ _ ?_; clear hK23 K22
    refine wp_ret ?_
    repeat (first | (with_reducible refine t_ret ?_) | (with_reducible refine x_ret ?_))
    exact ret1 ha Tryd.results39 rfl ⟨_, rfl, hB, (Sl.castM (l := (ls.take ls.length).flatten) (Sl.ofOwns hovo) (by rw [List.take_length])), (own_row hovo)⟩
end Go.Proofs.YtaignhikdfpbbaaDoor
