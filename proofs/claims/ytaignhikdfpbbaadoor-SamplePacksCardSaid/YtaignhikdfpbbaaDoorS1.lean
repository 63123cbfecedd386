/- WALKS written by gen.py (own program) out of specs. -/
import Derived.Test.YtaignhikdfpbbaaDoorQ5
import Derived.Test.YtaignhikdfpbbaaDoorZ1
import Derived.Test.YtaignhikdfpbbaaDoorSm
import Derived.Test.YtaignhikdfpbbaaDoorRxL
namespace Go.Proofs.YtaignhikdfpbbaaDoor
open Go.RowKit Go.Rx
set_option maxRecDepth 100000
set_option maxHeartbeats 4000000
set_option linter.unusedVariables false
set_option linter.unusedSimpArgs false

theorem c_bits (v : Value) (b : List UInt8) (k0 n : Nat) (w0 : World) (hs : Sl w0 v (b.map e8)) (hn : n ≤ 12) (hb : k0 + n ≤ 8 * b.length) (hat : k0 ≤ 100000) :
    Calls Tryd.prog 42 #[v, en k0, en n] w0 fun e w' => e = .returned (en (btA b k0 n)) ∧ Below w0.heap.size w0 w' := by
  refine enter (args := [_, _, _]) Tryd.func42 rfl Tryd.ntmps42 rfl ?_
  intro a ha
  have hB := Below.refl w0.heap.size w0
  refine wp_seq_k fun K1 hK2 => ?_
  refine region ?_
  refine sv ha (r_assign ha rfl) rfl rfl rfl ?_; clear ha a; intro a ha
  refine hK2 _ _ ?_; clear hK2 K1
  refine wp_seq_k fun K3 hK4 => ?_
  refine region ?_
  refine sv ha (r_assign ha rfl) rfl rfl rfl ?_; clear ha a; intro a ha
  refine hK4 _ _ ?_; clear hK4 K3
  refine wp_seq_k fun K5 hK6 => ?_
  refine wp_seq_k fun K7 hK8 => ?_
  refine region ?_
  refine sv ha (r_move ha rfl) rfl rfl rfl ?_; clear ha a; intro a ha
  refine sv ha (r_move ha rfl) rfl rfl rfl ?_; clear ha a; intro a ha
  refine hK8 _ _ ?_; clear hK8 K7
  refine wp_block ?_
  refine loopG (fun (i : Nat) a w => (i ≤ n) ∧ Has 35 [(0, v), (1, en k0), (2, en n), (6, .int .i64 0), (10, en n), (11, en i), (7, en (btA b k0 i))] a ∧ Below w0.heap.size w0 w) (fun i => n - i) 0 ⟨(by omega), ha.to [0, 1, 2, 6, 10, 11, 7] rfl, hB⟩ ?_
  clear ha a hB
  intro i a w9 ⟨hki, ha, hB⟩
  refine wp_seq_k fun K10 hK11 => ?_
  refine region ?_
  refine sv ha (r_lss ha ((i : Nat) : Int) ((n : Nat) : Int) (decide (i < n)) rfl rfl (decide_eq_decide.2 (by omega))) rfl rfl rfl ?_; clear ha a; intro a ha
  refine hK11 _ _ ?_; clear hK11 K10
  refine wp_seq_k fun K12 hK13 => ?_
  refine cond_if ha rfl (fun hc14 => ?_) (fun hc14 => ?_)
  · skip
    replace hc14 := of_decide_eq_true hc14
    refine wp_skip ?_
    refine hK13 _ _ ?_; clear hK13 K12
    refine wp_seq_k fun K15 hK16 => ?_
    refine wp_block ?_
    refine wp_seq_k fun K17 hK18 => ?_
    refine region ?_
    refine sv ha (r_move ha rfl) rfl rfl rfl ?_; clear ha a; intro a ha
    refine sv ha (r_assign ha rfl) rfl rfl rfl ?_; clear ha a; intro a ha
    refine hK18 _ _ ?_; clear hK18 K17
    refine wp_seq_k fun K19 hK20 => ?_
    refine region ?_
    refine sv ha (r_move ha rfl) rfl rfl rfl ?_; clear ha a; intro a ha
    refine sv ha (r_move ha rfl) rfl rfl rfl ?_; clear ha a; intro a ha
    refine sv ha (rn_add ha k0 i rfl rfl (by omega)) rfl rfl rfl ?_; clear ha a; intro a ha
    refine sv ha (r_assign ha rfl) rfl rfl rfl ?_; clear ha a; intro a ha
    refine hK20 _ _ ?_; clear hK20 K19
    refine region ?_
    refine sv ha (r_move ha rfl) rfl rfl rfl ?_; clear ha a; intro a ha
    refine sv ha (r_move ha rfl) rfl rfl rfl ?_; clear ha a; intro a ha
    refine sv ha (r_move ha rfl) rfl rfl rfl ?_; clear ha a; intro a ha
    refine sv ha (rn_quo ha (k0 + i) 8 rfl rfl (by omega) (by omega)) rfl rfl rfl ?_; clear ha a; intro a ha
    refine sv ha (r_indexS (i := (k0 + i) / 8) ha Tryd.runUnderlying22 Tryd.sizeOf5 (hs.below hB) (C := (b).map e8) rfl rfl (by rw [List.length_map]; omega)) rfl rfl rfl ?_; clear ha a; intro a ha
    refine sv ha (r_loadS ha rfl Tryd.isAgg5 (hs.below hB) (get_map e8 b 0 ((k0 + i) / 8) (by omega))) rfl rfl rfl ?_; clear ha a; intro a ha
    refine sv ha (r_move ha rfl) rfl rfl rfl ?_; clear ha a; intro a ha
    refine sv ha (rn_rem ha (k0 + i) 8 rfl rfl (by omega)) rfl rfl rfl ?_; clear ha a; intro a ha
    refine sv ha (r_conv_n_u64 ha ((k0 + i) % 8) Tryd.runUnderlying3 Tryd.runUnderlying45 rfl (by omega)) rfl rfl rfl ?_; clear ha a; intro a ha
    refine sv ha (rb_shr ha (b.getD ((k0 + i) / 8) 0) ((k0 + i) % 8) rfl rfl (by omega)) rfl rfl rfl ?_; clear ha a; intro a ha
    refine sv ha (rb_and ha ((b.getD ((k0 + i) / 8) 0) >>> UInt8.ofNat ((k0 + i) % 8)) (1 : UInt8) rfl rfl) rfl rfl rfl ?_; clear ha a; intro a ha
    refine sv ha (v_of (r_conv_u8_i64 ha (((b.getD ((k0 + i) / 8) 0) >>> UInt8.ofNat ((k0 + i) % 8)) &&& (1 : UInt8)) Tryd.runUnderlying5 Tryd.runUnderlying3 rfl) (congrArg en (u8bit _ _ (by omega) : (((b.getD ((k0 + i) / 8) 0) >>> UInt8.ofNat ((k0 + i) % 8)) &&& (1 : UInt8)).toNat = bitN b (k0 + i)))) rfl rfl rfl ?_; clear ha a; intro a ha
    refine sv ha (r_move ha rfl) rfl rfl rfl ?_; clear ha a; intro a ha
    refine sv ha (r_conv_n_u64 ha i Tryd.runUnderlying3 Tryd.runUnderlying45 rfl (by omega)) rfl rfl rfl ?_; clear ha a; intro a ha
    refine sv ha (rn_shl ha (bitN b (k0 + i)) i rfl rfl (by omega) (by have := bit_sh b (k0 + i) i (by omega); omega)) rfl rfl rfl ?_; clear ha a; intro a ha
    refine sv ha (v_of (rn_or ha (btA b k0 i) ((bitN b (k0 + i)) * 2 ^ i) rfl rfl (by have := btA_le b k0 n i hn (by omega); omega) (by have := bit_sh b (k0 + i) i (by omega); omega)) (congrArg en (btA_or b k0 i : (btA b k0 i) ||| ((bitN b (k0 + i)) * 2 ^ i) = btA b k0 (i + 1)))) rfl rfl rfl ?_; clear ha a; intro a ha
    refine sv ha (r_assign ha rfl) rfl rfl rfl ?_; clear ha a; intro a ha
    refine hK16 _ _ ?_; clear hK16 K15
    refine region ?_
    refine sv ha (rn_add ha i 1 rfl rfl (by omega)) rfl rfl rfl ?_; clear ha a; intro a ha
    refine sv ha (r_move ha rfl) rfl rfl rfl ?_; clear ha a; intro a ha
    exact ⟨i + 1, by omega, (by omega), ha.to [0, 1, 2, 6, 10, 11, 7] rfl, hB⟩
  · skip
    replace hc14 := of_decide_eq_false hc14
    refine wp_exit ?_
    obtain rfl : n = i := by omega
    refine hK6 _ _ ?_; clear hK13 K12 hK6 K5
    refine wp_seq_k fun K21 hK22 => ?_
    refine region ?_
    refine sv ha (r_move ha rfl) rfl rfl rfl ?_; clear ha a; intro a ha
    refine sv ha (r_assign ha rfl) rfl rfl rfl ?_; clear ha a; intro a ha
    refine hK22 _ _ ?_; clear hK22 K21
    refine wp_ret ?_
    repeat (first | (with_reducible refine t_ret ?_) | (with_reducible refine x_ret ?_))
    exact ret1 ha Tryd.results42 rfl ⟨rfl, hB⟩

theorem c_ones (v : Value) (b : List UInt8) (k0 n : Nat) (w0 : World) (hs : Sl w0 v (b.map e8)) (hn : n ≤ 12) (hb : k0 + n ≤ 8 * b.length) (hat : k0 ≤ 100000) :
    Calls Tryd.prog 36 #[v, en k0, en n] w0 fun e w' => e = .returned (en (onesN b k0 n)) ∧ Below w0.heap.size w0 w' := by
  refine enter (args := [_, _, _]) Tryd.func36 rfl Tryd.ntmps36 rfl ?_
  intro a ha
  have hB := Below.refl w0.heap.size w0
  have hX0 := btA_lt b k0 n
  have hX1 : 2 ^ n ≤ 2 ^ 12 := Nat.pow_le_pow_right (by omega) hn
  refine wp_seq_k fun K1 hK2 => ?_
  refine region ?_
  refine sv ha (r_assign ha rfl) rfl rfl rfl ?_; clear ha a; intro a ha
  refine hK2 _ _ ?_; clear hK2 K1
  refine wp_seq_k fun K3 hK4 => ?_
  refine region ?_
  refine sv ha (r_assign ha rfl) rfl rfl rfl ?_; clear ha a; intro a ha
  refine hK4 _ _ ?_; clear hK4 K3
  refine wp_seq_k fun K5 hK6 => ?_
  refine wp_seq_k fun K7 hK8 => ?_
  refine region ?_
  refine sv ha (r_move ha rfl) rfl rfl rfl ?_; clear ha a; intro a ha
  refine sv ha (r_move ha rfl) rfl rfl rfl ?_; clear ha a; intro a ha
  refine sv ha (r_move ha rfl) rfl rfl rfl ?_; clear ha a; intro a ha
  refine sc ha (r_call ha [v, en k0, en n] rfl Tryd.call42) rfl rfl rfl (c_bits v b k0 n _ (hs.below hB) (by omega) (by omega) (by omega)) ?_
  clear ha a
  rintro e w9 ⟨rfl, hBc⟩
  have hg := grown_call hBc; clear hBc
  replace hB := keepB0 hg hB
  clear hg
  refine ⟨_, rfl, ?_⟩; intro a ha
  refine sv ha (r_assign ha rfl) rfl rfl rfl ?_; clear ha a; intro a ha
  refine hK8 _ _ ?_; clear hK8 K7
  refine wp_block ?_
  refine loopG (fun (j : Nat) a w => (True) ∧ Has 22 [(0, v), (1, en k0), (2, en n), (6, .int .i64 0), (9, v), (10, en k0), (11, en n), (12, en (btA b k0 n)), (8, en (shA (btA b k0 n) j)), (7, en (pcA (btA b k0 n) j))] a ∧ Below w0.heap.size w0 w) (fun j => shA (btA b k0 n) j) 0 ⟨trivial, ha.to [0, 1, 2, 6, 9, 10, 11, 12, 8, 7] rfl, hB⟩ ?_
  clear ha a hB
  intro j a w10 ⟨htr, ha, hB⟩
  have hpl := pcA_le (btA b k0 n) j
  refine wp_seq_k fun K11 hK12 => ?_
  refine wp_seq_k fun K13 hK14 => ?_
  refine region ?_
  refine sv ha (r_move ha rfl) rfl rfl rfl ?_; clear ha a; intro a ha
  refine sv ha (r_gtr ha ((shA (btA b k0 n) j : Nat) : Int) 0 (decide (shA (btA b k0 n) j > 0)) rfl rfl (decide_eq_decide.2 (by omega))) rfl rfl rfl ?_; clear ha a; intro a ha
  refine hK14 _ _ ?_; clear hK14 K13
  refine cond_if ha rfl (fun hc15 => ?_) (fun hc15 => ?_)
  · skip
    replace hc15 := of_decide_eq_true hc15
    refine wp_skip ?_
    refine hK12 _ _ ?_; clear hK12 K11
    refine wp_seq_k fun K16 hK17 => ?_
    refine wp_block ?_
    refine region ?_
    refine sv ha (r_move ha rfl) rfl rfl rfl ?_; clear ha a; intro a ha
    refine sv ha (r_move ha rfl) rfl rfl rfl ?_; clear ha a; intro a ha
    refine sv ha (v_of (r_mask ha ((shA (btA b k0 n) j : Nat) : Int) 1 (by omega) (m := 1) rfl rfl rfl) (congrArg en ((by omega) : (((shA (btA b k0 n) j : Nat) : Int) % (2 ^ 1 : Nat)).toNat = shA (btA b k0 n) j % 2))) rfl rfl rfl ?_; clear ha a; intro a ha
    refine sv ha (rn_add ha (pcA (btA b k0 n) j) (shA (btA b k0 n) j % 2) rfl rfl (by omega)) rfl rfl rfl ?_; clear ha a; intro a ha
    refine sv ha (r_assign ha rfl) rfl rfl rfl ?_; clear ha a; intro a ha
    refine hK17 _ _ ?_; clear hK17 K16
    refine region ?_
    refine sv ha (r_move ha rfl) rfl rfl rfl ?_; clear ha a; intro a ha
    refine sv ha (rn_shr ha (shA (btA b k0 n) j) 1 rfl rfl (by omega)) rfl rfl rfl ?_; clear ha a; intro a ha
    refine sv ha (r_assign ha rfl) rfl rfl rfl ?_; clear ha a; intro a ha
    exact ⟨j + 1, (by rw [shA_half]; omega), trivial, ha.to [0, 1, 2, 6, 9, 10, 11, 12, 8, 7] rfl, hB⟩
  · skip
    replace hc15 := of_decide_eq_false hc15
    refine wp_exit ?_
    refine hK6 _ _ ?_; clear hK12 K11 hK6 K5
    refine wp_seq_k fun K18 hK19 => ?_
    refine region ?_
    refine sv ha (r_move ha rfl) rfl rfl rfl ?_; clear ha a; intro a ha
    refine sv ha (r_assign ha rfl) rfl rfl rfl ?_; clear ha a; intro a ha
    refine hK19 _ _ ?_; clear hK19 K18
    refine wp_ret ?_
    repeat (first | (with_reducible refine t_ret ?_) | (with_reducible refine x_ret ?_))
    exact ret1 ha Tryd.results36 rfl ⟨(by rw [pc_eq _ _ (by omega) (by omega)]; rfl), hB⟩

theorem zero_25S1 : ∀ w, (zeroValue 25).run Tryd.prog w = .ok (.agg ((List.replicate 256 (0 : Int)).map ei).toArray) w := fun _ => by kernel_rfl
theorem c_noise1 (eta : Nat) (v : Value) (b : List UInt8) (w0 : World) (he : 1 ≤ eta ∧ eta ≤ 3) (hs : Sl w0 v (b.map e8)) (hb : b.length = 64 * eta) :
    Calls Tryd.prog 14 #[en eta, v] w0 fun e w' => e = .returned (.tuple #[.agg ((noA eta b 256).map ei).toArray, en 0]) ∧ Below w0.heap.size w0 w' := by
  refine enter (args := [_, _]) Tryd.func14 rfl Tryd.ntmps14 rfl ?_
  intro a ha
  have hB := Below.refl w0.heap.size w0
  refine wp_seq_k fun K1 hK2 => ?_
  refine region ?_
  refine salloc ha zero_25S1 rfl ?_
  clear ha a; intro a w3 b4 ha hg hb4 hge4 hlt4
  have hz4 : w0.heap.size ≤ b4 := Nat.le_trans hB.size hge4
  replace hB := keepB0 hg hB
  clear hg hge4 hlt4
  refine sv ha (r_assign ha rfl) rfl rfl rfl ?_; clear ha a; intro a ha
  refine hK2 _ _ ?_; clear hK2 K1
  refine wp_seq_k fun K5 hK6 => ?_
  refine region ?_
  refine salloc ha zero_25S1 rfl ?_
  clear ha a; intro a w7 b8 ha hg hb8 hge8 hlt8
  have hz8 : w0.heap.size ≤ b8 := Nat.le_trans hB.size hge8
  have hq4_8 : b4 < b8 := Nat.lt_of_lt_of_le (lt_of_block hb4) hge8
  replace hB := keepB0 hg hB
  replace hb4 := keepO0 hg hb4
  clear hg hge8 hlt8
  refine hK6 _ _ ?_; clear hK6 K5
  refine wp_seq_k fun K9 hK10 => ?_
  refine wp_seq_k fun K11 hK12 => ?_
  refine region ?_
  refine sv ha (r_move ha rfl) rfl rfl rfl ?_; clear ha a; intro a ha
  refine sv ha (r_lss ha ((eta : Nat) : Int) 1 false rfl rfl (decide_eq_false (by omega))) rfl rfl rfl ?_; clear ha a; intro a ha
  refine sv ha (r_move ha rfl) rfl rfl rfl ?_; clear ha a; intro a ha
  refine svg ha (r_move ha rfl) rfl rfl rfl rfl rfl ?_; clear ha a; intro a ha
  refine svg ha (r_gtr ha ((eta : Nat) : Int) 3 false rfl rfl (decide_eq_false (by omega))) rfl rfl rfl rfl rfl ?_; clear ha a; intro a ha
  refine sv ha (r_pick ha false rfl rfl) rfl rfl rfl ?_; clear ha a; intro a ha
  refine sv ha (r_move ha rfl) rfl rfl rfl ?_; clear ha a; intro a ha
  refine svg ha (r_move ha rfl) rfl rfl rfl rfl rfl ?_; clear ha a; intro a ha
  refine svg ha (r_lenS ha Tryd.runUnderlying22 (hs.below hB) rfl (by rw [List.length_map])) rfl rfl rfl rfl rfl ?_; clear ha a; intro a ha
  refine svg ha (r_move ha rfl) rfl rfl rfl rfl rfl ?_; clear ha a; intro a ha
  refine svg ha (rn_mul ha 64 eta rfl rfl (by omega)) rfl rfl rfl rfl rfl ?_; clear ha a; intro a ha
  refine svg ha (r_neq ha ((b.length : Nat) : Int) ((64 * eta : Nat) : Int) false rfl rfl (decide_eq_false (by omega))) rfl rfl rfl rfl rfl ?_; clear ha a; intro a ha
  refine sv ha (r_pick ha false rfl rfl) rfl rfl rfl ?_; clear ha a; intro a ha
  refine hK12 _ _ ?_; clear hK12 K11
  refine cond_f ha rfl ?_
  refine wp_skip ?_
  refine hK10 _ _ ?_; clear hK10 K9
  refine wp_seq_k fun K13 hK14 => ?_
  refine wp_seq_k fun K15 hK16 => ?_
  refine region ?_
  refine sv ha (r_move ha rfl) rfl rfl rfl ?_; clear ha a; intro a ha
  refine hK16 _ _ ?_; clear hK16 K15
  refine wp_block ?_
  refine loopG (fun (i : Nat) a w => (i ≤ 256) ∧ Has 45 [(0, en eta), (1, v), (4, .pointer (some ⟨b4, 0, none⟩)), (5, .int .i64 0), (6, .pointer (some ⟨b8, 0, none⟩)), (9, en eta), (10, .bool false), (11, .bool false), (12, en eta), (13, .bool false), (14, .bool false), (15, .bool false), (16, v), (17, en b.length), (18, en eta), (19, en (64 * eta)), (20, .bool false), (21, .bool false), (23, en i)] a ∧ Below w0.heap.size w0 w ∧ w.heap[b4]? = some (.cells ((List.replicate 256 (0 : Int)).map ei).toArray 25 (0, 0)) ∧ w.heap[b8]? = some (.cells ((noA eta b i).map ei).toArray 25 (0, 0))) (fun i => 256 - i) 0 ⟨(by omega), ha.to [0, 1, 4, 5, 6, 9, 10, 11, 12, 13, 14, 15, 16, 17, 18, 19, 20, 21, 23] rfl, hB, hb4, hb8⟩ ?_
  clear ha a hB hb4 hb8
  intro i a w17 ⟨hki, ha, hB, hb4, hb8⟩
  have hmm := Nat.mul_le_mul (show 2 * i ≤ 512 by omega) he.2
  refine wp_seq_k fun K18 hK19 => ?_
  refine region ?_
  refine sv ha (r_lss ha ((i : Nat) : Int) 256 (decide (i < 256)) rfl rfl (decide_eq_decide.2 (by omega))) rfl rfl rfl ?_; clear ha a; intro a ha
  refine hK19 _ _ ?_; clear hK19 K18
  refine wp_seq_k fun K20 hK21 => ?_
  refine cond_if ha rfl (fun hc22 => ?_) (fun hc22 => ?_)
  · skip
    replace hc22 := of_decide_eq_true hc22
    refine wp_skip ?_
    refine hK21 _ _ ?_; clear hK21 K20
    refine wp_seq_k fun K23 hK24 => ?_
    refine wp_block ?_
    refine wp_seq_k fun K25 hK26 => ?_
    refine region ?_
    refine sv ha (r_move ha rfl) rfl rfl rfl ?_; clear ha a; intro a ha
    refine sv ha (r_assign ha rfl) rfl rfl rfl ?_; clear ha a; intro a ha
    refine hK26 _ _ ?_; clear hK26 K25
    refine wp_seq_k fun K27 hK28 => ?_
    refine region ?_
    refine sv ha (r_move ha rfl) rfl rfl rfl ?_; clear ha a; intro a ha
    refine sv ha (rn_mul ha 2 i rfl rfl (by omega)) rfl rfl rfl ?_; clear ha a; intro a ha
    refine sv ha (r_move ha rfl) rfl rfl rfl ?_; clear ha a; intro a ha
    refine sv ha (rn_mul ha (2 * i) eta rfl rfl (by omega)) rfl rfl rfl ?_; clear ha a; intro a ha
    refine sv ha (r_assign ha rfl) rfl rfl rfl ?_; clear ha a; intro a ha
    refine hK28 _ _ ?_; clear hK28 K27
    refine region ?_
    refine sv ha (r_move ha rfl) rfl rfl rfl ?_; clear ha a; intro a ha
    refine sv ha (r_move ha rfl) rfl rfl rfl ?_; clear ha a; intro a ha
    refine sv ha (r_move ha rfl) rfl rfl rfl ?_; clear ha a; intro a ha
    refine sv ha (r_move ha rfl) rfl rfl rfl ?_; clear ha a; intro a ha
    refine sc ha (r_call ha [v, en ((2 * i) * eta), en eta] rfl Tryd.call36) rfl rfl rfl (c_ones v b ((2 * i) * eta) eta _ (hs.below hB) (by omega) (by have := Nat.mul_le_mul_right eta (show 2 * i + 2 ≤ 512 by omega); rw [Nat.add_mul] at this; omega) (by omega)) ?_
    clear ha a
    rintro e w29 ⟨rfl, hBc⟩
    have hg := grown_call hBc; clear hBc
    replace hB := keepB0 hg hB
    replace hb4 := keepO0 hg hb4
    replace hb8 := keepO0 hg hb8
    clear hg
    refine ⟨_, rfl, ?_⟩; intro a ha
    refine sv ha (r_move ha rfl) rfl rfl rfl ?_; clear ha a; intro a ha
    refine sv ha (r_move ha rfl) rfl rfl rfl ?_; clear ha a; intro a ha
    refine sv ha (r_move ha rfl) rfl rfl rfl ?_; clear ha a; intro a ha
    refine sv ha (rn_add ha ((2 * i) * eta) eta rfl rfl (by omega)) rfl rfl rfl ?_; clear ha a; intro a ha
    refine sv ha (r_move ha rfl) rfl rfl rfl ?_; clear ha a; intro a ha
    refine sc ha (r_call ha [v, en (((2 * i) * eta) + eta), en eta] rfl Tryd.call36) rfl rfl rfl (c_ones v b (((2 * i) * eta) + eta) eta _ (hs.below hB) (by omega) (by have := Nat.mul_le_mul_right eta (show 2 * i + 2 ≤ 512 by omega); rw [Nat.add_mul] at this; omega) (by omega)) ?_
    clear ha a
    rintro e w30 ⟨rfl, hBc⟩
    have hg := grown_call hBc; clear hBc
    replace hB := keepB0 hg hB
    replace hb4 := keepO0 hg hb4
    replace hb8 := keepO0 hg hb8
    clear hg
    refine ⟨_, rfl, ?_⟩; intro a ha
    refine sc ha (r_call ha [ei ((onesN b ((2 * i) * eta) eta : Nat) : Int), ei ((onesN b (((2 * i) * eta) + eta) eta : Nat) : Int)] rfl Tryd.call35) rfl rfl rfl (c_sub ((onesN b ((2 * i) * eta) eta : Nat) : Int) ((onesN b (((2 * i) * eta) + eta) eta : Nat) : Int) _ ) ?_
    clear ha a
    rintro e w31 ⟨rfl, hBc⟩
    have hg := grown_call hBc; clear hBc
    replace hB := keepB0 hg hB
    replace hb4 := keepO0 hg hb4
    replace hb8 := keepO0 hg hb8
    clear hg
    refine ⟨_, rfl, ?_⟩; intro a ha
    refine sv ha (r_indexArr (i := i) ha i Tryd.runUnderlying25 Tryd.sizeOf3 rfl rfl (by omega) (by omega)) rfl rfl rfl ?_; clear ha a; intro a ha
    refine sstore ha (v := ei ((zsub ((onesN b ((2 * i) * eta) eta : Nat) : Int) ((onesN b (((2 * i) * eta) + eta) eta : Nat) : Int) : Nat) : Int)) rfl rfl rfl rfl Tryd.sizeOf3 hb8 (by rw [List.length_map, noA_len]; omega) ?_
    clear ha a; intro a w32 ha hg hb8'
    rw [set_map] at hb8'
    clear hb8; have hb8 := hb8'; clear hb8'
    replace hB := keepB1 hg (by omega) hB
    replace hb4 := keepO1 hg (by omega) hb4
    clear hg
    refine hK24 _ _ ?_; clear hK24 K23
    refine region ?_
    refine sv ha (rn_add ha i 1 rfl rfl (by omega)) rfl rfl rfl ?_; clear ha a; intro a ha
    refine sv ha (r_move ha rfl) rfl rfl rfl ?_; clear ha a; intro a ha
    exact ⟨i + 1, by omega, (by omega), ha.to [0, 1, 4, 5, 6, 9, 10, 11, 12, 13, 14, 15, 16, 17, 18, 19, 20, 21, 23] rfl, hB, hb4, hb8⟩
  · skip
    replace hc22 := of_decide_eq_false hc22
    refine wp_exit ?_
    obtain rfl : i = 256 := by omega
    refine hK14 _ _ ?_; clear hK21 K20 hK14 K13
    refine wp_seq_k fun K33 hK34 => ?_
    refine region ?_
    refine sv ha (r_loadR ha rfl Tryd.isAgg25 Tryd.sizeOf25 (C := (noA eta b 256).map ei) (by rw [List.length_map, noA_len]) (cells_all hb8)) rfl rfl rfl ?_; clear ha a; intro a ha
    refine sstoreW ha rfl rfl (one_ei _) Tryd.sizeOf25 (by rw [List.length_map, noA_len]) hb4 (by rw [List.length_map, List.length_replicate]) ?_
    clear ha a; intro a w35 ha hg hb4'
    clear hb4; have hb4 := hb4'; clear hb4'
    replace hB := keepB1 hg (by omega) hB
    replace hb8 := keepO1 hg (by omega) hb8
    clear hg
    refine sv ha (r_assign ha rfl) rfl rfl rfl ?_; clear ha a; intro a ha
    refine hK34 _ _ ?_; clear hK34 K33
    refine wp_ret ?_
    repeat (first | (with_reducible refine t_ret ?_) | (with_reducible refine x_ret ?_))
    exact retCT _ ha Tryd.results14 rfl rfl hb4 Tryd.underlying25 rfl (by rw [List.length_map, noA_len]; kernel_rfl) ⟨rfl, hB⟩

theorem c_noise0 (eta : Int) (v : Value) (b : List UInt8) (w0 : World) (hs : Sl w0 v (b.map e8)) (hx : ¬ (1 ≤ eta ∧ eta ≤ 3 ∧ (b.length : Int) = 64 * eta)) :
    Calls Tryd.prog 14 #[ei eta, v] w0 fun e w' => e = .returned (.tuple #[.agg ((zero256).map ei).toArray, en 1]) ∧ Below w0.heap.size w0 w' := by
  refine enter (args := [_, _]) Tryd.func14 rfl Tryd.ntmps14 rfl ?_
  intro a ha
  have hB := Below.refl w0.heap.size w0
  refine wp_seq_k fun K1 hK2 => ?_
  refine region ?_
  refine salloc ha zero_25S1 rfl ?_
  clear ha a; intro a w3 b4 ha hg hb4 hge4 hlt4
  have hz4 : w0.heap.size ≤ b4 := Nat.le_trans hB.size hge4
  replace hB := keepB0 hg hB
  clear hg hge4 hlt4
  refine sv ha (r_assign ha rfl) rfl rfl rfl ?_; clear ha a; intro a ha
  refine hK2 _ _ ?_; clear hK2 K1
  refine wp_seq_k fun K5 hK6 => ?_
  refine region ?_
  refine salloc ha zero_25S1 rfl ?_
  clear ha a; intro a w7 b8 ha hg hb8 hge8 hlt8
  have hz8 : w0.heap.size ≤ b8 := Nat.le_trans hB.size hge8
  have hq4_8 : b4 < b8 := Nat.lt_of_lt_of_le (lt_of_block hb4) hge8
  replace hB := keepB0 hg hB
  replace hb4 := keepO0 hg hb4
  clear hg hge8 hlt8
  refine hK6 _ _ ?_; clear hK6 K5
  refine wp_seq_k fun K9 hK10 => ?_
  refine wp_seq_k fun K11 hK12 => ?_
  refine region ?_
  refine sv ha (r_move ha rfl) rfl rfl rfl ?_; clear ha a; intro a ha
  refine sv ha (r_lss ha eta 1 (decide (eta < 1)) rfl rfl (decide_eq_decide.2 (by omega))) rfl rfl rfl ?_; clear ha a; intro a ha
  refine sv ha (r_move ha rfl) rfl rfl rfl ?_; clear ha a; intro a ha
  cases hq13 : (decide (eta < 1))
  all_goals rw [hq13] at ha
  case false =>
    replace hq13 := of_decide_eq_false hq13
    refine svg ha (r_move ha rfl) rfl rfl rfl rfl rfl ?_; clear ha a; intro a ha
    refine svg ha (r_gtr ha eta 3 (decide (eta > 3)) rfl rfl (decide_eq_decide.2 (by omega))) rfl rfl rfl rfl rfl ?_; clear ha a; intro a ha
    refine sv ha (r_pick ha false rfl rfl) rfl rfl rfl ?_; clear ha a; intro a ha
    refine sv ha (r_move ha rfl) rfl rfl rfl ?_; clear ha a; intro a ha
    cases hq14 : (decide (eta > 3))
    all_goals rw [hq14] at ha
    case false =>
      replace hq14 := of_decide_eq_false hq14
      refine svg ha (r_move ha rfl) rfl rfl rfl rfl rfl ?_; clear ha a; intro a ha
      refine svg ha (r_lenS ha Tryd.runUnderlying22 (hs.below hB) rfl (by rw [List.length_map])) rfl rfl rfl rfl rfl ?_; clear ha a; intro a ha
      refine svg ha (r_move ha rfl) rfl rfl rfl rfl rfl ?_; clear ha a; intro a ha
      refine svg ha (r_mul ha 64 eta rfl rfl (by omega)) rfl rfl rfl rfl rfl ?_; clear ha a; intro a ha
      refine svg ha (r_neq ha ((b.length : Nat) : Int) (64 * eta) true rfl rfl (decide_eq_true (by omega))) rfl rfl rfl rfl rfl ?_; clear ha a; intro a ha
      refine sv ha (r_pick ha false rfl rfl) rfl rfl rfl ?_; clear ha a; intro a ha
      refine hK12 _ _ ?_; clear hK12 K11
      refine cond_t ha rfl ?_
      refine wp_seq_k fun K15 hK16 => ?_
      refine region ?_
      refine sv ha (r_loadR ha rfl Tryd.isAgg25 Tryd.sizeOf25 (C := (List.replicate 256 (0 : Int)).map ei) (by rw [List.length_map, List.length_replicate]) (cells_all hb8)) rfl rfl rfl ?_; clear ha a; intro a ha
      refine sstoreW ha rfl rfl (one_ei _) Tryd.sizeOf25 (by rw [List.length_map, List.length_replicate]) hb4 (by rw [List.length_map, List.length_replicate]) ?_
      clear ha a; intro a w17 ha hg hb4'
      clear hb4; have hb4 := hb4'; clear hb4'
      replace hB := keepB1 hg (by omega) hB
      replace hb8 := keepO1 hg (by omega) hb8
      clear hg
      refine sv ha (r_assign ha rfl) rfl rfl rfl ?_; clear ha a; intro a ha
      refine hK16 _ _ ?_; clear hK16 K15
      refine wp_ret ?_
      repeat (first | (with_reducible refine t_ret ?_) | (with_reducible refine x_ret ?_))
      exact retCT _ ha Tryd.results14 rfl rfl hb4 Tryd.underlying25 rfl (by rw [List.length_map, List.length_replicate]; kernel_rfl) ⟨rfl, hB⟩
    case true =>
      replace hq14 := of_decide_eq_true hq14
      refine sno ha rfl rfl rfl rfl rfl rfl ?_; clear ha a; intro a ha
      refine sno ha rfl rfl rfl rfl rfl rfl ?_; clear ha a; intro a ha
      refine sno ha rfl rfl rfl rfl rfl rfl ?_; clear ha a; intro a ha
      refine sno ha rfl rfl rfl rfl rfl rfl ?_; clear ha a; intro a ha
      refine sno ha rfl rfl rfl rfl rfl rfl ?_; clear ha a; intro a ha
      refine sv ha (r_pick ha true rfl rfl) rfl rfl rfl ?_; clear ha a; intro a ha
      refine hK12 _ _ ?_; clear hK12 K11
      refine cond_t ha rfl ?_
      refine wp_seq_k fun K18 hK19 => ?_
      refine region ?_
      refine sv ha (r_loadR ha rfl Tryd.isAgg25 Tryd.sizeOf25 (C := (List.replicate 256 (0 : Int)).map ei) (by rw [List.length_map, List.length_replicate]) (cells_all hb8)) rfl rfl rfl ?_; clear ha a; intro a ha
      refine sstoreW ha rfl rfl (one_ei _) Tryd.sizeOf25 (by rw [List.length_map, List.length_replicate]) hb4 (by rw [List.length_map, List.length_replicate]) ?_
      clear ha a; intro a w20 ha hg hb4'
      clear hb4; have hb4 := hb4'; clear hb4'
      replace hB := keepB1 hg (by omega) hB
      replace hb8 := keepO1 hg (by omega) hb8
      clear hg
      refine sv ha (r_assign ha rfl) rfl rfl rfl ?_; clear ha a; intro a ha
      refine hK19 _ _ ?_; clear hK19 K18
      refine wp_ret ?_
      repeat (first | (with_reducible refine t_ret ?_) | (with_reducible refine x_ret ?_))
      exact retCT _ ha Tryd.results14 rfl rfl hb4 Tryd.underlying25 rfl (by rw [List.length_map, List.length_replicate]; kernel_rfl) ⟨rfl, hB⟩
  case true =>
    replace hq13 := of_decide_eq_true hq13
    refine sno ha rfl rfl rfl rfl rfl rfl ?_; clear ha a; intro a ha
    refine sno ha rfl rfl rfl rfl rfl rfl ?_; clear ha a; intro a ha
    refine sv ha (r_pick ha true rfl rfl) rfl rfl rfl ?_; clear ha a; intro a ha
    refine sv ha (r_move ha rfl) rfl rfl rfl ?_; clear ha a; intro a ha
    refine sno ha rfl rfl rfl rfl rfl rfl ?_; clear ha a; intro a ha
    refine sno ha rfl rfl rfl rfl rfl rfl ?_; clear ha a; intro a ha
    refine sno ha rfl rfl rfl rfl rfl rfl ?_; clear ha a; intro a ha
    refine sno ha rfl rfl rfl rfl rfl rfl ?_; clear ha a; intro a ha
    refine sno ha rfl rfl rfl rfl rfl rfl ?_; clear ha a; intro a ha
    refine sv ha (r_pick ha true rfl rfl) rfl rfl rfl ?_; clear ha a; intro a ha
    refine hK12 _ _ ?_; clear hK12 K11
    refine cond_t ha rfl ?_
    refine wp_seq_k fun K21 hK22 => ?_
    refine region ?_
    refine sv ha (r_loadR ha rfl Tryd.isAgg25 Tryd.sizeOf25 (C := (List.replicate 256 (0 : Int)).map ei) (by rw [List.length_map, List.length_replicate]) (cells_all hb8)) rfl rfl rfl ?_; clear ha a; intro a ha
    refine sstoreW ha rfl rfl (one_ei _) Tryd.sizeOf25 (by rw [List.length_map, List.length_replicate]) hb4 (by rw [List.length_map, List.length_replicate]) ?_
    clear ha a; intro a w23 ha hg hb4'
    clear hb4; have hb4 := hb4'; clear hb4'
    replace hB := keepB1 hg (by omega) hB
    replace hb8 := keepO1 hg (by omega) hb8
    clear hg
    refine sv ha (r_assign ha rfl) rfl rfl rfl ?_; clear ha a; intro a ha
    refine hK22 _ _ ?_; clear hK22 K21
    refine wp_ret ?_
    repeat (first | (with_reducible refine t_ret ?_) | (with_reducible refine x_ret ?_))
    exact retCT _ ha Tryd.results14 rfl rfl hb4 Tryd.underlying25 rfl (by rw [List.length_map, List.length_replicate]; kernel_rfl) ⟨rfl, hB⟩

theorem c_noiseZ (eta : Int) (v : Value) (b : List UInt8) (w0 : World) (hs : Sl w0 v (b.map e8)) :
    Calls Tryd.prog 14 #[ei eta, v] w0 fun e w' => e = .returned (.tuple #[.agg ((noiP eta b).map ei).toArray, en (noiE eta b)]) ∧ Below w0.heap.size w0 w' := by
  by_cases h : 1 ≤ eta ∧ eta ≤ 3 ∧ (b.length : Int) = 64 * eta
  · obtain ⟨n, rfl⟩ := Int.eq_ofNat_of_zero_le (show 0 ≤ eta by omega)
    refine (c_noise1 n v b w0 (by omega) hs (by omega)).mono fun e w h' => ?_
    rw [noiP, noiE, if_pos h, if_pos h]; exact h'
  · refine (c_noise0 eta v b w0 hs h).mono fun e w h' => ?_
    rw [noiP, noiE, if_neg h, if_neg h]; exact h'

theorem c_prf1 (eta : Nat) (v : Value) (seed : List UInt8) (n : UInt8) (w0 : World) (he : 1 ≤ eta ∧ eta ≤ 3) (hs : Sl w0 v (seed.map e8)) (hk : seed.length ≤ 50000) (hG : Glob w0) :
    Calls Tryd.prog 16 #[en eta, v, e8 n] w0 fun e w' => e = .returned (.tuple #[.agg ((noA eta (prfB (eta : Int) seed n) 256).map ei).toArray, en 0]) ∧ Below w0.heap.size w0 w' := by
  refine enter (args := [_, _, _]) Tryd.func16 rfl Tryd.ntmps16 rfl ?_
  intro a ha
  have hB := Below.refl w0.heap.size w0
  refine wp_seq_k fun K1 hK2 => ?_
  refine region ?_
  refine salloc ha zero_25S1 rfl ?_
  clear ha a; intro a w3 b4 ha hg hb4 hge4 hlt4
  have hz4 : w0.heap.size ≤ b4 := Nat.le_trans hB.size hge4
  replace hB := keepB0 hg hB
  clear hg hge4 hlt4
  refine sv ha (r_assign ha rfl) rfl rfl rfl ?_; clear ha a; intro a ha
  refine hK2 _ _ ?_; clear hK2 K1
  refine wp_seq_k fun K5 hK6 => ?_
  refine wp_seq_k fun K7 hK8 => ?_
  refine region ?_
  refine sv ha (r_move ha rfl) rfl rfl rfl ?_; clear ha a; intro a ha
  refine sv ha (r_lss ha ((eta : Nat) : Int) 1 false rfl rfl (decide_eq_false (by omega))) rfl rfl rfl ?_; clear ha a; intro a ha
  refine sv ha (r_move ha rfl) rfl rfl rfl ?_; clear ha a; intro a ha
  refine svg ha (r_move ha rfl) rfl rfl rfl rfl rfl ?_; clear ha a; intro a ha
  refine svg ha (r_gtr ha ((eta : Nat) : Int) 3 false rfl rfl (decide_eq_false (by omega))) rfl rfl rfl rfl rfl ?_; clear ha a; intro a ha
  refine sv ha (r_pick ha false rfl rfl) rfl rfl rfl ?_; clear ha a; intro a ha
  refine hK8 _ _ ?_; clear hK8 K7
  refine cond_f ha rfl ?_
  refine wp_skip ?_
  refine hK6 _ _ ?_; clear hK6 K5
  refine wp_seq_k fun K9 hK10 => ?_
  refine region ?_
  refine sv ha (r_move ha rfl) rfl rfl rfl ?_; clear ha a; intro a ha
  refine sv ha (r_move ha rfl) rfl rfl rfl ?_; clear ha a; intro a ha
  refine sv ha (r_move ha rfl) rfl rfl rfl ?_; clear ha a; intro a ha
  refine sbuildS ha [(0, e8 n)] (([n] : List UInt8).map e8) rfl Tryd.runUnderlying22 Tryd.sizeOf5 Tryd.zeroValue5 rfl rfl rfl rfl rfl ?_
  clear ha a; intro a w11 b12 ha hg hb12 hge12 hlt12
  have hz12 : w0.heap.size ≤ b12 := Nat.le_trans hB.size hge12
  have hq4_12 : b4 < b12 := Nat.lt_of_lt_of_le (lt_of_block hb4) hge12
  replace hB := keepB0 hg hB
  replace hb4 := keepO0 hg hb4
  clear hg hge12 hlt12
  refine sbuildS ha [(0, v), (1, .slice (some ⟨b12, 0, none⟩) 1 1)] [v, .slice (some ⟨b12, 0, none⟩) 1 1] rfl Tryd.runUnderlying93 Tryd.sizeOf22 Tryd.zeroValue22 rfl rfl rfl (fill2 (Sl.one (hs.below hB)) (Sl.one (Sl.ofBlockM hb12 (by rw [show ([n] : List UInt8).length = 1 from rfl]) (by omega)))) rfl ?_
  clear ha a; intro a w13 b14 ha hg hb14 hge14 hlt14
  have hz14 : w0.heap.size ≤ b14 := Nat.le_trans hB.size hge14
  have hq4_14 : b4 < b14 := Nat.lt_of_lt_of_le (lt_of_block hb4) hge14
  have hq12_14 : b12 < b14 := Nat.lt_of_lt_of_le (lt_of_block hb12) hge14
  replace hB := keepB0 hg hB
  replace hb4 := keepO0 hg hb4
  replace hb12 := keepO0 hg hb12
  clear hg hge14 hlt14
  refine sc ha (r_call ha [(.slice (some ⟨b14, 0, none⟩) 2 2)] rfl Tryd.call39) rfl rfl rfl (c_join (.slice (some ⟨b14, 0, none⟩) 2 2) ([v, .slice (some ⟨b12, 0, none⟩) 1 1]) ([seed, ([n] : List UInt8)]) _ (Sl.ofBlock (D := [v, .slice (some ⟨b12, 0, none⟩) 1 1]) (C := [v, .slice (some ⟨b12, 0, none⟩) 1 1]) hb14 rfl (Nat.le_refl _)) (.cons (hs.below hB) (.cons (Sl.ofBlockM hb12 (by rw [show ([n] : List UInt8).length = 1 from rfl]) (by omega)) .nil)) (by first | (simp only [List.flatten_cons, List.flatten_nil, List.append_nil, List.length_append, List.length_cons, List.length_nil]; omega) | (rw [prf_eq, prfB_len _ _ _ (by omega)]; try omega)) (show 2 ≤ 1000 by omega)) ?_
  clear ha a
  rintro e w15 ⟨u16, rfl, hBc, hs16, hd16⟩
  have hg := grown_call hBc; clear hBc
  have hnb_hs16_b4 : ∀ j, u16.ownBlock = some j → j ≠ b4 := fun j hj => by have h1 := hd16 j hj; have h2 := lt_of_block hb4; omega
  have hnb_hs16_b12 : ∀ j, u16.ownBlock = some j → j ≠ b12 := fun j hj => by have h1 := hd16 j hj; have h2 := lt_of_block hb12; omega
  have hnb_hs16_b14 : ∀ j, u16.ownBlock = some j → j ≠ b14 := fun j hj => by have h1 := hd16 j hj; have h2 := lt_of_block hb14; omega
  replace hd16 : ∀ j, u16.ownBlock = some j → w0.heap.size ≤ j := fun j hj => Nat.le_trans hB.size (hd16 j hj)
  replace hB := keepB0 hg hB
  replace hb4 := keepO0 hg hb4
  replace hb12 := keepO0 hg hb12
  replace hb14 := keepO0 hg hb14
  clear hg
  refine ⟨_, rfl, ?_⟩; intro a ha
  refine sc ha (r_call ha [u16] rfl Tryd.call38) rfl rfl rfl (c_shake256 u16 (([seed, ([n] : List UInt8)]).flatten) _ hs16 (glob_keep hG hB)) ?_
  clear ha a
  rintro e w17 ⟨b18, u18, rfl, hBc, hb18, hge18, hs18, hd18, hnx18⟩
  have hg := grown_call hBc; clear hBc
  have hnb_hs18_b4 : ∀ j, u18.ownBlock = some j → j ≠ b4 := fun j hj => by have h1 := hd18 j hj; have h2 := lt_of_block hb4; omega
  have hnb_hs18_b12 : ∀ j, u18.ownBlock = some j → j ≠ b12 := fun j hj => by have h1 := hd18 j hj; have h2 := lt_of_block hb12; omega
  have hnb_hs18_b14 : ∀ j, u18.ownBlock = some j → j ≠ b14 := fun j hj => by have h1 := hd18 j hj; have h2 := lt_of_block hb14; omega
  have hds_hs18_hs16 : ∀ j, u18.ownBlock = some j → u16.ownBlock ≠ some j := fun j h1 h2 => by have h3 := hd18 j h1; have h4 := (fun j hj => hs16.lt j hj) j h2; omega
  have hz18 : w0.heap.size ≤ b18 := Nat.le_trans hB.size hge18
  have hne_hs16_b18 : ∀ j, Value.ownBlock u16 = some j → j ≠ b18 := fun j hj => by have := hs16.lt j hj; omega
  have hq4_18 : b4 < b18 := Nat.lt_of_lt_of_le (lt_of_block hb4) hge18
  have hq12_18 : b12 < b18 := Nat.lt_of_lt_of_le (lt_of_block hb12) hge18
  have hq14_18 : b14 < b18 := Nat.lt_of_lt_of_le (lt_of_block hb14) hge18
  replace hd18 : ∀ j, u18.ownBlock = some j → w0.heap.size ≤ j := fun j hj => Nat.le_trans hB.size (hd18 j hj)
  replace hB := keepB0 hg hB
  replace hb4 := keepO0 hg hb4
  replace hb12 := keepO0 hg hb12
  replace hb14 := keepO0 hg hb14
  replace hs16 := keepS0 hg hs16
  clear hg hge18
  refine ⟨_, rfl, ?_⟩; intro a ha
  refine sv ha (r_move ha rfl) rfl rfl rfl ?_; clear ha a; intro a ha
  refine sv ha (rn_mul ha 64 eta rfl rfl (by omega)) rfl rfl rfl ?_; clear ha a; intro a ha
  refine sc ha (r_call ha [.pointer (some ⟨b18, 0, none⟩), ei ((64 * eta : Nat) : Int)] rfl Tryd.call31) rfl rfl rfl (c_read b18 (absR 136 31 noughts (([seed, ([n] : List UInt8)]).flatten)) 136 u18 (tk (absR 136 31 noughts (([seed, ([n] : List UInt8)]).flatten)) 136) ((64 * eta : Nat) : Int) _ hb18 (by rw [absR_len]) hs18 hnx18 (by omega) (by rw [tk_len _ _ (by omega)]; omega) (by omega) (fun _ hg => glob_keep hG (keepB1 hg (hz18) hB))) ?_
  clear ha a
  rintro e w19 ⟨u20, v20, rfl, hg, hb18', hsv20, hov20, ho20, hds_ho20_hsv20⟩
  have hnb_ho20_b4 : ∀ j, u20.ownBlock = some j → j ≠ b4 := fun j hj => by have h1 := (own_row ho20) j hj; have h2 := lt_of_block hb4; omega
  have hnb_ho20_b12 : ∀ j, u20.ownBlock = some j → j ≠ b12 := fun j hj => by have h1 := (own_row ho20) j hj; have h2 := lt_of_block hb12; omega
  have hnb_ho20_b14 : ∀ j, u20.ownBlock = some j → j ≠ b14 := fun j hj => by have h1 := (own_row ho20) j hj; have h2 := lt_of_block hb14; omega
  have hnb_ho20_b18 : ∀ j, u20.ownBlock = some j → j ≠ b18 := fun j hj => by have h1 := (own_row ho20) j hj; have h2 := lt_of_block hb18; omega
  have hds_ho20_hs16 : ∀ j, u20.ownBlock = some j → u16.ownBlock ≠ some j := fun j h1 h2 => by have h3 := (own_row ho20) j h1; have h4 := (fun j hj => hs16.lt j hj) j h2; omega
  have hds_ho20_hs18 : ∀ j, u20.ownBlock = some j → u18.ownBlock ≠ some j := fun j h1 h2 => by have h3 := (own_row ho20) j h1; have h4 := (fun j hj => hs18.lt j hj) j h2; omega
  have hnb_hsv20_b4 : ∀ j, v20.ownBlock = some j → j ≠ b4 := fun j hj => (hov20 j hj).elim (fun h => hnb_hs18_b4 j h) (fun h => by have := lt_of_block hb4; omega)
  have hnb_hsv20_b12 : ∀ j, v20.ownBlock = some j → j ≠ b12 := fun j hj => (hov20 j hj).elim (fun h => hnb_hs18_b12 j h) (fun h => by have := lt_of_block hb12; omega)
  have hnb_hsv20_b14 : ∀ j, v20.ownBlock = some j → j ≠ b14 := fun j hj => (hov20 j hj).elim (fun h => hnb_hs18_b14 j h) (fun h => by have := lt_of_block hb14; omega)
  have hnb_hsv20_b18 : ∀ j, v20.ownBlock = some j → j ≠ b18 := fun j hj => (hov20 j hj).elim (fun h => hnx18 j h) (fun h => by have := lt_of_block hb18; omega)
  have hdv20 : ∀ j, v20.ownBlock = some j → w0.heap.size ≤ j := fun j hj => (hov20 j hj).elim (fun h => hd18 j h) (fun h => Nat.le_trans hB.size h)
  replace ho20 := own_base ho20 hB.size
  clear hb18; have hb18 := hb18'; clear hb18'
  replace hB := keepB1 hg (by omega) hB
  replace hb4 := keepO1 hg (by omega) hb4
  replace hb12 := keepO1 hg (by omega) hb12
  replace hb14 := keepO1 hg (by omega) hb14
  replace hs16 := keepS1 hg (ne_of_ap hne_hs16_b18) hs16
  clear hg
  refine ⟨_, rfl, ?_⟩; intro a ha
  refine sc ha (r_call ha [en eta, u20] rfl Tryd.call14) rfl rfl rfl (c_noise1 eta u20 ((xrun 136 (((64 * eta : Nat) : Int) : Int).toNat (absR 136 31 noughts (([seed, ([n] : List UInt8)]).flatten), tk (absR 136 31 noughts (([seed, ([n] : List UInt8)]).flatten)) 136, [])).2.2) _ (by omega) (Sl.ofOwns ho20) (by first | (simp only [List.flatten_cons, List.flatten_nil, List.append_nil, List.length_append, List.length_cons, List.length_nil]; omega) | (rw [prf_eq, prfB_len _ _ _ (by omega)]; try omega))) ?_
  clear ha a
  rintro e w21 ⟨rfl, hBc⟩
  have hg := grown_call hBc; clear hBc
  replace hB := keepB0 hg hB
  replace hb4 := keepO0 hg hb4
  replace hb12 := keepO0 hg hb12
  replace hb14 := keepO0 hg hb14
  replace hb18 := keepO0 hg hb18
  replace hs16 := keepS0 hg hs16
  replace hsv20 := keepS0 hg hsv20
  replace ho20 := keepW0 hg ho20
  clear hg
  refine ⟨_, rfl, ?_⟩; intro a ha
  refine sv ha (r_extract ha (vs := #[.agg ((noA eta ((xrun 136 (((64 * eta : Nat) : Int) : Int).toNat (absR 136 31 noughts (([seed, ([n] : List UInt8)]).flatten), tk (absR 136 31 noughts (([seed, ([n] : List UInt8)]).flatten)) 136, [])).2.2) 256).map ei).toArray, en 0]) rfl rfl) rfl rfl rfl ?_; clear ha a; intro a ha
  refine sv ha (r_extract ha (vs := #[.agg ((noA eta ((xrun 136 (((64 * eta : Nat) : Int) : Int).toNat (absR 136 31 noughts (([seed, ([n] : List UInt8)]).flatten), tk (absR 136 31 noughts (([seed, ([n] : List UInt8)]).flatten)) 136, [])).2.2) 256).map ei).toArray, en 0]) rfl rfl) rfl rfl rfl ?_; clear ha a; intro a ha
  refine sstoreW ha rfl rfl (one_ei _) Tryd.sizeOf25 (by rw [List.length_map, noA_len]) hb4 (by rw [List.length_map, List.length_replicate]) ?_
  clear ha a; intro a w22 ha hg hb4'
  clear hb4; have hb4 := hb4'; clear hb4'
  replace hB := keepB1 hg (by omega) hB
  replace hb12 := keepO1 hg (by omega) hb12
  replace hb14 := keepO1 hg (by omega) hb14
  replace hb18 := keepO1 hg (by omega) hb18
  replace hs16 := keepS1 hg (ne_of_ap hnb_hs16_b4) hs16
  replace hsv20 := keepS1 hg (ne_of_ap hnb_hsv20_b4) hsv20
  replace ho20 := keepW1 hg (ne_of_ap hnb_ho20_b4) ho20
  clear hg
  refine sv ha (r_assign ha rfl) rfl rfl rfl ?_; clear ha a; intro a ha
  refine hK10 _ _ ?_; clear hK10 K9
  refine wp_ret ?_
  repeat (first | (with_reducible refine t_ret ?_) | (with_reducible refine x_ret ?_))
  exact retCT _ ha Tryd.results16 rfl rfl hb4 Tryd.underlying25 rfl (by rw [List.length_map, noA_len]; kernel_rfl) ⟨(by rw [prf_eq]; first | rfl | trace_state), hB⟩

theorem c_prf0 (eta : Int) (v : Value) (seed : List UInt8) (n : UInt8) (w0 : World) (hs : Sl w0 v (seed.map e8)) (hx : ¬ (1 ≤ eta ∧ eta ≤ 3)) (hG : Glob w0) :
    Calls Tryd.prog 16 #[ei eta, v, e8 n] w0 fun e w' => e = .returned (.tuple #[.agg ((zero256).map ei).toArray, en 1]) ∧ Below w0.heap.size w0 w' := by
  refine enter (args := [_, _, _]) Tryd.func16 rfl Tryd.ntmps16 rfl ?_
  intro a ha
  have hB := Below.refl w0.heap.size w0
  refine wp_seq_k fun K1 hK2 => ?_
  refine region ?_
  refine salloc ha zero_25S1 rfl ?_
  clear ha a; intro a w3 b4 ha hg hb4 hge4 hlt4
  have hz4 : w0.heap.size ≤ b4 := Nat.le_trans hB.size hge4
  replace hB := keepB0 hg hB
  clear hg hge4 hlt4
  refine sv ha (r_assign ha rfl) rfl rfl rfl ?_; clear ha a; intro a ha
  refine hK2 _ _ ?_; clear hK2 K1
  refine wp_seq_k fun K5 hK6 => ?_
  refine wp_seq_k fun K7 hK8 => ?_
  refine region ?_
  refine sv ha (r_move ha rfl) rfl rfl rfl ?_; clear ha a; intro a ha
  refine sv ha (r_lss ha eta 1 (decide (eta < 1)) rfl rfl (decide_eq_decide.2 (by omega))) rfl rfl rfl ?_; clear ha a; intro a ha
  refine sv ha (r_move ha rfl) rfl rfl rfl ?_; clear ha a; intro a ha
  cases hq9 : (decide (eta < 1))
  all_goals rw [hq9] at ha
  case false =>
    replace hq9 := of_decide_eq_false hq9
    refine svg ha (r_move ha rfl) rfl rfl rfl rfl rfl ?_; clear ha a; intro a ha
    refine svg ha (r_gtr ha eta 3 true rfl rfl (decide_eq_true (by omega))) rfl rfl rfl rfl rfl ?_; clear ha a; intro a ha
    refine sv ha (r_pick ha false rfl rfl) rfl rfl rfl ?_; clear ha a; intro a ha
    refine hK8 _ _ ?_; clear hK8 K7
    refine cond_t ha rfl ?_
    refine wp_seq_k fun K10 hK11 => ?_
    refine region ?_
    refine sv ha (r_build0 zero_25S1 Tryd.runUnderlying25 Tryd.sizeOf3) rfl rfl rfl ?_; clear ha a; intro a ha
    refine sstoreW ha rfl rfl (one_ei _) Tryd.sizeOf25 (by rw [List.length_map, List.length_replicate]) hb4 (by rw [List.length_map, List.length_replicate]) ?_
    clear ha a; intro a w12 ha hg hb4'
    clear hb4; have hb4 := hb4'; clear hb4'
    replace hB := keepB1 hg (by omega) hB
    clear hg
    refine sv ha (r_assign ha rfl) rfl rfl rfl ?_; clear ha a; intro a ha
    refine hK11 _ _ ?_; clear hK11 K10
    refine wp_ret ?_
    repeat (first | (with_reducible refine t_ret ?_) | (with_reducible refine x_ret ?_))
    exact retCT _ ha Tryd.results16 rfl rfl hb4 Tryd.underlying25 rfl (by rw [List.length_map, List.length_replicate]; kernel_rfl) ⟨rfl, hB⟩
  case true =>
    replace hq9 := of_decide_eq_true hq9
    refine sno ha rfl rfl rfl rfl rfl rfl ?_; clear ha a; intro a ha
    refine sno ha rfl rfl rfl rfl rfl rfl ?_; clear ha a; intro a ha
    refine sv ha (r_pick ha true rfl rfl) rfl rfl rfl ?_; clear ha a; intro a ha
    refine hK8 _ _ ?_; clear hK8 K7
    refine cond_t ha rfl ?_
    refine wp_seq_k fun K13 hK14 => ?_
    refine region ?_
    refine sv ha (r_build0 zero_25S1 Tryd.runUnderlying25 Tryd.sizeOf3) rfl rfl rfl ?_; clear ha a; intro a ha
    refine sstoreW ha rfl rfl (one_ei _) Tryd.sizeOf25 (by rw [List.length_map, List.length_replicate]) hb4 (by rw [List.length_map, List.length_replicate]) ?_
    clear ha a; intro a w15 ha hg hb4'
    clear hb4; have hb4 := hb4'; clear hb4'
    replace hB := keepB1 hg (by omega) hB
    clear hg
    refine sv ha (r_assign ha rfl) rfl rfl rfl ?_; clear ha a; intro a ha
    refine hK14 _ _ ?_; clear hK14 K13
    refine wp_ret ?_
    repeat (first | (with_reducible refine t_ret ?_) | (with_reducible refine x_ret ?_))
    exact retCT _ ha Tryd.results16 rfl rfl hb4 Tryd.underlying25 rfl (by rw [List.length_map, List.length_replicate]; kernel_rfl) ⟨rfl, hB⟩

theorem c_prfZ (eta : Int) (v : Value) (seed : List UInt8) (n : UInt8) (w0 : World) (hs : Sl w0 v (seed.map e8)) (hk : seed.length ≤ 50000) (hG : Glob w0) :
    Calls Tryd.prog 16 #[ei eta, v, e8 n] w0 fun e w' => e = .returned (.tuple #[.agg ((prfP eta seed n).map ei).toArray, en (prfE eta)]) ∧ Below w0.heap.size w0 w' := by
  by_cases h : 1 ≤ eta ∧ eta ≤ 3
  · obtain ⟨k, rfl⟩ := Int.eq_ofNat_of_zero_le (show 0 ≤ eta by omega)
    refine (c_prf1 k v seed n w0 (by omega) hs hk hG).mono fun e w h' => ?_
    rw [prfP, prfE, if_pos h, if_pos h]; exact h'
  · refine (c_prf0 eta v seed n w0 hs h hG).mono fun e w h' => ?_
    rw [prfP, prfE, if_neg h, if_neg h]; exact h'

theorem c_unpack1 (d : Nat) (v : Value) (b : List UInt8) (w0 : World) (hd : 1 ≤ d ∧ d ≤ 12) (hs : Sl w0 v (b.map e8)) (hb : b.length = 32 * d) :
    Calls Tryd.prog 18 #[en d, v] w0 fun e w' => e = .returned (.tuple #[.agg ((unA d b 256).map ei).toArray, en 0]) ∧ Below w0.heap.size w0 w' := by
  refine enter (args := [_, _]) Tryd.func18 rfl Tryd.ntmps18 rfl ?_
  intro a ha
  have hB := Below.refl w0.heap.size w0
  refine wp_seq_k fun K1 hK2 => ?_
  refine region ?_
  refine salloc ha zero_25S1 rfl ?_
  clear ha a; intro a w3 b4 ha hg hb4 hge4 hlt4
  have hz4 : w0.heap.size ≤ b4 := Nat.le_trans hB.size hge4
  replace hB := keepB0 hg hB
  clear hg hge4 hlt4
  refine sv ha (r_assign ha rfl) rfl rfl rfl ?_; clear ha a; intro a ha
  refine hK2 _ _ ?_; clear hK2 K1
  refine wp_seq_k fun K5 hK6 => ?_
  refine region ?_
  refine salloc ha zero_25S1 rfl ?_
  clear ha a; intro a w7 b8 ha hg hb8 hge8 hlt8
  have hz8 : w0.heap.size ≤ b8 := Nat.le_trans hB.size hge8
  have hq4_8 : b4 < b8 := Nat.lt_of_lt_of_le (lt_of_block hb4) hge8
  replace hB := keepB0 hg hB
  replace hb4 := keepO0 hg hb4
  clear hg hge8 hlt8
  refine hK6 _ _ ?_; clear hK6 K5
  refine wp_seq_k fun K9 hK10 => ?_
  refine wp_seq_k fun K11 hK12 => ?_
  refine region ?_
  refine sv ha (r_move ha rfl) rfl rfl rfl ?_; clear ha a; intro a ha
  refine sv ha (r_lss ha ((d : Nat) : Int) 1 false rfl rfl (decide_eq_false (by omega))) rfl rfl rfl ?_; clear ha a; intro a ha
  refine sv ha (r_move ha rfl) rfl rfl rfl ?_; clear ha a; intro a ha
  refine svg ha (r_move ha rfl) rfl rfl rfl rfl rfl ?_; clear ha a; intro a ha
  refine svg ha (r_gtr ha ((d : Nat) : Int) 12 false rfl rfl (decide_eq_false (by omega))) rfl rfl rfl rfl rfl ?_; clear ha a; intro a ha
  refine sv ha (r_pick ha false rfl rfl) rfl rfl rfl ?_; clear ha a; intro a ha
  refine sv ha (r_move ha rfl) rfl rfl rfl ?_; clear ha a; intro a ha
  refine svg ha (r_move ha rfl) rfl rfl rfl rfl rfl ?_; clear ha a; intro a ha
  refine svg ha (r_lenS ha Tryd.runUnderlying22 (hs.below hB) rfl (by rw [List.length_map])) rfl rfl rfl rfl rfl ?_; clear ha a; intro a ha
  refine svg ha (r_move ha rfl) rfl rfl rfl rfl rfl ?_; clear ha a; intro a ha
  refine svg ha (rn_mul ha 32 d rfl rfl (by omega)) rfl rfl rfl rfl rfl ?_; clear ha a; intro a ha
  refine svg ha (r_neq ha ((b.length : Nat) : Int) ((32 * d : Nat) : Int) false rfl rfl (decide_eq_false (by omega))) rfl rfl rfl rfl rfl ?_; clear ha a; intro a ha
  refine sv ha (r_pick ha false rfl rfl) rfl rfl rfl ?_; clear ha a; intro a ha
  refine hK12 _ _ ?_; clear hK12 K11
  refine cond_f ha rfl ?_
  refine wp_skip ?_
  refine hK10 _ _ ?_; clear hK10 K9
  refine wp_seq_k fun K13 hK14 => ?_
  refine wp_seq_k fun K15 hK16 => ?_
  refine region ?_
  refine sv ha (r_move ha rfl) rfl rfl rfl ?_; clear ha a; intro a ha
  refine hK16 _ _ ?_; clear hK16 K15
  refine wp_block ?_
  refine loopG (fun (i : Nat) a w => (i ≤ 256) ∧ Has 36 [(0, en d), (1, v), (4, .pointer (some ⟨b4, 0, none⟩)), (5, .int .i64 0), (6, .pointer (some ⟨b8, 0, none⟩)), (8, en d), (9, .bool false), (10, .bool false), (11, en d), (12, .bool false), (13, .bool false), (14, .bool false), (15, v), (16, en b.length), (17, en d), (18, en (32 * d)), (19, .bool false), (20, .bool false), (22, en i)] a ∧ Below w0.heap.size w0 w ∧ w.heap[b4]? = some (.cells ((List.replicate 256 (0 : Int)).map ei).toArray 25 (0, 0)) ∧ w.heap[b8]? = some (.cells ((unA d b i).map ei).toArray 25 (0, 0))) (fun i => 256 - i) 0 ⟨(by omega), ha.to [0, 1, 4, 5, 6, 8, 9, 10, 11, 12, 13, 14, 15, 16, 17, 18, 19, 20, 22] rfl, hB, hb4, hb8⟩ ?_
  clear ha a hB hb4 hb8
  intro i a w17 ⟨hki, ha, hB, hb4, hb8⟩
  have hmm := Nat.mul_le_mul hd.2 (show i ≤ 256 by omega)
  refine wp_seq_k fun K18 hK19 => ?_
  refine region ?_
  refine sv ha (r_lss ha ((i : Nat) : Int) 256 (decide (i < 256)) rfl rfl (decide_eq_decide.2 (by omega))) rfl rfl rfl ?_; clear ha a; intro a ha
  refine hK19 _ _ ?_; clear hK19 K18
  refine wp_seq_k fun K20 hK21 => ?_
  refine cond_if ha rfl (fun hc22 => ?_) (fun hc22 => ?_)
  · skip
    replace hc22 := of_decide_eq_true hc22
    refine wp_skip ?_
    refine hK21 _ _ ?_; clear hK21 K20
    refine wp_seq_k fun K23 hK24 => ?_
    refine wp_block ?_
    refine wp_seq_k fun K25 hK26 => ?_
    refine region ?_
    refine sv ha (r_move ha rfl) rfl rfl rfl ?_; clear ha a; intro a ha
    refine sv ha (r_assign ha rfl) rfl rfl rfl ?_; clear ha a; intro a ha
    refine hK26 _ _ ?_; clear hK26 K25
    refine region ?_
    refine sv ha (r_move ha rfl) rfl rfl rfl ?_; clear ha a; intro a ha
    refine sv ha (r_move ha rfl) rfl rfl rfl ?_; clear ha a; intro a ha
    refine sv ha (r_move ha rfl) rfl rfl rfl ?_; clear ha a; intro a ha
    refine sv ha (r_move ha rfl) rfl rfl rfl ?_; clear ha a; intro a ha
    refine sv ha (rn_mul ha d i rfl rfl (by omega)) rfl rfl rfl ?_; clear ha a; intro a ha
    refine sv ha (r_move ha rfl) rfl rfl rfl ?_; clear ha a; intro a ha
    refine sc ha (r_call ha [v, en (d * i), en d] rfl Tryd.call42) rfl rfl rfl (c_bits v b (d * i) d _ (hs.below hB) (by omega) (by have := Nat.mul_le_mul_left d (show i + 1 ≤ 256 by omega); rw [Nat.mul_add] at this; omega) (by omega)) ?_
    clear ha a
    rintro e w27 ⟨rfl, hBc⟩
    have hg := grown_call hBc; clear hBc
    replace hB := keepB0 hg hB
    replace hb4 := keepO0 hg hb4
    replace hb8 := keepO0 hg hb8
    clear hg
    refine ⟨_, rfl, ?_⟩; intro a ha
    refine sc ha (r_call ha [ei ((btA b (d * i) d : Nat) : Int)] rfl Tryd.call41) rfl rfl rfl (c_mod ((btA b (d * i) d : Nat) : Int) _ ) ?_
    clear ha a
    rintro e w28 ⟨rfl, hBc⟩
    have hg := grown_call hBc; clear hBc
    replace hB := keepB0 hg hB
    replace hb4 := keepO0 hg hb4
    replace hb8 := keepO0 hg hb8
    clear hg
    refine ⟨_, rfl, ?_⟩; intro a ha
    refine sv ha (r_indexArr (i := i) ha i Tryd.runUnderlying25 Tryd.sizeOf3 rfl rfl (by omega) (by omega)) rfl rfl rfl ?_; clear ha a; intro a ha
    refine sstore ha (v := ei ((zmod ((btA b (d * i) d : Nat) : Int) : Nat) : Int)) rfl rfl rfl rfl Tryd.sizeOf3 hb8 (by rw [List.length_map, unA_len]; omega) ?_
    clear ha a; intro a w29 ha hg hb8'
    rw [set_map] at hb8'
    clear hb8; have hb8 := hb8'; clear hb8'
    replace hB := keepB1 hg (by omega) hB
    replace hb4 := keepO1 hg (by omega) hb4
    clear hg
    refine hK24 _ _ ?_; clear hK24 K23
    refine region ?_
    refine sv ha (rn_add ha i 1 rfl rfl (by omega)) rfl rfl rfl ?_; clear ha a; intro a ha
    refine sv ha (r_move ha rfl) rfl rfl rfl ?_; clear ha a; intro a ha
    exact ⟨i + 1, by omega, (by omega), ha.to [0, 1, 4, 5, 6, 8, 9, 10, 11, 12, 13, 14, 15, 16, 17, 18, 19, 20, 22] rfl, hB, hb4, hb8⟩
  · skip
    replace hc22 := of_decide_eq_false hc22
    refine wp_exit ?_
    obtain rfl : i = 256 := by omega
    refine hK14 _ _ ?_; clear hK21 K20 hK14 K13
    refine wp_seq_k fun K30 hK31 => ?_
    refine region ?_
    refine sv ha (r_loadR ha rfl Tryd.isAgg25 Tryd.sizeOf25 (C := (unA d b 256).map ei) (by rw [List.length_map, unA_len]) (cells_all hb8)) rfl rfl rfl ?_; clear ha a; intro a ha
    refine sstoreW ha rfl rfl (one_ei _) Tryd.sizeOf25 (by rw [List.length_map, unA_len]) hb4 (by rw [List.length_map, List.length_replicate]) ?_
    clear ha a; intro a w32 ha hg hb4'
    clear hb4; have hb4 := hb4'; clear hb4'
    replace hB := keepB1 hg (by omega) hB
    replace hb8 := keepO1 hg (by omega) hb8
    clear hg
    refine sv ha (r_assign ha rfl) rfl rfl rfl ?_; clear ha a; intro a ha
    refine hK31 _ _ ?_; clear hK31 K30
    refine wp_ret ?_
    repeat (first | (with_reducible refine t_ret ?_) | (with_reducible refine x_ret ?_))
    exact retCT _ ha Tryd.results18 rfl rfl hb4 Tryd.underlying25 rfl (by rw [List.length_map, unA_len]; kernel_rfl) ⟨rfl, hB⟩

theorem c_unpack0 (d : Int) (v : Value) (b : List UInt8) (w0 : World) (hs : Sl w0 v (b.map e8)) (hx : ¬ (1 ≤ d ∧ d ≤ 12 ∧ (b.length : Int) = 32 * d)) :
    Calls Tryd.prog 18 #[ei d, v] w0 fun e w' => e = .returned (.tuple #[.agg ((zero256).map ei).toArray, en 1]) ∧ Below w0.heap.size w0 w' := by
  refine enter (args := [_, _]) Tryd.func18 rfl Tryd.ntmps18 rfl ?_
  intro a ha
  have hB := Below.refl w0.heap.size w0
  refine wp_seq_k fun K1 hK2 => ?_
  refine region ?_
  refine salloc ha zero_25S1 rfl ?_
  clear ha a; intro a w3 b4 ha hg hb4 hge4 hlt4
  have hz4 : w0.heap.size ≤ b4 := Nat.le_trans hB.size hge4
  replace hB := keepB0 hg hB
  clear hg hge4 hlt4
  refine sv ha (r_assign ha rfl) rfl rfl rfl ?_; clear ha a; intro a ha
  refine hK2 _ _ ?_; clear hK2 K1
  refine wp_seq_k fun K5 hK6 => ?_
  refine region ?_
  refine salloc ha zero_25S1 rfl ?_
  clear ha a; intro a w7 b8 ha hg hb8 hge8 hlt8
  have hz8 : w0.heap.size ≤ b8 := Nat.le_trans hB.size hge8
  have hq4_8 : b4 < b8 := Nat.lt_of_lt_of_le (lt_of_block hb4) hge8
  replace hB := keepB0 hg hB
  replace hb4 := keepO0 hg hb4
  clear hg hge8 hlt8
  refine hK6 _ _ ?_; clear hK6 K5
  refine wp_seq_k fun K9 hK10 => ?_
  refine wp_seq_k fun K11 hK12 => ?_
  refine region ?_
  refine sv ha (r_move ha rfl) rfl rfl rfl ?_; clear ha a; intro a ha
  refine sv ha (r_lss ha d 1 (decide (d < 1)) rfl rfl (decide_eq_decide.2 (by omega))) rfl rfl rfl ?_; clear ha a; intro a ha
  refine sv ha (r_move ha rfl) rfl rfl rfl ?_; clear ha a; intro a ha
  cases hq13 : (decide (d < 1))
  all_goals rw [hq13] at ha
  case false =>
    replace hq13 := of_decide_eq_false hq13
    refine svg ha (r_move ha rfl) rfl rfl rfl rfl rfl ?_; clear ha a; intro a ha
    refine svg ha (r_gtr ha d 12 (decide (d > 12)) rfl rfl (decide_eq_decide.2 (by omega))) rfl rfl rfl rfl rfl ?_; clear ha a; intro a ha
    refine sv ha (r_pick ha false rfl rfl) rfl rfl rfl ?_; clear ha a; intro a ha
    refine sv ha (r_move ha rfl) rfl rfl rfl ?_; clear ha a; intro a ha
    cases hq14 : (decide (d > 12))
    all_goals rw [hq14] at ha
    case false =>
      replace hq14 := of_decide_eq_false hq14
      refine svg ha (r_move ha rfl) rfl rfl rfl rfl rfl ?_; clear ha a; intro a ha
      refine svg ha (r_lenS ha Tryd.runUnderlying22 (hs.below hB) rfl (by rw [List.length_map])) rfl rfl rfl rfl rfl ?_; clear ha a; intro a ha
      refine svg ha (r_move ha rfl) rfl rfl rfl rfl rfl ?_; clear ha a; intro a ha
      refine svg ha (r_mul ha 32 d rfl rfl (by omega)) rfl rfl rfl rfl rfl ?_; clear ha a; intro a ha
      refine svg ha (r_neq ha ((b.length : Nat) : Int) (32 * d) true rfl rfl (decide_eq_true (by omega))) rfl rfl rfl rfl rfl ?_; clear ha a; intro a ha
      refine sv ha (r_pick ha false rfl rfl) rfl rfl rfl ?_; clear ha a; intro a ha
      refine hK12 _ _ ?_; clear hK12 K11
      refine cond_t ha rfl ?_
      refine wp_seq_k fun K15 hK16 => ?_
      refine region ?_
      refine sv ha (r_loadR ha rfl Tryd.isAgg25 Tryd.sizeOf25 (C := (List.replicate 256 (0 : Int)).map ei) (by rw [List.length_map, List.length_replicate]) (cells_all hb8)) rfl rfl rfl ?_; clear ha a; intro a ha
      refine sstoreW ha rfl rfl (one_ei _) Tryd.sizeOf25 (by rw [List.length_map, List.length_replicate]) hb4 (by rw [List.length_map, List.length_replicate]) ?_
      clear ha a; intro a w17 ha hg hb4'
      clear hb4; have hb4 := hb4'; clear hb4'
      replace hB := keepB1 hg (by omega) hB
      replace hb8 := keepO1 hg (by omega) hb8
      clear hg
      refine sv ha (r_assign ha rfl) rfl rfl rfl ?_; clear ha a; intro a ha
      refine hK16 _ _ ?_; clear hK16 K15
      refine wp_ret ?_
      repeat (first | (with_reducible refine t_ret ?_) | (with_reducible refine x_ret ?_))
      exact retCT _ ha Tryd.results18 rfl rfl hb4 Tryd.underlying25 rfl (by rw [List.length_map, List.length_replicate]; kernel_rfl) ⟨rfl, hB⟩
    case true =>
      replace hq14 := of_decide_eq_true hq14
      refine sno ha rfl rfl rfl rfl rfl rfl ?_; clear ha a; intro a ha
      refine sno ha rfl rfl rfl rfl rfl rfl ?_; clear ha a; intro a ha
      refine sno ha rfl rfl rfl rfl rfl rfl ?_; clear ha a; intro a ha
      refine sno ha rfl rfl rfl rfl rfl rfl ?_; clear ha a; intro a ha
      refine sno ha rfl rfl rfl rfl rfl rfl ?_; clear ha a; intro a ha
      refine sv ha (r_pick ha true rfl rfl) rfl rfl rfl ?_; clear ha a; intro a ha
      refine hK12 _ _ ?_; clear hK12 K11
      refine cond_t ha rfl ?_
      refine wp_seq_k fun K18 hK19 => ?_
      refine region ?_
      refine sv ha (r_loadR ha rfl Tryd.isAgg25 Tryd.sizeOf25 (C := (List.replicate 256 (0 : Int)).map ei) (by rw [List.length_map, List.length_replicate]) (cells_all hb8)) rfl rfl rfl ?_; clear ha a; intro a ha
      refine sstoreW ha rfl rfl (one_ei _) Tryd.sizeOf25 (by rw [List.length_map, List.length_replicate]) hb4 (by rw [List.length_map, List.length_replicate]) ?_
      clear ha a; intro a w20 ha hg hb4'
      clear hb4; have hb4 := hb4'; clear hb4'
      replace hB := keepB1 hg (by omega) hB
      replace hb8 := keepO1 hg (by omega) hb8
      clear hg
      refine sv ha (r_assign ha rfl) rfl rfl rfl ?_; clear ha a; intro a ha
      refine hK19 _ _ ?_; clear hK19 K18
      refine wp_ret ?_
      repeat (first | (with_reducible refine t_ret ?_) | (with_reducible refine x_ret ?_))
      exact retCT _ ha Tryd.results18 rfl rfl hb4 Tryd.underlying25 rfl (by rw [List.length_map, List.length_replicate]; kernel_rfl) ⟨rfl, hB⟩
  case true =>
    replace hq13 := of_decide_eq_true hq13
    refine sno ha rfl rfl rfl rfl rfl rfl ?_; clear ha a; intro a ha
    refine sno ha rfl rfl rfl rfl rfl rfl ?_; clear ha a; intro a ha
    refine sv ha (r_pick ha true rfl rfl) rfl rfl rfl ?_; clear ha a; intro a ha
    refine sv ha (r_move ha rfl) rfl rfl rfl ?_; clear ha a; intro a ha
    refine sno ha rfl rfl rfl rfl rfl rfl ?_; clear ha a; intro a ha
    refine sno ha rfl rfl rfl rfl rfl rfl ?_; clear ha a; intro a ha
    refine sno ha rfl rfl rfl rfl rfl rfl ?_; clear ha a; intro a ha
    refine sno ha rfl rfl rfl rfl rfl rfl ?_; clear ha a; intro a ha
    refine sno ha rfl rfl rfl rfl rfl rfl ?_; clear ha a; intro a ha
    refine sv ha (r_pick ha true rfl rfl) rfl rfl rfl ?_; clear ha a; intro a ha
    refine hK12 _ _ ?_; clear hK12 K11
    refine cond_t ha rfl ?_
    refine wp_seq_k fun K21 hK22 => ?_
    refine region ?_
    refine sv ha (r_loadR ha rfl Tryd.isAgg25 Tryd.sizeOf25 (C := (List.replicate 256 (0 : Int)).map ei) (by rw [List.length_map, List.length_replicate]) (cells_all hb8)) rfl rfl rfl ?_; clear ha a; intro a ha
    refine sstoreW ha rfl rfl (one_ei _) Tryd.sizeOf25 (by rw [List.length_map, List.length_replicate]) hb4 (by rw [List.length_map, List.length_replicate]) ?_
    clear ha a; intro a w23 ha hg hb4'
    clear hb4; have hb4 := hb4'; clear hb4'
    replace hB := keepB1 hg (by omega) hB
    replace hb8 := keepO1 hg (by omega) hb8
    clear hg
    refine sv ha (r_assign ha rfl) rfl rfl rfl ?_; clear ha a; intro a ha
    refine hK22 _ _ ?_; clear hK22 K21
    refine wp_ret ?_
    repeat (first | (with_reducible refine t_ret ?_) | (with_reducible refine x_ret ?_))
    exact retCT _ ha Tryd.results18 rfl rfl hb4 Tryd.underlying25 rfl (by rw [List.length_map, List.length_replicate]; kernel_rfl) ⟨rfl, hB⟩

theorem c_unpackZ (d : Int) (v : Value) (b : List UInt8) (w0 : World) (hs : Sl w0 v (b.map e8)) :
    Calls Tryd.prog 18 #[ei d, v] w0 fun e w' => e = .returned (.tuple #[.agg ((unpP d b).map ei).toArray, en (unpE d b)]) ∧ Below w0.heap.size w0 w' := by
  by_cases h : 1 ≤ d ∧ d ≤ 12 ∧ (b.length : Int) = 32 * d
  · obtain ⟨n, rfl⟩ := Int.eq_ofNat_of_zero_le (show 0 ≤ d by omega)
    refine (c_unpack1 n v b w0 (by omega) hs (by omega)).mono fun e w h' => ?_
    rw [unpP, unpE, if_pos h, if_pos h]; exact h'
  · refine (c_unpack0 d v b w0 hs h).mono fun e w h' => ?_
    rw [unpP, unpE, if_neg h, if_neg h]; exact h'

theorem c_pack1 (d : Nat) (p : List Int) (w0 : World) (hd : 1 ≤ d ∧ d ≤ 12) (hp : p.length = 256) :
    Calls Tryd.prog 20 #[en d, .agg ((p).map ei).toArray] w0 fun e w' => ∃ u0 : Value, e = .returned (u0) ∧ Below w0.heap.size w0 w' ∧ Sl w' u0 ((paA d p 256).map e8) ∧ (∀ j, u0.ownBlock = some j → w0.heap.size ≤ j) := by
  refine enter (args := [_, _]) Tryd.func20 rfl Tryd.ntmps20 rfl ?_
  intro a ha
  have hB := Below.refl w0.heap.size w0
  refine wp_seq_k fun K1 hK2 => ?_
  refine region ?_
  refine sbox ha rfl rfl ?_
  clear ha a; intro a w3 b4 ha hg hb4 hge4 hlt4
  have hz4 : w0.heap.size ≤ b4 := Nat.le_trans hB.size hge4
  replace hB := keepB0 hg hB
  clear hg hge4 hlt4
  refine sv ha (r_assign ha rfl) rfl rfl rfl ?_; clear ha a; intro a ha
  refine hK2 _ _ ?_; clear hK2 K1
  refine wp_seq_k fun K5 hK6 => ?_
  refine wp_seq_k fun K7 hK8 => ?_
  refine region ?_
  refine sv ha (r_move ha rfl) rfl rfl rfl ?_; clear ha a; intro a ha
  refine sv ha (r_lss ha ((d : Nat) : Int) 1 false rfl rfl (decide_eq_false (by omega))) rfl rfl rfl ?_; clear ha a; intro a ha
  refine sv ha (r_move ha rfl) rfl rfl rfl ?_; clear ha a; intro a ha
  refine svg ha (r_move ha rfl) rfl rfl rfl rfl rfl ?_; clear ha a; intro a ha
  refine svg ha (r_gtr ha ((d : Nat) : Int) 12 false rfl rfl (decide_eq_false (by omega))) rfl rfl rfl rfl rfl ?_; clear ha a; intro a ha
  refine sv ha (r_pick ha false rfl rfl) rfl rfl rfl ?_; clear ha a; intro a ha
  refine hK8 _ _ ?_; clear hK8 K7
  refine cond_f ha rfl ?_
  refine wp_skip ?_
  refine hK6 _ _ ?_; clear hK6 K5
  refine wp_seq_k fun K9 hK10 => ?_
  refine region ?_
  refine sv ha (r_move ha rfl) rfl rfl rfl ?_; clear ha a; intro a ha
  refine sv ha (rn_mul ha 32 d rfl rfl (by omega)) rfl rfl rfl ?_; clear ha a; intro a ha
  refine smake (k := 32 * d) ha rfl rfl Tryd.underlying22 rfl rfl rfl rfl (show 1 * _ ≤ _ by omega) (by omega) rfl ?_
  clear ha a; intro a w11 b12 ha hg hb12 hge12 hlt12
  have hz12 : w0.heap.size ≤ b12 := Nat.le_trans hB.size hge12
  have hq4_12 : b4 < b12 := Nat.lt_of_lt_of_le (lt_of_block hb4) hge12
  replace hB := keepB0 hg hB
  replace hb4 := keepO0 hg hb4
  clear hg hge12 hlt12
  rw [show (List.replicate (32 * d) (Value.int .u8 0)) = (List.replicate (32 * d) (0 : UInt8)).map e8 by rw [List.map_replicate]; rfl] at hb12
  refine sv ha (r_assign ha rfl) rfl rfl rfl ?_; clear ha a; intro a ha
  refine hK10 _ _ ?_; clear hK10 K9
  refine wp_seq_k fun K13 hK14 => ?_
  refine wp_seq_k fun K15 hK16 => ?_
  refine region ?_
  refine sv ha (r_loadR ha rfl Tryd.isAgg25 Tryd.sizeOf25 (C := (p).map ei) (by rw [List.length_map, hp]) (cells_all hb4)) rfl rfl rfl ?_; clear ha a; intro a ha
  refine sv ha (r_move ha rfl) rfl rfl rfl ?_; clear ha a; intro a ha
  refine hK16 _ _ ?_; clear hK16 K15
  refine wp_block ?_
  refine loopG (fun (i : Nat) a w => (i ≤ 256) ∧ Has 55 [(0, en d), (1, .agg ((p).map ei).toArray), (3, .pointer (some ⟨b4, 0, none⟩)), (4, .slice none 0 0), (10, en d), (11, .bool false), (12, .bool false), (13, en d), (14, .bool false), (15, .bool false), (16, en d), (17, en (32 * d)), (18, .slice (some ⟨b12, 0, none⟩) (32 * d) (32 * d)), (5, .slice (some ⟨b12, 0, none⟩) (32 * d) (32 * d)), (19, .agg ((p).map ei).toArray), (20, en i)] a ∧ Below w0.heap.size w0 w ∧ w.heap[b4]? = some (.cells ((p).map ei).toArray 25 (0, 0)) ∧ w.heap[b12]? = some (.cells ((paA d p i).map e8).toArray 5 (0, 0))) (fun i => 256 - i) 0 ⟨(by omega), ha.to [0, 1, 3, 4, 10, 11, 12, 13, 14, 15, 16, 17, 18, 5, 19, 20] rfl, hB, hb4, hb12⟩ ?_
  clear ha a hB hb4 hb12
  intro i a w17 ⟨hki, ha, hB, hb4, hb12⟩
  have hmm := Nat.mul_le_mul hd.2 (show i ≤ 256 by omega)
  refine wp_seq_k fun K18 hK19 => ?_
  refine region ?_
  refine sv ha (r_lss ha ((i : Nat) : Int) 256 (decide (i < 256)) rfl rfl (decide_eq_decide.2 (by omega))) rfl rfl rfl ?_; clear ha a; intro a ha
  refine hK19 _ _ ?_; clear hK19 K18
  refine wp_seq_k fun K20 hK21 => ?_
  refine cond_if ha rfl (fun hc22 => ?_) (fun hc22 => ?_)
  · skip
    replace hc22 := of_decide_eq_true hc22
    refine wp_skip ?_
    refine hK21 _ _ ?_; clear hK21 K20
    refine wp_seq_k fun K23 hK24 => ?_
    refine wp_block ?_
    refine wp_seq_k fun K25 hK26 => ?_
    refine region ?_
    refine sv ha (r_move ha rfl) rfl rfl rfl ?_; clear ha a; intro a ha
    refine sv ha (r_index (C := (p).map ei) ha i rfl rfl Tryd.runUnderlying25 Tryd.sizeOf3 Tryd.isAgg3 (by omega) (get_map ei p 0 i (by rw [hp]; omega))) rfl rfl rfl ?_; clear ha a; intro a ha
    refine sv ha (r_assign ha rfl) rfl rfl rfl ?_; clear ha a; intro a ha
    refine sv ha (r_assign ha rfl) rfl rfl rfl ?_; clear ha a; intro a ha
    refine hK26 _ _ ?_; clear hK26 K25
    refine wp_seq_k fun K27 hK28 => ?_
    refine region ?_
    refine sv ha (r_move ha rfl) rfl rfl rfl ?_; clear ha a; intro a ha
    refine sc ha (r_call ha [ei (p.getD i 0)] rfl Tryd.call41) rfl rfl rfl (c_mod (p.getD i 0) _ ) ?_
    clear ha a
    rintro e w29 ⟨rfl, hBc⟩
    have hg := grown_call hBc; clear hBc
    replace hB := keepB0 hg hB
    replace hb4 := keepO0 hg hb4
    replace hb12 := keepO0 hg hb12
    clear hg
    refine ⟨_, rfl, ?_⟩; intro a ha
    refine sv ha (r_assign ha rfl) rfl rfl rfl ?_; clear ha a; intro a ha
    refine hK28 _ _ ?_; clear hK28 K27
    refine wp_seq_k fun K30 hK31 => ?_
    refine region ?_
    refine sv ha (r_move ha rfl) rfl rfl rfl ?_; clear ha a; intro a ha
    refine sv ha (r_move ha rfl) rfl rfl rfl ?_; clear ha a; intro a ha
    refine hK31 _ _ ?_; clear hK31 K30
    refine wp_block ?_
    have hdi := Nat.mul_le_mul_left d (show i + 1 ≤ 256 by omega)
    rw [Nat.mul_add] at hdi
    refine loopG (fun (j : Nat) a w => (j ≤ d) ∧ Has 55 [(0, en d), (1, .agg ((p).map ei).toArray), (3, .pointer (some ⟨b4, 0, none⟩)), (4, .slice none 0 0), (10, en d), (11, .bool false), (12, .bool false), (13, en d), (14, .bool false), (15, .bool false), (16, en d), (17, en (32 * d)), (18, .slice (some ⟨b12, 0, none⟩) (32 * d) (32 * d)), (5, .slice (some ⟨b12, 0, none⟩) (32 * d) (32 * d)), (19, .agg ((p).map ei).toArray), (20, en i), (21, .bool (decide (i < 256))), (22, en i), (23, ei (p.getD i 0)), (6, en i), (7, en (zmod (p.getD i 0))), (24, ei (p.getD i 0)), (25, en (zmod (p.getD i 0))), (26, en d), (27, en j)] a ∧ Below w0.heap.size w0 w ∧ w.heap[b4]? = some (.cells ((p).map ei).toArray 25 (0, 0)) ∧ w.heap[b12]? = some (.cells ((paB (zmod (p.getD i 0)) (d * i) (paA d p i) j).map e8).toArray 5 (0, 0))) (fun j => d - j) 0 ⟨(by omega), ha.to [0, 1, 3, 4, 10, 11, 12, 13, 14, 15, 16, 17, 18, 5, 19, 20, 21, 22, 23, 6, 7, 24, 25, 26, 27] rfl, hB, hb4, hb12⟩ ?_
    clear ha a hB hb4 hb12
    intro j a w32 ⟨hkj, ha, hB, hb4, hb12⟩
    refine wp_seq_k fun K33 hK34 => ?_
    refine region ?_
    refine sv ha (r_lss ha ((j : Nat) : Int) ((d : Nat) : Int) (decide (j < d)) rfl rfl (decide_eq_decide.2 (by omega))) rfl rfl rfl ?_; clear ha a; intro a ha
    refine hK34 _ _ ?_; clear hK34 K33
    refine wp_seq_k fun K35 hK36 => ?_
    refine cond_if ha rfl (fun hc37 => ?_) (fun hc37 => ?_)
    · skip
      replace hc37 := of_decide_eq_true hc37
      refine wp_skip ?_
      refine hK36 _ _ ?_; clear hK36 K35
      refine wp_seq_k fun K38 hK39 => ?_
      refine wp_block ?_
      refine wp_seq_k fun K40 hK41 => ?_
      refine region ?_
      refine sv ha (r_move ha rfl) rfl rfl rfl ?_; clear ha a; intro a ha
      refine sv ha (r_assign ha rfl) rfl rfl rfl ?_; clear ha a; intro a ha
      refine hK41 _ _ ?_; clear hK41 K40
      refine wp_seq_k fun K42 hK43 => ?_
      refine region ?_
      refine sv ha (r_move ha rfl) rfl rfl rfl ?_; clear ha a; intro a ha
      refine sv ha (r_move ha rfl) rfl rfl rfl ?_; clear ha a; intro a ha
      refine sv ha (rn_mul ha d i rfl rfl (by omega)) rfl rfl rfl ?_; clear ha a; intro a ha
      refine sv ha (r_move ha rfl) rfl rfl rfl ?_; clear ha a; intro a ha
      refine sv ha (rn_add ha (d * i) j rfl rfl (by omega)) rfl rfl rfl ?_; clear ha a; intro a ha
      refine sv ha (r_assign ha rfl) rfl rfl rfl ?_; clear ha a; intro a ha
      refine hK43 _ _ ?_; clear hK43 K42
      refine region ?_
      refine sv ha (r_move ha rfl) rfl rfl rfl ?_; clear ha a; intro a ha
      refine sv ha (r_move ha rfl) rfl rfl rfl ?_; clear ha a; intro a ha
      refine sv ha (rn_quo ha ((d * i) + j) 8 rfl rfl (by omega) (by omega)) rfl rfl rfl ?_; clear ha a; intro a ha
      refine sv ha (r_indexB ha (((d * i) + j) / 8) Tryd.runUnderlying22 Tryd.sizeOf5 rfl rfl (by omega)) rfl rfl rfl ?_; clear ha a; intro a ha
      refine sv ha (r_load ha rfl Tryd.isAgg5 (cell_of hb12 (get_map e8 (paB (zmod (p.getD i 0)) (d * i) (paA d p i) j) 0 (((d * i) + j) / 8) (by rw [paB_len, paA_len]; omega)))) rfl rfl rfl ?_; clear ha a; intro a ha
      refine sv ha (r_move ha rfl) rfl rfl rfl ?_; clear ha a; intro a ha
      refine sv ha (r_move ha rfl) rfl rfl rfl ?_; clear ha a; intro a ha
      refine sv ha (r_conv_n_u64 ha j Tryd.runUnderlying3 Tryd.runUnderlying45 rfl (by omega)) rfl rfl rfl ?_; clear ha a; intro a ha
      refine sv ha (rn_shr ha (zmod (p.getD i 0)) j rfl rfl (by omega)) rfl rfl rfl ?_; clear ha a; intro a ha
      refine sv ha (v_of (r_mask ha (((zmod (p.getD i 0)) >>> j : Nat) : Int) 1 (by omega) (m := 1) rfl rfl rfl) (congrArg en ((by rw [Nat.shiftRight_eq_div_pow]; omega) : ((((zmod (p.getD i 0)) >>> j : Nat) : Int) % (2 ^ 1 : Nat)).toNat = zmod (p.getD i 0) / 2 ^ j % 2))) rfl rfl rfl ?_; clear ha a; intro a ha
      refine sv ha (r_conv_n_u8w ha (zmod (p.getD i 0) / 2 ^ j % 2) Tryd.runUnderlying3 Tryd.runUnderlying5 rfl) rfl rfl rfl ?_; clear ha a; intro a ha
      refine sv ha (r_move ha rfl) rfl rfl rfl ?_; clear ha a; intro a ha
      refine sv ha (rn_rem ha ((d * i) + j) 8 rfl rfl (by omega)) rfl rfl rfl ?_; clear ha a; intro a ha
      refine sv ha (r_conv_n_u64 ha (((d * i) + j) % 8) Tryd.runUnderlying3 Tryd.runUnderlying45 rfl (by omega)) rfl rfl rfl ?_; clear ha a; intro a ha
      refine sv ha (rb_shl ha (UInt8.ofNat (zmod (p.getD i 0) / 2 ^ j % 2)) (((d * i) + j) % 8) rfl rfl (by omega)) rfl rfl rfl ?_; clear ha a; intro a ha
      refine sv ha (rb_or ha ((paB (zmod (p.getD i 0)) (d * i) (paA d p i) j).getD (((d * i) + j) / 8) 0) ((UInt8.ofNat (zmod (p.getD i 0) / 2 ^ j % 2)) <<< UInt8.ofNat (((d * i) + j) % 8)) rfl rfl) rfl rfl rfl ?_; clear ha a; intro a ha
      refine sv ha (r_indexB ha (((d * i) + j) / 8) Tryd.runUnderlying22 Tryd.sizeOf5 rfl rfl (by omega)) rfl rfl rfl ?_; clear ha a; intro a ha
      refine sstore ha (v := e8 (((paB (zmod (p.getD i 0)) (d * i) (paA d p i) j).getD (((d * i) + j) / 8) 0) ||| ((UInt8.ofNat (zmod (p.getD i 0) / 2 ^ j % 2)) <<< UInt8.ofNat (((d * i) + j) % 8)))) rfl rfl rfl rfl Tryd.sizeOf5 hb12 (by rw [List.length_map, paB_len, paA_len]; omega) ?_
      clear ha a; intro a w44 ha hg hb12'
      rw [set_map] at hb12'
      clear hb12; have hb12 := hb12'; clear hb12'
      replace hB := keepB1 hg (by omega) hB
      replace hb4 := keepO1 hg (by omega) hb4
      clear hg
      refine hK39 _ _ ?_; clear hK39 K38
      refine region ?_
      refine sv ha (rn_add ha j 1 rfl rfl (by omega)) rfl rfl rfl ?_; clear ha a; intro a ha
      refine sv ha (r_move ha rfl) rfl rfl rfl ?_; clear ha a; intro a ha
      exact ⟨j + 1, by omega, (by omega), ha.to [0, 1, 3, 4, 10, 11, 12, 13, 14, 15, 16, 17, 18, 5, 19, 20, 21, 22, 23, 6, 7, 24, 25, 26, 27] rfl, hB, hb4, hb12⟩
    · skip
      replace hc37 := of_decide_eq_false hc37
      refine wp_exit ?_
      obtain rfl : d = j := by omega
      refine hK24 _ _ ?_; clear hK36 K35 hK24 K23
      refine region ?_
      refine sv ha (rn_add ha i 1 rfl rfl (by omega)) rfl rfl rfl ?_; clear ha a; intro a ha
      refine sv ha (r_move ha rfl) rfl rfl rfl ?_; clear ha a; intro a ha
      exact ⟨i + 1, by omega, (by omega), ha.to [0, 1, 3, 4, 10, 11, 12, 13, 14, 15, 16, 17, 18, 5, 19, 20] rfl, hB, hb4, hb12⟩
  · skip
    replace hc22 := of_decide_eq_false hc22
    refine wp_exit ?_
    obtain rfl : i = 256 := by omega
    refine hK14 _ _ ?_; clear hK21 K20 hK14 K13
    refine wp_seq_k fun K45 hK46 => ?_
    refine region ?_
    refine sv ha (r_move ha rfl) rfl rfl rfl ?_; clear ha a; intro a ha
    refine sv ha (r_assign ha rfl) rfl rfl rfl ?_; clear ha a; intro a ha
    refine hK46 _ _ ?_; clear hK46 K45
    refine wp_ret ?_
    repeat (first | (with_reducible refine t_ret ?_) | (with_reducible refine x_ret ?_))
    exact ret1 ha Tryd.results20 rfl ⟨_, rfl, hB, (Sl.castM (l := paA d p 256) (Sl.ofBlockM hb12 (by rw [paA_len]) (by omega)) rfl), (fun j hj => by cases hj; exact hz12)⟩

theorem c_pack0 (d : Int) (p : List Int) (w0 : World) (hx : ¬ (1 ≤ d ∧ d ≤ 12)) (hp : p.length = 256) :
    Calls Tryd.prog 20 #[ei d, .agg ((p).map ei).toArray] w0 fun e w' => ∃ u0 : Value, e = .returned (u0) ∧ Below w0.heap.size w0 w' ∧ Sl w' u0 ((([] : List UInt8)).map e8) ∧ (∀ j, u0.ownBlock = some j → w0.heap.size ≤ j) := by
  refine enter (args := [_, _]) Tryd.func20 rfl Tryd.ntmps20 rfl ?_
  intro a ha
  have hB := Below.refl w0.heap.size w0
  refine wp_seq_k fun K1 hK2 => ?_
  refine region ?_
  refine sbox ha rfl rfl ?_
  clear ha a; intro a w3 b4 ha hg hb4 hge4 hlt4
  have hz4 : w0.heap.size ≤ b4 := Nat.le_trans hB.size hge4
  replace hB := keepB0 hg hB
  clear hg hge4 hlt4
  refine sv ha (r_assign ha rfl) rfl rfl rfl ?_; clear ha a; intro a ha
  refine hK2 _ _ ?_; clear hK2 K1
  refine wp_seq_k fun K5 hK6 => ?_
  refine wp_seq_k fun K7 hK8 => ?_
  refine region ?_
  refine sv ha (r_move ha rfl) rfl rfl rfl ?_; clear ha a; intro a ha
  refine sv ha (r_lss ha d 1 (decide (d < 1)) rfl rfl (decide_eq_decide.2 (by omega))) rfl rfl rfl ?_; clear ha a; intro a ha
  refine sv ha (r_move ha rfl) rfl rfl rfl ?_; clear ha a; intro a ha
  cases hq9 : (decide (d < 1))
  all_goals rw [hq9] at ha
  case false =>
    replace hq9 := of_decide_eq_false hq9
    refine svg ha (r_move ha rfl) rfl rfl rfl rfl rfl ?_; clear ha a; intro a ha
    refine svg ha (r_gtr ha d 12 true rfl rfl (decide_eq_true (by omega))) rfl rfl rfl rfl rfl ?_; clear ha a; intro a ha
    refine sv ha (r_pick ha false rfl rfl) rfl rfl rfl ?_; clear ha a; intro a ha
    refine hK8 _ _ ?_; clear hK8 K7
    refine cond_t ha rfl ?_
    refine wp_seq_k fun K10 hK11 => ?_
    refine region ?_
    refine sv ha (r_assign ha rfl) rfl rfl rfl ?_; clear ha a; intro a ha
    refine hK11 _ _ ?_; clear hK11 K10
    refine wp_ret ?_
    repeat (first | (with_reducible refine t_ret ?_) | (with_reducible refine x_ret ?_))
    exact ret1 ha Tryd.results20 rfl ⟨_, rfl, hB, (Sl.castM (l := ([] : List UInt8)) (Sl.nil _) rfl), (fun j hj => (nil_own j hj).elim)⟩
  case true =>
    replace hq9 := of_decide_eq_true hq9
    refine sno ha rfl rfl rfl rfl rfl rfl ?_; clear ha a; intro a ha
    refine sno ha rfl rfl rfl rfl rfl rfl ?_; clear ha a; intro a ha
    refine sv ha (r_pick ha true rfl rfl) rfl rfl rfl ?_; clear ha a; intro a ha
    refine hK8 _ _ ?_; clear hK8 K7
    refine cond_t ha rfl ?_
    refine wp_seq_k fun K12 hK13 => ?_
    refine region ?_
    refine sv ha (r_assign ha rfl) rfl rfl rfl ?_; clear ha a; intro a ha
    refine hK13 _ _ ?_; clear hK13 K12
    refine wp_ret ?_
    repeat (first | (with_reducible refine t_ret ?_) | (with_reducible refine x_ret ?_))
    exact ret1 ha Tryd.results20 rfl ⟨_, rfl, hB, (Sl.castM (l := ([] : List UInt8)) (Sl.nil _) rfl), (fun j hj => (nil_own j hj).elim)⟩

theorem c_packZ (d : Int) (p : List Int) (w0 : World) (hp : p.length = 256) :
    Calls Tryd.prog 20 #[ei d, .agg ((p).map ei).toArray] w0 fun e w' => ∃ u0 : Value, e = .returned (u0) ∧ Below w0.heap.size w0 w' ∧ Sl w' u0 ((pack d p).map e8) ∧ (∀ j, u0.ownBlock = some j → w0.heap.size ≤ j) := by
  by_cases h : 1 ≤ d ∧ d ≤ 12
  · obtain ⟨n, rfl⟩ := Int.eq_ofNat_of_zero_le (show 0 ≤ d by omega)
    refine (c_pack1 n p w0 (by omega) hp).mono fun e w h' => ?_
    rw [pack, if_pos h]; exact h'
  · refine (c_pack0 d p w0 h hp).mono fun e w h' => ?_
    rw [pack, if_neg h]; exact h'

theorem c_squeeze (d : Int) (p : List Int) (w0 : World) (hp : p.length = 256) :
    Calls Tryd.prog 22 #[ei d, .agg ((p).map ei).toArray] w0 fun e w' => e = .returned (.agg ((sqA d p 256).map ei).toArray) ∧ Below w0.heap.size w0 w' := by
  refine enter (args := [_, _]) Tryd.func22 rfl Tryd.ntmps22 rfl ?_
  intro a ha
  have hB := Below.refl w0.heap.size w0
  refine wp_seq_k fun K1 hK2 => ?_
  refine region ?_
  refine sbox ha rfl rfl ?_
  clear ha a; intro a w3 b4 ha hg hb4 hge4 hlt4
  have hz4 : w0.heap.size ≤ b4 := Nat.le_trans hB.size hge4
  replace hB := keepB0 hg hB
  clear hg hge4 hlt4
  refine salloc ha zero_25S1 rfl ?_
  clear ha a; intro a w5 b6 ha hg hb6 hge6 hlt6
  have hz6 : w0.heap.size ≤ b6 := Nat.le_trans hB.size hge6
  have hq4_6 : b4 < b6 := Nat.lt_of_lt_of_le (lt_of_block hb4) hge6
  replace hB := keepB0 hg hB
  replace hb4 := keepO0 hg hb4
  clear hg hge6 hlt6
  refine hK2 _ _ ?_; clear hK2 K1
  refine wp_seq_k fun K7 hK8 => ?_
  refine wp_seq_k fun K9 hK10 => ?_
  refine region ?_
  refine sv ha (r_move ha rfl) rfl rfl rfl ?_; clear ha a; intro a ha
  refine hK10 _ _ ?_; clear hK10 K9
  refine wp_block ?_
  refine loopG (fun (i : Nat) a w => (i ≤ 256) ∧ Has 18 [(0, ei d), (1, .agg ((p).map ei).toArray), (3, .pointer (some ⟨b4, 0, none⟩)), (4, .pointer (some ⟨b6, 0, none⟩)), (6, en i)] a ∧ Below w0.heap.size w0 w ∧ w.heap[b4]? = some (.cells ((sqA d p i).map ei).toArray 25 (0, 0)) ∧ w.heap[b6]? = some (.cells ((List.replicate 256 (0 : Int)).map ei).toArray 25 (0, 0))) (fun i => 256 - i) 0 ⟨(by omega), ha.to [0, 1, 3, 4, 6] rfl, hB, hb4, hb6⟩ ?_
  clear ha a hB hb4 hb6
  intro i a w11 ⟨hki, ha, hB, hb4, hb6⟩
  refine wp_seq_k fun K12 hK13 => ?_
  refine region ?_
  refine sv ha (r_lss ha ((i : Nat) : Int) 256 (decide (i < 256)) rfl rfl (decide_eq_decide.2 (by omega))) rfl rfl rfl ?_; clear ha a; intro a ha
  refine hK13 _ _ ?_; clear hK13 K12
  refine wp_seq_k fun K14 hK15 => ?_
  refine cond_if ha rfl (fun hc16 => ?_) (fun hc16 => ?_)
  · skip
    replace hc16 := of_decide_eq_true hc16
    refine wp_skip ?_
    refine hK15 _ _ ?_; clear hK15 K14
    refine wp_seq_k fun K17 hK18 => ?_
    refine wp_block ?_
    refine wp_seq_k fun K19 hK20 => ?_
    refine region ?_
    refine sv ha (r_move ha rfl) rfl rfl rfl ?_; clear ha a; intro a ha
    refine sv ha (r_assign ha rfl) rfl rfl rfl ?_; clear ha a; intro a ha
    refine hK20 _ _ ?_; clear hK20 K19
    refine region ?_
    refine sv ha (r_move ha rfl) rfl rfl rfl ?_; clear ha a; intro a ha
    refine sv ha (r_move ha rfl) rfl rfl rfl ?_; clear ha a; intro a ha
    refine sv ha (r_move ha rfl) rfl rfl rfl ?_; clear ha a; intro a ha
    refine sv ha (r_indexArr (i := i) ha i Tryd.runUnderlying25 Tryd.sizeOf3 rfl rfl (by omega) (by omega)) rfl rfl rfl ?_; clear ha a; intro a ha
    refine sv ha (r_load ha rfl Tryd.isAgg3 (cell_of hb4 (get_map ei (sqA d p i) 0 i (by rw [sqA_len, hp]; omega)))) rfl rfl rfl ?_; clear ha a; intro a ha
    refine sc ha (r_call ha [ei d, ei ((sqA d p i).getD i 0)] rfl Tryd.call44) rfl rfl rfl (c_compZ d ((sqA d p i).getD i 0) _ ) ?_
    clear ha a
    rintro e w21 ⟨rfl, hBc⟩
    have hg := grown_call hBc; clear hBc
    replace hB := keepB0 hg hB
    replace hb4 := keepO0 hg hb4
    replace hb6 := keepO0 hg hb6
    clear hg
    refine ⟨_, rfl, ?_⟩; intro a ha
    refine sv ha (r_indexArr (i := i) ha i Tryd.runUnderlying25 Tryd.sizeOf3 rfl rfl (by omega) (by omega)) rfl rfl rfl ?_; clear ha a; intro a ha
    refine sstore ha (v := ei ((zcompZ d ((sqA d p i).getD i 0) : Nat) : Int)) rfl rfl rfl rfl Tryd.sizeOf3 hb4 (by rw [List.length_map, sqA_len, hp]; omega) ?_
    clear ha a; intro a w22 ha hg hb4'
    rw [set_map] at hb4'
    clear hb4; have hb4 := hb4'; clear hb4'
    replace hB := keepB1 hg (by omega) hB
    replace hb6 := keepO1 hg (by omega) hb6
    clear hg
    refine hK18 _ _ ?_; clear hK18 K17
    refine region ?_
    refine sv ha (rn_add ha i 1 rfl rfl (by omega)) rfl rfl rfl ?_; clear ha a; intro a ha
    refine sv ha (r_move ha rfl) rfl rfl rfl ?_; clear ha a; intro a ha
    exact ⟨i + 1, by omega, (by omega), ha.to [0, 1, 3, 4, 6] rfl, hB, hb4, hb6⟩
  · skip
    replace hc16 := of_decide_eq_false hc16
    refine wp_exit ?_
    obtain rfl : i = 256 := by omega
    refine hK8 _ _ ?_; clear hK15 K14 hK8 K7
    refine wp_seq_k fun K23 hK24 => ?_
    refine region ?_
    refine sv ha (r_loadR ha rfl Tryd.isAgg25 Tryd.sizeOf25 (C := (sqA d p 256).map ei) (by rw [List.length_map, sqA_len, hp]) (cells_all hb4)) rfl rfl rfl ?_; clear ha a; intro a ha
    refine sstoreW ha rfl rfl (one_ei _) Tryd.sizeOf25 (by rw [List.length_map, sqA_len, hp]) hb6 (by rw [List.length_map, List.length_replicate]) ?_
    clear ha a; intro a w25 ha hg hb6'
    clear hb6; have hb6 := hb6'; clear hb6'
    replace hB := keepB1 hg (by omega) hB
    replace hb4 := keepO1 hg (by omega) hb4
    clear hg
    refine hK24 _ _ ?_; clear hK24 K23
    refine wp_ret ?_
    repeat (first | (with_reducible refine t_ret ?_) | (with_reducible refine x_ret ?_))
    exact retC _ ha Tryd.results22 rfl hb6 Tryd.underlying25 rfl (by rw [List.length_map, sqA_len, hp]; kernel_rfl) ⟨rfl, hB⟩

theorem c_spread (d : Int) (p : List Int) (w0 : World) (hp : p.length = 256) :
    Calls Tryd.prog 24 #[ei d, .agg ((p).map ei).toArray] w0 fun e w' => e = .returned (.agg ((spA d p 256).map ei).toArray) ∧ Below w0.heap.size w0 w' := by
  refine enter (args := [_, _]) Tryd.func24 rfl Tryd.ntmps24 rfl ?_
  intro a ha
  have hB := Below.refl w0.heap.size w0
  refine wp_seq_k fun K1 hK2 => ?_
  refine region ?_
  refine sbox ha rfl rfl ?_
  clear ha a; intro a w3 b4 ha hg hb4 hge4 hlt4
  have hz4 : w0.heap.size ≤ b4 := Nat.le_trans hB.size hge4
  replace hB := keepB0 hg hB
  clear hg hge4 hlt4
  refine salloc ha zero_25S1 rfl ?_
  clear ha a; intro a w5 b6 ha hg hb6 hge6 hlt6
  have hz6 : w0.heap.size ≤ b6 := Nat.le_trans hB.size hge6
  have hq4_6 : b4 < b6 := Nat.lt_of_lt_of_le (lt_of_block hb4) hge6
  replace hB := keepB0 hg hB
  replace hb4 := keepO0 hg hb4
  clear hg hge6 hlt6
  refine hK2 _ _ ?_; clear hK2 K1
  refine wp_seq_k fun K7 hK8 => ?_
  refine wp_seq_k fun K9 hK10 => ?_
  refine region ?_
  refine sv ha (r_move ha rfl) rfl rfl rfl ?_; clear ha a; intro a ha
  refine hK10 _ _ ?_; clear hK10 K9
  refine wp_block ?_
  refine loopG (fun (i : Nat) a w => (i ≤ 256) ∧ Has 18 [(0, ei d), (1, .agg ((p).map ei).toArray), (3, .pointer (some ⟨b4, 0, none⟩)), (4, .pointer (some ⟨b6, 0, none⟩)), (6, en i)] a ∧ Below w0.heap.size w0 w ∧ w.heap[b4]? = some (.cells ((spA d p i).map ei).toArray 25 (0, 0)) ∧ w.heap[b6]? = some (.cells ((List.replicate 256 (0 : Int)).map ei).toArray 25 (0, 0))) (fun i => 256 - i) 0 ⟨(by omega), ha.to [0, 1, 3, 4, 6] rfl, hB, hb4, hb6⟩ ?_
  clear ha a hB hb4 hb6
  intro i a w11 ⟨hki, ha, hB, hb4, hb6⟩
  refine wp_seq_k fun K12 hK13 => ?_
  refine region ?_
  refine sv ha (r_lss ha ((i : Nat) : Int) 256 (decide (i < 256)) rfl rfl (decide_eq_decide.2 (by omega))) rfl rfl rfl ?_; clear ha a; intro a ha
  refine hK13 _ _ ?_; clear hK13 K12
  refine wp_seq_k fun K14 hK15 => ?_
  refine cond_if ha rfl (fun hc16 => ?_) (fun hc16 => ?_)
  · skip
    replace hc16 := of_decide_eq_true hc16
    refine wp_skip ?_
    refine hK15 _ _ ?_; clear hK15 K14
    refine wp_seq_k fun K17 hK18 => ?_
    refine wp_block ?_
    refine wp_seq_k fun K19 hK20 => ?_
    refine region ?_
    refine sv ha (r_move ha rfl) rfl rfl rfl ?_; clear ha a; intro a ha
    refine sv ha (r_assign ha rfl) rfl rfl rfl ?_; clear ha a; intro a ha
    refine hK20 _ _ ?_; clear hK20 K19
    refine region ?_
    refine sv ha (r_move ha rfl) rfl rfl rfl ?_; clear ha a; intro a ha
    refine sv ha (r_move ha rfl) rfl rfl rfl ?_; clear ha a; intro a ha
    refine sv ha (r_move ha rfl) rfl rfl rfl ?_; clear ha a; intro a ha
    refine sv ha (r_indexArr (i := i) ha i Tryd.runUnderlying25 Tryd.sizeOf3 rfl rfl (by omega) (by omega)) rfl rfl rfl ?_; clear ha a; intro a ha
    refine sv ha (r_load ha rfl Tryd.isAgg3 (cell_of hb4 (get_map ei (spA d p i) 0 i (by rw [spA_len, hp]; omega)))) rfl rfl rfl ?_; clear ha a; intro a ha
    refine sc ha (r_call ha [ei d, ei ((spA d p i).getD i 0)] rfl Tryd.call46) rfl rfl rfl (c_decZ d ((spA d p i).getD i 0) _ ) ?_
    clear ha a
    rintro e w21 ⟨rfl, hBc⟩
    have hg := grown_call hBc; clear hBc
    replace hB := keepB0 hg hB
    replace hb4 := keepO0 hg hb4
    replace hb6 := keepO0 hg hb6
    clear hg
    refine ⟨_, rfl, ?_⟩; intro a ha
    refine sv ha (r_indexArr (i := i) ha i Tryd.runUnderlying25 Tryd.sizeOf3 rfl rfl (by omega) (by omega)) rfl rfl rfl ?_; clear ha a; intro a ha
    refine sstore ha (v := ei ((zdecZ d ((spA d p i).getD i 0) : Nat) : Int)) rfl rfl rfl rfl Tryd.sizeOf3 hb4 (by rw [List.length_map, spA_len, hp]; omega) ?_
    clear ha a; intro a w22 ha hg hb4'
    rw [set_map] at hb4'
    clear hb4; have hb4 := hb4'; clear hb4'
    replace hB := keepB1 hg (by omega) hB
    replace hb6 := keepO1 hg (by omega) hb6
    clear hg
    refine hK18 _ _ ?_; clear hK18 K17
    refine region ?_
    refine sv ha (rn_add ha i 1 rfl rfl (by omega)) rfl rfl rfl ?_; clear ha a; intro a ha
    refine sv ha (r_move ha rfl) rfl rfl rfl ?_; clear ha a; intro a ha
    exact ⟨i + 1, by omega, (by omega), ha.to [0, 1, 3, 4, 6] rfl, hB, hb4, hb6⟩
  · skip
    replace hc16 := of_decide_eq_false hc16
    refine wp_exit ?_
    obtain rfl : i = 256 := by omega
    refine hK8 _ _ ?_; clear hK15 K14 hK8 K7
    refine wp_seq_k fun K23 hK24 => ?_
    refine region ?_
    refine sv ha (r_loadR ha rfl Tryd.isAgg25 Tryd.sizeOf25 (C := (spA d p 256).map ei) (by rw [List.length_map, spA_len, hp]) (cells_all hb4)) rfl rfl rfl ?_; clear ha a; intro a ha
    refine sstoreW ha rfl rfl (one_ei _) Tryd.sizeOf25 (by rw [List.length_map, spA_len, hp]) hb6 (by rw [List.length_map, List.length_replicate]) ?_
    clear ha a; intro a w25 ha hg hb6'
    clear hb6; have hb6 := hb6'; clear hb6'
    replace hB := keepB1 hg (by omega) hB
    replace hb4 := keepO1 hg (by omega) hb4
    clear hg
    refine hK24 _ _ ?_; clear hK24 K23
    refine wp_ret ?_
    repeat (first | (with_reducible refine t_ret ?_) | (with_reducible refine x_ret ?_))
    exact retC _ ha Tryd.results24 rfl hb6 Tryd.underlying25 rfl (by rw [List.length_map, spA_len, hp]; kernel_rfl) ⟨rfl, hB⟩
end Go.Proofs.YtaignhikdfpbbaaDoor
