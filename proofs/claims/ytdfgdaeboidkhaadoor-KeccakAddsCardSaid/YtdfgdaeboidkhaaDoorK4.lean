/- WALKS written by gen.py (own program) out of specs. -/
import Derived.Test.YtdfgdaeboidkhaaDoorK3
import Derived.Test.YtdfgdaeboidkhaaDoorPz
namespace Go.Proofs.YtdfgdaeboidkhaaDoor
open Go.RowKit Go.Rx
set_option maxRecDepth 100000
set_option maxHeartbeats 4000000
set_option linter.unusedVariables false

theorem c_iotaZ (l : List UInt64) (k : Int) (w0 : World) (hl : l.length = 25) (hG : Glob w0) :
    Calls Tryd.prog 23 #[.agg ((l).map e64).toArray, ei k] w0 fun e w' => e = .returned (.agg ((iotaZ l k).map e64).toArray) ∧ Below w0.heap.size w0 w' := by
  by_cases h : 0 ≤ k ∧ k < 24
  · obtain ⟨n, rfl⟩ := Int.eq_ofNat_of_zero_le h.1
    have h2 : n < 24 := by omega
    refine (c_iota l n w0 hl h2 hG).mono fun e w h' => ?_
    rw [iotaZ, if_pos h]; exact h'
  · refine (c_iotaN l k w0 hl (by omega) hG).mono fun e w h' => ?_
    rw [iotaZ, if_neg h]; exact h'

theorem c_roundZ (l : List UInt64) (k : Int) (w0 : World) (hl : l.length = 25) (hG : Glob w0) :
    Calls Tryd.prog 25 #[.agg ((l).map e64).toArray, ei k] w0 fun e w' => e = .returned (.agg ((kroundZ l k).map e64).toArray) ∧ Below w0.heap.size w0 w' := by
  by_cases h : 0 ≤ k ∧ k < 24
  · obtain ⟨n, rfl⟩ := Int.eq_ofNat_of_zero_le h.1
    have h2 : n < 24 := by omega
    refine (c_round l n w0 hl h2 hG).mono fun e w h' => ?_
    rw [kroundZ, if_pos h]; exact h'
  · refine (c_roundN l k w0 hl (by omega) hG).mono fun e w h' => ?_
    rw [kroundZ, if_neg h]; exact h'

theorem c_rIotaZ (v : Value) (l : List UInt64) (k : Int) (w0 : World) (hs : Sl w0 v (l.map e64)) (hl : l.length = 25) :
    Calls Tryd.prog 24 #[v, ei k] w0 fun e w' => ∃ b, e = .returned (.slice (some ⟨b, 0, none⟩) 25 25) ∧ Below w0.heap.size w0 w' ∧ w'.heap[b]? = some (.cells ((rIotaZ l k).map e64).toArray 22 (0, 0)) ∧ w0.heap.size ≤ b := by
  by_cases h : 0 ≤ k ∧ k < 24
  · obtain ⟨n, rfl⟩ := Int.eq_ofNat_of_zero_le h.1
    have h2 : n < 24 := by omega
    refine (c_rIota v l n w0 hs hl h2).mono fun e w h' => ?_
    rw [rIotaZ, if_pos h]; exact h'
  · refine (c_rIotaN v l k w0 hs hl (by omega)).mono fun e w h' => ?_
    rw [rIotaZ, if_neg h]; exact h'

theorem c_rRoundZ (v : Value) (l : List UInt64) (k : Int) (w0 : World) (hs : Sl w0 v (l.map e64)) (hl : l.length = 25) :
    Calls Tryd.prog 26 #[v, ei k] w0 fun e w' => ∃ u, e = .returned u ∧ Below w0.heap.size w0 w' ∧ Sl w' u ((rroundZ l k).map e64) := by
  by_cases h : 0 ≤ k ∧ k < 24
  · obtain ⟨n, rfl⟩ := Int.eq_ofNat_of_zero_le h.1
    have h2 : n < 24 := by omega
    refine (c_rRound v l n w0 hs hl h2).mono fun e w h' => ?_
    obtain ⟨b, h1, h3, h4, h5⟩ := h'; exact ⟨_, h1, h3, by rw [rroundZ, if_pos h]; exact Sl.ofBlockM h4 (by rw [rround_len]) (Nat.le_refl _)⟩
  · refine (c_rRoundN v l k w0 hs hl (by omega)).mono fun e w h' => ?_
    exact ⟨_, h'.1, h'.2, by rw [rroundZ, if_neg h]; exact hs.below h'.2⟩

theorem zero_23K4 : ∀ w, (zeroValue 23).run Tryd.prog w = .ok (.agg ((List.replicate 25 (0 : UInt64)).map e64).toArray) w := fun _ => by kernel_rfl
theorem c_awake  (w0 : World) (hG : Glob w0) :
    Calls Tryd.prog 13 #[] w0 fun e w' => e = .returned (.bool true) ∧ Below w0.heap.size w0 w' := by
  refine enter (args := []) Tryd.func13 rfl Tryd.ntmps13 rfl ?_
  intro a ha
  have hB := Below.refl w0.heap.size w0
  refine wp_seq_k fun K1 hK2 => ?_
  refine region ?_
  refine sv ha (r_assign ha rfl) rfl rfl rfl ?_; clear ha a; intro a ha
  refine hK2 _ _ ?_; clear hK2 K1
  refine wp_seq_k fun K3 hK4 => ?_
  refine region ?_
  refine salloc ha zero_23K4 rfl ?_
  clear ha a; intro a w5 b6 ha hg hb6 hge6 hlt6
  have hz6 : w0.heap.size ≤ b6 := Nat.le_trans hB.size hge6
  replace hB := keepB0 hg hB
  clear hg hge6 hlt6
  refine hK4 _ _ ?_; clear hK4 K3
  refine wp_seq_k fun K7 hK8 => ?_
  refine region ?_
  refine sv ha (r_loadR ha rfl Tryd.isAgg23 Tryd.sizeOf23 (C := (List.replicate 25 (0 : UInt64)).map e64) (by rw [List.length_map, List.length_replicate]) (cells_all hb6)) rfl rfl rfl ?_; clear ha a; intro a ha
  refine sc ha (r_call ha [.agg (((List.replicate 25 (0 : UInt64))).map e64).toArray] rfl Tryd.call27) rfl rfl rfl (c_kf (List.replicate 25 (0 : UInt64)) _ (by rw [List.length_replicate]) (glob_keep hG hB)) ?_
  clear ha a
  rintro e w9 ⟨rfl, hBc⟩
  have hg := grown_call hBc; clear hBc
  replace hB := keepB0 hg hB
  replace hb6 := keepO0 hg hb6
  clear hg
  refine ⟨_, rfl, ?_⟩; intro a ha
  refine salloc ha zero_23K4 rfl ?_
  clear ha a; intro a w10 b11 ha hg hb11 hge11 hlt11
  have hz11 : w0.heap.size ≤ b11 := Nat.le_trans hB.size hge11
  have hq6_11 : b6 < b11 := Nat.lt_of_lt_of_le (lt_of_block hb6) hge11
  replace hB := keepB0 hg hB
  replace hb6 := keepO0 hg hb6
  clear hg hge11 hlt11
  refine sstoreW ha rfl rfl (one_e64 _) Tryd.sizeOf23 (by rw [List.length_map, kf_len _ (by rw [List.length_replicate])]) hb11 (by rw [List.length_map, List.length_replicate]) ?_
  clear ha a; intro a w12 ha hg hb11'
  clear hb11; have hb11 := hb11'; clear hb11'
  replace hB := keepB1 hg (by omega) hB
  replace hb6 := keepO1 hg (by omega) hb6
  clear hg
  refine hK8 _ _ ?_; clear hK8 K7
  refine wp_seq_k fun K13 hK14 => ?_
  refine region ?_
  refine sv ha (r_loadR ha rfl Tryd.isAgg23 Tryd.sizeOf23 (C := (List.replicate 25 (0 : UInt64)).map e64) (by rw [List.length_map, List.length_replicate]) (cells_all hb6)) rfl rfl rfl ?_; clear ha a; intro a ha
  refine sc ha (r_call ha [.agg (((List.replicate 25 (0 : UInt64))).map e64).toArray, en 1] rfl Tryd.call23) rfl rfl rfl (c_iota (List.replicate 25 (0 : UInt64)) 1 _ (by rw [List.length_replicate]) (by decide) (glob_keep hG hB)) ?_
  clear ha a
  rintro e w15 ⟨rfl, hBc⟩
  have hg := grown_call hBc; clear hBc
  replace hB := keepB0 hg hB
  replace hb6 := keepO0 hg hb6
  replace hb11 := keepO0 hg hb11
  clear hg
  refine ⟨_, rfl, ?_⟩; intro a ha
  refine salloc ha zero_23K4 rfl ?_
  clear ha a; intro a w16 b17 ha hg hb17 hge17 hlt17
  have hz17 : w0.heap.size ≤ b17 := Nat.le_trans hB.size hge17
  have hq6_17 : b6 < b17 := Nat.lt_of_lt_of_le (lt_of_block hb6) hge17
  have hq11_17 : b11 < b17 := Nat.lt_of_lt_of_le (lt_of_block hb11) hge17
  replace hB := keepB0 hg hB
  replace hb6 := keepO0 hg hb6
  replace hb11 := keepO0 hg hb11
  clear hg hge17 hlt17
  refine sstoreW ha rfl rfl (one_e64 _) Tryd.sizeOf23 (by rw [List.length_map, iota_len, List.length_replicate]) hb17 (by rw [List.length_map, List.length_replicate]) ?_
  clear ha a; intro a w18 ha hg hb17'
  clear hb17; have hb17 := hb17'; clear hb17'
  replace hB := keepB1 hg (by omega) hB
  replace hb6 := keepO1 hg (by omega) hb6
  replace hb11 := keepO1 hg (by omega) hb11
  clear hg
  refine hK14 _ _ ?_; clear hK14 K13
  refine wp_seq_k fun K19 hK20 => ?_
  refine region ?_
  refine sv ha (r_build (Z := (List.replicate 25 (0 : UInt64)).map e64) (C := (([(0), (0), (5), 0, 0, 0, 0, 0, 0, 0, 0, 0, 0, 0, 0, 0, 0, 0, 0, 0, 0, 0, 0, 0, 0] : List UInt64)).map e64) ha _ [(0, .int .u64 0), (1, .int .u64 0), (2, .int .u64 5)] rfl zero_23K4 Tryd.runUnderlying23 Tryd.sizeOf22 rfl) rfl rfl rfl ?_; clear ha a; intro a ha
  refine sc ha (r_call ha [.agg ((([(0), (0), (5), 0, 0, 0, 0, 0, 0, 0, 0, 0, 0, 0, 0, 0, 0, 0, 0, 0, 0, 0, 0, 0, 0] : List UInt64)).map e64).toArray] rfl Tryd.call21) rfl rfl rfl (c_chi ([(0), (0), (5), 0, 0, 0, 0, 0, 0, 0, 0, 0, 0, 0, 0, 0, 0, 0, 0, 0, 0, 0, 0, 0, 0] : List UInt64) _ (by rw [show List.length ([(0), (0), (5), 0, 0, 0, 0, 0, 0, 0, 0, 0, 0, 0, 0, 0, 0, 0, 0, 0, 0, 0, 0, 0, 0] : List UInt64) = 25 from rfl])) ?_
  clear ha a
  rintro e w21 ⟨rfl, hBc⟩
  have hg := grown_call hBc; clear hBc
  replace hB := keepB0 hg hB
  replace hb6 := keepO0 hg hb6
  replace hb11 := keepO0 hg hb11
  replace hb17 := keepO0 hg hb17
  clear hg
  refine ⟨_, rfl, ?_⟩; intro a ha
  refine salloc ha zero_23K4 rfl ?_
  clear ha a; intro a w22 b23 ha hg hb23 hge23 hlt23
  have hz23 : w0.heap.size ≤ b23 := Nat.le_trans hB.size hge23
  have hq6_23 : b6 < b23 := Nat.lt_of_lt_of_le (lt_of_block hb6) hge23
  have hq11_23 : b11 < b23 := Nat.lt_of_lt_of_le (lt_of_block hb11) hge23
  have hq17_23 : b17 < b23 := Nat.lt_of_lt_of_le (lt_of_block hb17) hge23
  replace hB := keepB0 hg hB
  replace hb6 := keepO0 hg hb6
  replace hb11 := keepO0 hg hb11
  replace hb17 := keepO0 hg hb17
  clear hg hge23 hlt23
  refine sstoreW ha rfl rfl (one_e64 _) Tryd.sizeOf23 (by rw [List.length_map, chi_len, show List.length ([(0), (0), (5), 0, 0, 0, 0, 0, 0, 0, 0, 0, 0, 0, 0, 0, 0, 0, 0, 0, 0, 0, 0, 0, 0] : List UInt64) = 25 from rfl]) hb23 (by rw [List.length_map, List.length_replicate]) ?_
  clear ha a; intro a w24 ha hg hb23'
  clear hb23; have hb23 := hb23'; clear hb23'
  replace hB := keepB1 hg (by omega) hB
  replace hb6 := keepO1 hg (by omega) hb6
  replace hb11 := keepO1 hg (by omega) hb11
  replace hb17 := keepO1 hg (by omega) hb17
  clear hg
  refine hK20 _ _ ?_; clear hK20 K19
  refine wp_seq_k fun K25 hK26 => ?_
  refine region ?_
  refine sv ha (r_build (Z := (List.replicate 25 (0 : UInt64)).map e64) (C := (([(0), (1), 0, 0, 0, 0, 0, 0, 0, 0, 0, 0, 0, 0, 0, 0, 0, 0, 0, 0, 0, 0, 0, 0, 0] : List UInt64)).map e64) ha _ [(0, .int .u64 0), (1, .int .u64 1)] rfl zero_23K4 Tryd.runUnderlying23 Tryd.sizeOf22 rfl) rfl rfl rfl ?_; clear ha a; intro a ha
  refine sc ha (r_call ha [.agg ((([(0), (1), 0, 0, 0, 0, 0, 0, 0, 0, 0, 0, 0, 0, 0, 0, 0, 0, 0, 0, 0, 0, 0, 0, 0] : List UInt64)).map e64).toArray] rfl Tryd.call17) rfl rfl rfl (c_rho ([(0), (1), 0, 0, 0, 0, 0, 0, 0, 0, 0, 0, 0, 0, 0, 0, 0, 0, 0, 0, 0, 0, 0, 0, 0] : List UInt64) _ (by rw [show List.length ([(0), (1), 0, 0, 0, 0, 0, 0, 0, 0, 0, 0, 0, 0, 0, 0, 0, 0, 0, 0, 0, 0, 0, 0, 0] : List UInt64) = 25 from rfl]) (glob_keep hG hB)) ?_
  clear ha a
  rintro e w27 ⟨rfl, hBc⟩
  have hg := grown_call hBc; clear hBc
  replace hB := keepB0 hg hB
  replace hb6 := keepO0 hg hb6
  replace hb11 := keepO0 hg hb11
  replace hb17 := keepO0 hg hb17
  replace hb23 := keepO0 hg hb23
  clear hg
  refine ⟨_, rfl, ?_⟩; intro a ha
  refine salloc ha zero_23K4 rfl ?_
  clear ha a; intro a w28 b29 ha hg hb29 hge29 hlt29
  have hz29 : w0.heap.size ≤ b29 := Nat.le_trans hB.size hge29
  have hq6_29 : b6 < b29 := Nat.lt_of_lt_of_le (lt_of_block hb6) hge29
  have hq11_29 : b11 < b29 := Nat.lt_of_lt_of_le (lt_of_block hb11) hge29
  have hq17_29 : b17 < b29 := Nat.lt_of_lt_of_le (lt_of_block hb17) hge29
  have hq23_29 : b23 < b29 := Nat.lt_of_lt_of_le (lt_of_block hb23) hge29
  replace hB := keepB0 hg hB
  replace hb6 := keepO0 hg hb6
  replace hb11 := keepO0 hg hb11
  replace hb17 := keepO0 hg hb17
  replace hb23 := keepO0 hg hb23
  clear hg hge29 hlt29
  refine sstoreW ha rfl rfl (one_e64 _) Tryd.sizeOf23 (by rw [List.length_map, rho_len, show List.length ([(0), (1), 0, 0, 0, 0, 0, 0, 0, 0, 0, 0, 0, 0, 0, 0, 0, 0, 0, 0, 0, 0, 0, 0, 0] : List UInt64) = 25 from rfl]) hb29 (by rw [List.length_map, List.length_replicate]) ?_
  clear ha a; intro a w30 ha hg hb29'
  clear hb29; have hb29 := hb29'; clear hb29'
  replace hB := keepB1 hg (by omega) hB
  replace hb6 := keepO1 hg (by omega) hb6
  replace hb11 := keepO1 hg (by omega) hb11
  replace hb17 := keepO1 hg (by omega) hb17
  replace hb23 := keepO1 hg (by omega) hb23
  clear hg
  refine hK26 _ _ ?_; clear hK26 K25
  refine wp_seq_k fun K31 hK32 => ?_
  refine region ?_
  refine sv ha (r_build (Z := (List.replicate 25 (0 : UInt64)).map e64) (C := (([(0), (0), (0), (0), (0), (0), (1), 0, 0, 0, 0, 0, 0, 0, 0, 0, 0, 0, 0, 0, 0, 0, 0, 0, 0] : List UInt64)).map e64) ha _ [(0, .int .u64 0), (1, .int .u64 0), (2, .int .u64 0), (3, .int .u64 0), (4, .int .u64 0), (5, .int .u64 0), (6, .int .u64 1)] rfl zero_23K4 Tryd.runUnderlying23 Tryd.sizeOf22 rfl) rfl rfl rfl ?_; clear ha a; intro a ha
  refine sc ha (r_call ha [.agg ((([(0), (0), (0), (0), (0), (0), (1), 0, 0, 0, 0, 0, 0, 0, 0, 0, 0, 0, 0, 0, 0, 0, 0, 0, 0] : List UInt64)).map e64).toArray] rfl Tryd.call19) rfl rfl rfl (c_pi ([(0), (0), (0), (0), (0), (0), (1), 0, 0, 0, 0, 0, 0, 0, 0, 0, 0, 0, 0, 0, 0, 0, 0, 0, 0] : List UInt64) _ (by rw [show List.length ([(0), (0), (0), (0), (0), (0), (1), 0, 0, 0, 0, 0, 0, 0, 0, 0, 0, 0, 0, 0, 0, 0, 0, 0, 0] : List UInt64) = 25 from rfl])) ?_
  clear ha a
  rintro e w33 ⟨rfl, hBc⟩
  have hg := grown_call hBc; clear hBc
  replace hB := keepB0 hg hB
  replace hb6 := keepO0 hg hb6
  replace hb11 := keepO0 hg hb11
  replace hb17 := keepO0 hg hb17
  replace hb23 := keepO0 hg hb23
  replace hb29 := keepO0 hg hb29
  clear hg
  refine ⟨_, rfl, ?_⟩; intro a ha
  refine salloc ha zero_23K4 rfl ?_
  clear ha a; intro a w34 b35 ha hg hb35 hge35 hlt35
  have hz35 : w0.heap.size ≤ b35 := Nat.le_trans hB.size hge35
  have hq6_35 : b6 < b35 := Nat.lt_of_lt_of_le (lt_of_block hb6) hge35
  have hq11_35 : b11 < b35 := Nat.lt_of_lt_of_le (lt_of_block hb11) hge35
  have hq17_35 : b17 < b35 := Nat.lt_of_lt_of_le (lt_of_block hb17) hge35
  have hq23_35 : b23 < b35 := Nat.lt_of_lt_of_le (lt_of_block hb23) hge35
  have hq29_35 : b29 < b35 := Nat.lt_of_lt_of_le (lt_of_block hb29) hge35
  replace hB := keepB0 hg hB
  replace hb6 := keepO0 hg hb6
  replace hb11 := keepO0 hg hb11
  replace hb17 := keepO0 hg hb17
  replace hb23 := keepO0 hg hb23
  replace hb29 := keepO0 hg hb29
  clear hg hge35 hlt35
  refine sstoreW ha rfl rfl (one_e64 _) Tryd.sizeOf23 (by rw [List.length_map, pi_len]) hb35 (by rw [List.length_map, List.length_replicate]) ?_
  clear ha a; intro a w36 ha hg hb35'
  clear hb35; have hb35 := hb35'; clear hb35'
  replace hB := keepB1 hg (by omega) hB
  replace hb6 := keepO1 hg (by omega) hb6
  replace hb11 := keepO1 hg (by omega) hb11
  replace hb17 := keepO1 hg (by omega) hb17
  replace hb23 := keepO1 hg (by omega) hb23
  replace hb29 := keepO1 hg (by omega) hb29
  clear hg
  refine hK32 _ _ ?_; clear hK32 K31
  refine wp_seq_k fun K37 hK38 => ?_
  refine region ?_
  refine sv ha (r_build (Z := (List.replicate 25 (0 : UInt64)).map e64) (C := (([(1), 0, 0, 0, 0, 0, 0, 0, 0, 0, 0, 0, 0, 0, 0, 0, 0, 0, 0, 0, 0, 0, 0, 0, 0] : List UInt64)).map e64) ha _ [(0, .int .u64 1)] rfl zero_23K4 Tryd.runUnderlying23 Tryd.sizeOf22 rfl) rfl rfl rfl ?_; clear ha a; intro a ha
  refine sc ha (r_call ha [.agg ((([(1), 0, 0, 0, 0, 0, 0, 0, 0, 0, 0, 0, 0, 0, 0, 0, 0, 0, 0, 0, 0, 0, 0, 0, 0] : List UInt64)).map e64).toArray] rfl Tryd.call15) rfl rfl rfl (c_theta ([(1), 0, 0, 0, 0, 0, 0, 0, 0, 0, 0, 0, 0, 0, 0, 0, 0, 0, 0, 0, 0, 0, 0, 0, 0] : List UInt64) _ (by rw [show List.length ([(1), 0, 0, 0, 0, 0, 0, 0, 0, 0, 0, 0, 0, 0, 0, 0, 0, 0, 0, 0, 0, 0, 0, 0, 0] : List UInt64) = 25 from rfl])) ?_
  clear ha a
  rintro e w39 ⟨rfl, hBc⟩
  have hg := grown_call hBc; clear hBc
  replace hB := keepB0 hg hB
  replace hb6 := keepO0 hg hb6
  replace hb11 := keepO0 hg hb11
  replace hb17 := keepO0 hg hb17
  replace hb23 := keepO0 hg hb23
  replace hb29 := keepO0 hg hb29
  replace hb35 := keepO0 hg hb35
  clear hg
  refine ⟨_, rfl, ?_⟩; intro a ha
  refine salloc ha zero_23K4 rfl ?_
  clear ha a; intro a w40 b41 ha hg hb41 hge41 hlt41
  have hz41 : w0.heap.size ≤ b41 := Nat.le_trans hB.size hge41
  have hq6_41 : b6 < b41 := Nat.lt_of_lt_of_le (lt_of_block hb6) hge41
  have hq11_41 : b11 < b41 := Nat.lt_of_lt_of_le (lt_of_block hb11) hge41
  have hq17_41 : b17 < b41 := Nat.lt_of_lt_of_le (lt_of_block hb17) hge41
  have hq23_41 : b23 < b41 := Nat.lt_of_lt_of_le (lt_of_block hb23) hge41
  have hq29_41 : b29 < b41 := Nat.lt_of_lt_of_le (lt_of_block hb29) hge41
  have hq35_41 : b35 < b41 := Nat.lt_of_lt_of_le (lt_of_block hb35) hge41
  replace hB := keepB0 hg hB
  replace hb6 := keepO0 hg hb6
  replace hb11 := keepO0 hg hb11
  replace hb17 := keepO0 hg hb17
  replace hb23 := keepO0 hg hb23
  replace hb29 := keepO0 hg hb29
  replace hb35 := keepO0 hg hb35
  clear hg hge41 hlt41
  refine sstoreW ha rfl rfl (one_e64 _) Tryd.sizeOf23 (by rw [List.length_map, theta_len, show List.length ([(1), 0, 0, 0, 0, 0, 0, 0, 0, 0, 0, 0, 0, 0, 0, 0, 0, 0, 0, 0, 0, 0, 0, 0, 0] : List UInt64) = 25 from rfl]) hb41 (by rw [List.length_map, List.length_replicate]) ?_
  clear ha a; intro a w42 ha hg hb41'
  clear hb41; have hb41 := hb41'; clear hb41'
  replace hB := keepB1 hg (by omega) hB
  replace hb6 := keepO1 hg (by omega) hb6
  replace hb11 := keepO1 hg (by omega) hb11
  replace hb17 := keepO1 hg (by omega) hb17
  replace hb23 := keepO1 hg (by omega) hb23
  replace hb29 := keepO1 hg (by omega) hb29
  replace hb35 := keepO1 hg (by omega) hb35
  clear hg
  refine hK38 _ _ ?_; clear hK38 K37
  refine wp_seq_k fun K43 hK44 => ?_
  refine region ?_
  refine sv ha (r_loadR ha rfl Tryd.isAgg23 Tryd.sizeOf23 (C := (List.replicate 25 (0 : UInt64)).map e64) (by rw [List.length_map, List.length_replicate]) (cells_all hb6)) rfl rfl rfl ?_; clear ha a; intro a ha
  refine sc ha (r_call ha [.agg (((List.replicate 25 (0 : UInt64))).map e64).toArray, en 0] rfl Tryd.call25) rfl rfl rfl (c_round (List.replicate 25 (0 : UInt64)) 0 _ (by rw [List.length_replicate]) (by decide) (glob_keep hG hB)) ?_
  clear ha a
  rintro e w45 ⟨rfl, hBc⟩
  have hg := grown_call hBc; clear hBc
  replace hB := keepB0 hg hB
  replace hb6 := keepO0 hg hb6
  replace hb11 := keepO0 hg hb11
  replace hb17 := keepO0 hg hb17
  replace hb23 := keepO0 hg hb23
  replace hb29 := keepO0 hg hb29
  replace hb35 := keepO0 hg hb35
  replace hb41 := keepO0 hg hb41
  clear hg
  refine ⟨_, rfl, ?_⟩; intro a ha
  refine salloc ha zero_23K4 rfl ?_
  clear ha a; intro a w46 b47 ha hg hb47 hge47 hlt47
  have hz47 : w0.heap.size ≤ b47 := Nat.le_trans hB.size hge47
  have hq6_47 : b6 < b47 := Nat.lt_of_lt_of_le (lt_of_block hb6) hge47
  have hq11_47 : b11 < b47 := Nat.lt_of_lt_of_le (lt_of_block hb11) hge47
  have hq17_47 : b17 < b47 := Nat.lt_of_lt_of_le (lt_of_block hb17) hge47
  have hq23_47 : b23 < b47 := Nat.lt_of_lt_of_le (lt_of_block hb23) hge47
  have hq29_47 : b29 < b47 := Nat.lt_of_lt_of_le (lt_of_block hb29) hge47
  have hq35_47 : b35 < b47 := Nat.lt_of_lt_of_le (lt_of_block hb35) hge47
  have hq41_47 : b41 < b47 := Nat.lt_of_lt_of_le (lt_of_block hb41) hge47
  replace hB := keepB0 hg hB
  replace hb6 := keepO0 hg hb6
  replace hb11 := keepO0 hg hb11
  replace hb17 := keepO0 hg hb17
  replace hb23 := keepO0 hg hb23
  replace hb29 := keepO0 hg hb29
  replace hb35 := keepO0 hg hb35
  replace hb41 := keepO0 hg hb41
  clear hg hge47 hlt47
  refine sstoreW ha rfl rfl (one_e64 _) Tryd.sizeOf23 (by rw [List.length_map, kround_len]) hb47 (by rw [List.length_map, List.length_replicate]) ?_
  clear ha a; intro a w48 ha hg hb47'
  clear hb47; have hb47 := hb47'; clear hb47'
  replace hB := keepB1 hg (by omega) hB
  replace hb6 := keepO1 hg (by omega) hb6
  replace hb11 := keepO1 hg (by omega) hb11
  replace hb17 := keepO1 hg (by omega) hb17
  replace hb23 := keepO1 hg (by omega) hb23
  replace hb29 := keepO1 hg (by omega) hb29
  replace hb35 := keepO1 hg (by omega) hb35
  replace hb41 := keepO1 hg (by omega) hb41
  clear hg
  refine hK44 _ _ ?_; clear hK44 K43
  refine wp_seq_k fun K49 hK50 => ?_
  refine region ?_
  refine sv ha (r_indexArr (i := 0) ha 0 Tryd.runUnderlying23 Tryd.sizeOf22 rfl rfl (by omega) (by omega)) rfl rfl rfl ?_; clear ha a; intro a ha
  refine sv ha (r_load ha rfl Tryd.isAgg22 (cell_of hb11 (get_map e64 (kf (List.replicate 25 (0 : UInt64))) 0 0 (by rw [kf_len _ (by rw [List.length_replicate])]; omega)))) rfl rfl rfl ?_; clear ha a; intro a ha
  refine sv ha (r_eql ha (((kf (List.replicate 25 (0 : UInt64))).getD 0 0).toNat : Int) 17376452488221285863 true rfl rfl (by kernel_rfl)) rfl rfl rfl ?_; clear ha a; intro a ha
  refine sv ha (r_move ha rfl) rfl rfl rfl ?_; clear ha a; intro a ha
  refine svg ha (r_indexArr (i := 0) ha 0 Tryd.runUnderlying23 Tryd.sizeOf22 rfl rfl (by omega) (by omega)) rfl rfl rfl rfl rfl ?_; clear ha a; intro a ha
  refine svg ha (r_load ha rfl Tryd.isAgg22 (cell_of hb17 (get_map e64 (iota (List.replicate 25 (0 : UInt64)) 1) 0 0 (by rw [iota_len, List.length_replicate]; omega)))) rfl rfl rfl rfl rfl ?_; clear ha a; intro a ha
  refine svg ha (r_eql ha (((iota (List.replicate 25 (0 : UInt64)) 1).getD 0 0).toNat : Int) 32898 true rfl rfl (by kernel_rfl)) rfl rfl rfl rfl rfl ?_; clear ha a; intro a ha
  refine sv ha (r_pick ha true rfl rfl) rfl rfl rfl ?_; clear ha a; intro a ha
  refine sv ha (r_move ha rfl) rfl rfl rfl ?_; clear ha a; intro a ha
  refine svg ha (r_indexArr (i := 0) ha 0 Tryd.runUnderlying23 Tryd.sizeOf22 rfl rfl (by omega) (by omega)) rfl rfl rfl rfl rfl ?_; clear ha a; intro a ha
  refine svg ha (r_load ha rfl Tryd.isAgg22 (cell_of hb23 (get_map e64 (chi ([(0), (0), (5), 0, 0, 0, 0, 0, 0, 0, 0, 0, 0, 0, 0, 0, 0, 0, 0, 0, 0, 0, 0, 0, 0] : List UInt64)) 0 0 (by rw [chi_len, show List.length ([(0), (0), (5), 0, 0, 0, 0, 0, 0, 0, 0, 0, 0, 0, 0, 0, 0, 0, 0, 0, 0, 0, 0, 0, 0] : List UInt64) = 25 from rfl]; omega)))) rfl rfl rfl rfl rfl ?_; clear ha a; intro a ha
  refine svg ha (r_eql ha (((chi ([(0), (0), (5), 0, 0, 0, 0, 0, 0, 0, 0, 0, 0, 0, 0, 0, 0, 0, 0, 0, 0, 0, 0, 0, 0] : List UInt64)).getD 0 0).toNat : Int) 5 true rfl rfl (by kernel_rfl)) rfl rfl rfl rfl rfl ?_; clear ha a; intro a ha
  refine sv ha (r_pick ha true rfl rfl) rfl rfl rfl ?_; clear ha a; intro a ha
  refine sv ha (r_move ha rfl) rfl rfl rfl ?_; clear ha a; intro a ha
  refine svg ha (r_indexArr (i := 1) ha 1 Tryd.runUnderlying23 Tryd.sizeOf22 rfl rfl (by omega) (by omega)) rfl rfl rfl rfl rfl ?_; clear ha a; intro a ha
  refine svg ha (r_load ha rfl Tryd.isAgg22 (cell_of hb29 (get_map e64 (rho ([(0), (1), 0, 0, 0, 0, 0, 0, 0, 0, 0, 0, 0, 0, 0, 0, 0, 0, 0, 0, 0, 0, 0, 0, 0] : List UInt64)) 0 1 (by rw [rho_len, show List.length ([(0), (1), 0, 0, 0, 0, 0, 0, 0, 0, 0, 0, 0, 0, 0, 0, 0, 0, 0, 0, 0, 0, 0, 0, 0] : List UInt64) = 25 from rfl]; omega)))) rfl rfl rfl rfl rfl ?_; clear ha a; intro a ha
  refine svg ha (r_eql ha (((rho ([(0), (1), 0, 0, 0, 0, 0, 0, 0, 0, 0, 0, 0, 0, 0, 0, 0, 0, 0, 0, 0, 0, 0, 0, 0] : List UInt64)).getD 1 0).toNat : Int) 2 true rfl rfl (by kernel_rfl)) rfl rfl rfl rfl rfl ?_; clear ha a; intro a ha
  refine sv ha (r_pick ha true rfl rfl) rfl rfl rfl ?_; clear ha a; intro a ha
  refine sv ha (r_move ha rfl) rfl rfl rfl ?_; clear ha a; intro a ha
  refine svg ha (r_indexArr (i := 1) ha 1 Tryd.runUnderlying23 Tryd.sizeOf22 rfl rfl (by omega) (by omega)) rfl rfl rfl rfl rfl ?_; clear ha a; intro a ha
  refine svg ha (r_load ha rfl Tryd.isAgg22 (cell_of hb35 (get_map e64 (pi ([(0), (0), (0), (0), (0), (0), (1), 0, 0, 0, 0, 0, 0, 0, 0, 0, 0, 0, 0, 0, 0, 0, 0, 0, 0] : List UInt64)) 0 1 (by rw [pi_len]; omega)))) rfl rfl rfl rfl rfl ?_; clear ha a; intro a ha
  refine svg ha (r_eql ha (((pi ([(0), (0), (0), (0), (0), (0), (1), 0, 0, 0, 0, 0, 0, 0, 0, 0, 0, 0, 0, 0, 0, 0, 0, 0, 0] : List UInt64)).getD 1 0).toNat : Int) 1 true rfl rfl (by kernel_rfl)) rfl rfl rfl rfl rfl ?_; clear ha a; intro a ha
  refine sv ha (r_pick ha true rfl rfl) rfl rfl rfl ?_; clear ha a; intro a ha
  refine sv ha (r_move ha rfl) rfl rfl rfl ?_; clear ha a; intro a ha
  refine svg ha (r_indexArr (i := 1) ha 1 Tryd.runUnderlying23 Tryd.sizeOf22 rfl rfl (by omega) (by omega)) rfl rfl rfl rfl rfl ?_; clear ha a; intro a ha
  refine svg ha (r_load ha rfl Tryd.isAgg22 (cell_of hb41 (get_map e64 (theta ([(1), 0, 0, 0, 0, 0, 0, 0, 0, 0, 0, 0, 0, 0, 0, 0, 0, 0, 0, 0, 0, 0, 0, 0, 0] : List UInt64)) 0 1 (by rw [theta_len, show List.length ([(1), 0, 0, 0, 0, 0, 0, 0, 0, 0, 0, 0, 0, 0, 0, 0, 0, 0, 0, 0, 0, 0, 0, 0, 0] : List UInt64) = 25 from rfl]; omega)))) rfl rfl rfl rfl rfl ?_; clear ha a; intro a ha
  refine svg ha (r_eql ha (((theta ([(1), 0, 0, 0, 0, 0, 0, 0, 0, 0, 0, 0, 0, 0, 0, 0, 0, 0, 0, 0, 0, 0, 0, 0, 0] : List UInt64)).getD 1 0).toNat : Int) 1 true rfl rfl (by kernel_rfl)) rfl rfl rfl rfl rfl ?_; clear ha a; intro a ha
  refine sv ha (r_pick ha true rfl rfl) rfl rfl rfl ?_; clear ha a; intro a ha
  refine sv ha (r_move ha rfl) rfl rfl rfl ?_; clear ha a; intro a ha
  refine svg ha (r_indexArr (i := 0) ha 0 Tryd.runUnderlying23 Tryd.sizeOf22 rfl rfl (by omega) (by omega)) rfl rfl rfl rfl rfl ?_; clear ha a; intro a ha
  refine svg ha (r_load ha rfl Tryd.isAgg22 (cell_of hb47 (get_map e64 (kround (List.replicate 25 (0 : UInt64)) 0) 0 0 (by rw [kround_len]; omega)))) rfl rfl rfl rfl rfl ?_; clear ha a; intro a ha
  refine svg ha (r_eql ha (((kround (List.replicate 25 (0 : UInt64)) 0).getD 0 0).toNat : Int) 1 true rfl rfl (by kernel_rfl)) rfl rfl rfl rfl rfl ?_; clear ha a; intro a ha
  refine sv ha (r_pick ha true rfl rfl) rfl rfl rfl ?_; clear ha a; intro a ha
  refine sv ha (r_assign ha rfl) rfl rfl rfl ?_; clear ha a; intro a ha
  refine hK50 _ _ ?_; clear hK50 K49
  refine wp_ret ?_
  repeat (first | (with_reducible refine t_ret ?_) | (with_reducible refine x_ret ?_))
  exact ret1 ha Tryd.results13 rfl ⟨rfl, hB⟩

theorem law_KeccakTheta (l : List UInt64) (w0 : World) (hl : l.length = 25) (hG : Glob w0) :
    Calls Tryd.prog 3 #[.agg ((l).map e64).toArray] w0 fun e w' => e = .returned (.bool true) ∧ Below w0.heap.size w0 w' := by
  refine enter (args := [_]) Tryd.func3 rfl Tryd.ntmps3 rfl ?_
  intro a ha
  have hB := Below.refl w0.heap.size w0
  refine wp_seq_k fun K1 hK2 => ?_
  refine region ?_
  refine sbox ha rfl rfl ?_
  clear ha a; intro a w3 b4 ha hg hb4 hge4 hlt4
  have hz4 : w0.heap.size ≤ b4 := Nat.le_trans hB.size hge4
  replace hB := keepB0 hg hB
  clear hg hge4 hlt4
  refine sv ha (r_assign ha rfl) rfl rfl rfl ?_; clear ha a; intro a ha
  refine hK2 _ _ ?_; clear hK2 K1
  refine wp_seq_k fun K5 hK6 => ?_
  refine region ?_
  refine sc ha (r_call ha [] rfl Tryd.call13) rfl rfl rfl (c_awake  _ (glob_keep hG hB)) ?_
  clear ha a
  rintro e w7 ⟨rfl, hBc⟩
  have hg := grown_call hBc; clear hBc
  replace hB := keepB0 hg hB
  replace hb4 := keepO0 hg hb4
  clear hg
  refine ⟨_, rfl, ?_⟩; intro a ha
  refine sv ha (r_assign ha rfl) rfl rfl rfl ?_; clear ha a; intro a ha
  refine hK6 _ _ ?_; clear hK6 K5
  refine wp_seq_k fun K8 hK9 => ?_
  refine regionD (S := fun w => Below w0.heap.size w0 w ∧ w.heap[b4]? = some (.cells ((l).map e64).toArray 23 (0, 0)) ∧ True) 9 [0, 1, 2, 4, 7, 8] [0, 1, 2, 4, 3, 5, 6, 7, 8] mixed (by kernel_rfl) (by kernel_rfl) (fun w hg => ⟨keepB0 hg hB, keepO0 hg hb4, trivial⟩) ?_
  intro w10 hg
  replace hB := keepB0 hg hB
  replace hb4 := keepO0 hg hb4
  clear hg
  refine cv ha rfl rfl (fun w _ => r_move ha rfl) rfl rfl rfl ?_; clear ha a; intro a ha
  refine cv ha rfl rfl (fun w _ => r_move ha rfl) rfl rfl rfl ?_; clear ha a; intro a ha
  refine cvg ha rfl rfl (fun w ⟨hB, hb4, _⟩ => r_loadR ha rfl Tryd.isAgg23 Tryd.sizeOf23 (C := (l).map e64) (by rw [List.length_map, hl]) (cells_all hb4)) rfl rfl rfl rfl rfl ?_; clear ha a; intro a ha
  refine cvg ha rfl rfl (fun w _ => r_sliceA ha Tryd.runUnderlying23 Tryd.sizeOf22 rfl) rfl rfl rfl rfl rfl ?_; clear ha a; intro a ha
  refine ccg ha rfl rfl (r_call ha [.agg ((l).map e64).toArray] rfl Tryd.call15) rfl rfl rfl rfl rfl (c_theta l _ (by rw [hl])) ?_
  clear ha a
  rintro e w11 ⟨rfl, hBc⟩
  have hg := grown_call hBc; clear hBc
  replace hB := keepB0 hg hB
  replace hb4 := keepO0 hg hb4
  clear hg
  refine ⟨fun _ => ⟨hB, hb4, trivial⟩, _, rfl, ?_⟩; intro a ha
  refine ccg ha rfl rfl (r_call ha [(.slice (some ⟨b4, 0, none⟩) 25 25)] rfl Tryd.call16) rfl rfl rfl rfl rfl (c_rTheta (.slice (some ⟨b4, 0, none⟩) 25 25) l _ (Sl.ofBlockM hb4 (by rw [hl]) (Nat.le_refl _)) (by rw [hl])) ?_
  clear ha a
  rintro e w12 ⟨b13, rfl, hBc, hb13, hge13⟩
  have hg := grown_call hBc; clear hBc
  have hz13 : w0.heap.size ≤ b13 := Nat.le_trans hB.size hge13
  have hq4_13 : b4 < b13 := Nat.lt_of_lt_of_le (lt_of_block hb4) hge13
  replace hB := keepB0 hg hB
  replace hb4 := keepO0 hg hb4
  clear hg hge13
  refine ⟨fun _ => ⟨hB, hb4, trivial⟩, _, rfl, ?_⟩; intro a ha
  refine ccg ha rfl rfl (r_call ha [.agg (((theta l)).map e64).toArray, (.slice (some ⟨b13, 0, none⟩) 25 25)] rfl Tryd.call14) rfl rfl rfl rfl rfl (c_same (.slice (some ⟨b13, 0, none⟩) 25 25) (theta l) (rTheta l) _ (by rw [theta_len, hl]) (Sl.ofBlockM hb13 (by rw [rTheta_len]) (Nat.le_refl _)) (by rw [rTheta_len])) ?_
  clear ha a
  rintro e w14 ⟨rfl, hBc⟩
  have hg := grown_call hBc; clear hBc
  replace hB := keepB0 hg hB
  replace hb4 := keepO0 hg hb4
  replace hb13 := keepO0 hg hb13
  clear hg
  refine ⟨fun _ => ⟨hB, hb4, trivial⟩, _, rfl, ?_⟩; intro a ha
  rw [show (decide ((theta l) = (rTheta l))) = true from decide_eq_true (theta_eq l hl)] at ha
  refine cv ha rfl rfl (fun w _ => r_pick ha true rfl rfl) rfl rfl rfl ?_; clear ha a; intro a ha
  refine cv ha rfl rfl (fun w _ => r_assign ha rfl) rfl rfl rfl ?_; clear ha a; intro a ha
  refine cfin (hK9 _ _ ?_); clear hK9 K8
  refine wp_ret ?_
  repeat (first | (with_reducible refine t_ret ?_) | (with_reducible refine x_ret ?_))
  exact ret1 ha Tryd.results3 rfl ⟨rfl, hB⟩

theorem law_KeccakRho (l : List UInt64) (w0 : World) (hl : l.length = 25) (hG : Glob w0) :
    Calls Tryd.prog 4 #[.agg ((l).map e64).toArray] w0 fun e w' => e = .returned (.bool true) ∧ Below w0.heap.size w0 w' := by
  refine enter (args := [_]) Tryd.func4 rfl Tryd.ntmps4 rfl ?_
  intro a ha
  have hB := Below.refl w0.heap.size w0
  refine wp_seq_k fun K1 hK2 => ?_
  refine region ?_
  refine sbox ha rfl rfl ?_
  clear ha a; intro a w3 b4 ha hg hb4 hge4 hlt4
  have hz4 : w0.heap.size ≤ b4 := Nat.le_trans hB.size hge4
  replace hB := keepB0 hg hB
  clear hg hge4 hlt4
  refine sv ha (r_assign ha rfl) rfl rfl rfl ?_; clear ha a; intro a ha
  refine hK2 _ _ ?_; clear hK2 K1
  refine wp_seq_k fun K5 hK6 => ?_
  refine region ?_
  refine sc ha (r_call ha [] rfl Tryd.call13) rfl rfl rfl (c_awake  _ (glob_keep hG hB)) ?_
  clear ha a
  rintro e w7 ⟨rfl, hBc⟩
  have hg := grown_call hBc; clear hBc
  replace hB := keepB0 hg hB
  replace hb4 := keepO0 hg hb4
  clear hg
  refine ⟨_, rfl, ?_⟩; intro a ha
  refine sv ha (r_assign ha rfl) rfl rfl rfl ?_; clear ha a; intro a ha
  refine hK6 _ _ ?_; clear hK6 K5
  refine wp_seq_k fun K8 hK9 => ?_
  refine regionD (S := fun w => Below w0.heap.size w0 w ∧ w.heap[b4]? = some (.cells ((l).map e64).toArray 23 (0, 0)) ∧ True) 9 [0, 1, 2, 4, 7, 8] [0, 1, 2, 4, 3, 5, 6, 7, 8] mixed (by kernel_rfl) (by kernel_rfl) (fun w hg => ⟨keepB0 hg hB, keepO0 hg hb4, trivial⟩) ?_
  intro w10 hg
  replace hB := keepB0 hg hB
  replace hb4 := keepO0 hg hb4
  clear hg
  refine cv ha rfl rfl (fun w _ => r_move ha rfl) rfl rfl rfl ?_; clear ha a; intro a ha
  refine cv ha rfl rfl (fun w _ => r_move ha rfl) rfl rfl rfl ?_; clear ha a; intro a ha
  refine cvg ha rfl rfl (fun w ⟨hB, hb4, _⟩ => r_loadR ha rfl Tryd.isAgg23 Tryd.sizeOf23 (C := (l).map e64) (by rw [List.length_map, hl]) (cells_all hb4)) rfl rfl rfl rfl rfl ?_; clear ha a; intro a ha
  refine cvg ha rfl rfl (fun w _ => r_sliceA ha Tryd.runUnderlying23 Tryd.sizeOf22 rfl) rfl rfl rfl rfl rfl ?_; clear ha a; intro a ha
  refine ccg ha rfl rfl (r_call ha [.agg ((l).map e64).toArray] rfl Tryd.call17) rfl rfl rfl rfl rfl (c_rho l _ (by rw [hl]) (glob_keep hG hB)) ?_
  clear ha a
  rintro e w11 ⟨rfl, hBc⟩
  have hg := grown_call hBc; clear hBc
  replace hB := keepB0 hg hB
  replace hb4 := keepO0 hg hb4
  clear hg
  refine ⟨fun _ => ⟨hB, hb4, trivial⟩, _, rfl, ?_⟩; intro a ha
  refine ccg ha rfl rfl (r_call ha [(.slice (some ⟨b4, 0, none⟩) 25 25)] rfl Tryd.call18) rfl rfl rfl rfl rfl (c_rRho (.slice (some ⟨b4, 0, none⟩) 25 25) l _ (Sl.ofBlockM hb4 (by rw [hl]) (Nat.le_refl _)) (by rw [hl])) ?_
  clear ha a
  rintro e w12 ⟨b13, rfl, hBc, hb13, hge13⟩
  have hg := grown_call hBc; clear hBc
  have hz13 : w0.heap.size ≤ b13 := Nat.le_trans hB.size hge13
  have hq4_13 : b4 < b13 := Nat.lt_of_lt_of_le (lt_of_block hb4) hge13
  replace hB := keepB0 hg hB
  replace hb4 := keepO0 hg hb4
  clear hg hge13
  refine ⟨fun _ => ⟨hB, hb4, trivial⟩, _, rfl, ?_⟩; intro a ha
  refine ccg ha rfl rfl (r_call ha [.agg (((rho l)).map e64).toArray, (.slice (some ⟨b13, 0, none⟩) 25 25)] rfl Tryd.call14) rfl rfl rfl rfl rfl (c_same (.slice (some ⟨b13, 0, none⟩) 25 25) (rho l) (rRho l) _ (by rw [rho_len, hl]) (Sl.ofBlockM hb13 (by rw [rRho_len]) (Nat.le_refl _)) (by rw [rRho_len])) ?_
  clear ha a
  rintro e w14 ⟨rfl, hBc⟩
  have hg := grown_call hBc; clear hBc
  replace hB := keepB0 hg hB
  replace hb4 := keepO0 hg hb4
  replace hb13 := keepO0 hg hb13
  clear hg
  refine ⟨fun _ => ⟨hB, hb4, trivial⟩, _, rfl, ?_⟩; intro a ha
  rw [show (decide ((rho l) = (rRho l))) = true from decide_eq_true (rho_eq l hl)] at ha
  refine cv ha rfl rfl (fun w _ => r_pick ha true rfl rfl) rfl rfl rfl ?_; clear ha a; intro a ha
  refine cv ha rfl rfl (fun w _ => r_assign ha rfl) rfl rfl rfl ?_; clear ha a; intro a ha
  refine cfin (hK9 _ _ ?_); clear hK9 K8
  refine wp_ret ?_
  repeat (first | (with_reducible refine t_ret ?_) | (with_reducible refine x_ret ?_))
  exact ret1 ha Tryd.results4 rfl ⟨rfl, hB⟩

theorem law_KeccakPi (l : List UInt64) (w0 : World) (hl : l.length = 25) (hG : Glob w0) :
    Calls Tryd.prog 5 #[.agg ((l).map e64).toArray] w0 fun e w' => e = .returned (.bool true) ∧ Below w0.heap.size w0 w' := by
  refine enter (args := [_]) Tryd.func5 rfl Tryd.ntmps5 rfl ?_
  intro a ha
  have hB := Below.refl w0.heap.size w0
  refine wp_seq_k fun K1 hK2 => ?_
  refine region ?_
  refine sbox ha rfl rfl ?_
  clear ha a; intro a w3 b4 ha hg hb4 hge4 hlt4
  have hz4 : w0.heap.size ≤ b4 := Nat.le_trans hB.size hge4
  replace hB := keepB0 hg hB
  clear hg hge4 hlt4
  refine sv ha (r_assign ha rfl) rfl rfl rfl ?_; clear ha a; intro a ha
  refine hK2 _ _ ?_; clear hK2 K1
  refine wp_seq_k fun K5 hK6 => ?_
  refine region ?_
  refine sc ha (r_call ha [] rfl Tryd.call13) rfl rfl rfl (c_awake  _ (glob_keep hG hB)) ?_
  clear ha a
  rintro e w7 ⟨rfl, hBc⟩
  have hg := grown_call hBc; clear hBc
  replace hB := keepB0 hg hB
  replace hb4 := keepO0 hg hb4
  clear hg
  refine ⟨_, rfl, ?_⟩; intro a ha
  refine sv ha (r_assign ha rfl) rfl rfl rfl ?_; clear ha a; intro a ha
  refine hK6 _ _ ?_; clear hK6 K5
  refine wp_seq_k fun K8 hK9 => ?_
  refine regionD (S := fun w => Below w0.heap.size w0 w ∧ w.heap[b4]? = some (.cells ((l).map e64).toArray 23 (0, 0)) ∧ True) 9 [0, 1, 2, 4, 7, 8] [0, 1, 2, 4, 3, 5, 6, 7, 8] mixed (by kernel_rfl) (by kernel_rfl) (fun w hg => ⟨keepB0 hg hB, keepO0 hg hb4, trivial⟩) ?_
  intro w10 hg
  replace hB := keepB0 hg hB
  replace hb4 := keepO0 hg hb4
  clear hg
  refine cv ha rfl rfl (fun w _ => r_move ha rfl) rfl rfl rfl ?_; clear ha a; intro a ha
  refine cv ha rfl rfl (fun w _ => r_move ha rfl) rfl rfl rfl ?_; clear ha a; intro a ha
  refine cvg ha rfl rfl (fun w ⟨hB, hb4, _⟩ => r_loadR ha rfl Tryd.isAgg23 Tryd.sizeOf23 (C := (l).map e64) (by rw [List.length_map, hl]) (cells_all hb4)) rfl rfl rfl rfl rfl ?_; clear ha a; intro a ha
  refine cvg ha rfl rfl (fun w _ => r_sliceA ha Tryd.runUnderlying23 Tryd.sizeOf22 rfl) rfl rfl rfl rfl rfl ?_; clear ha a; intro a ha
  refine ccg ha rfl rfl (r_call ha [.agg ((l).map e64).toArray] rfl Tryd.call19) rfl rfl rfl rfl rfl (c_pi l _ (by rw [hl])) ?_
  clear ha a
  rintro e w11 ⟨rfl, hBc⟩
  have hg := grown_call hBc; clear hBc
  replace hB := keepB0 hg hB
  replace hb4 := keepO0 hg hb4
  clear hg
  refine ⟨fun _ => ⟨hB, hb4, trivial⟩, _, rfl, ?_⟩; intro a ha
  refine ccg ha rfl rfl (r_call ha [(.slice (some ⟨b4, 0, none⟩) 25 25)] rfl Tryd.call20) rfl rfl rfl rfl rfl (c_rPi (.slice (some ⟨b4, 0, none⟩) 25 25) l _ (Sl.ofBlockM hb4 (by rw [hl]) (Nat.le_refl _)) (by rw [hl])) ?_
  clear ha a
  rintro e w12 ⟨b13, rfl, hBc, hb13, hge13⟩
  have hg := grown_call hBc; clear hBc
  have hz13 : w0.heap.size ≤ b13 := Nat.le_trans hB.size hge13
  have hq4_13 : b4 < b13 := Nat.lt_of_lt_of_le (lt_of_block hb4) hge13
  replace hB := keepB0 hg hB
  replace hb4 := keepO0 hg hb4
  clear hg hge13
  refine ⟨fun _ => ⟨hB, hb4, trivial⟩, _, rfl, ?_⟩; intro a ha
  refine ccg ha rfl rfl (r_call ha [.agg (((pi l)).map e64).toArray, (.slice (some ⟨b13, 0, none⟩) 25 25)] rfl Tryd.call14) rfl rfl rfl rfl rfl (c_same (.slice (some ⟨b13, 0, none⟩) 25 25) (pi l) (rPi l) _ (by rw [pi_len]) (Sl.ofBlockM hb13 (by rw [rPi_len]) (Nat.le_refl _)) (by rw [rPi_len])) ?_
  clear ha a
  rintro e w14 ⟨rfl, hBc⟩
  have hg := grown_call hBc; clear hBc
  replace hB := keepB0 hg hB
  replace hb4 := keepO0 hg hb4
  replace hb13 := keepO0 hg hb13
  clear hg
  refine ⟨fun _ => ⟨hB, hb4, trivial⟩, _, rfl, ?_⟩; intro a ha
  rw [show (decide ((pi l) = (rPi l))) = true from decide_eq_true (pi_eq l hl)] at ha
  refine cv ha rfl rfl (fun w _ => r_pick ha true rfl rfl) rfl rfl rfl ?_; clear ha a; intro a ha
  refine cv ha rfl rfl (fun w _ => r_assign ha rfl) rfl rfl rfl ?_; clear ha a; intro a ha
  refine cfin (hK9 _ _ ?_); clear hK9 K8
  refine wp_ret ?_
  repeat (first | (with_reducible refine t_ret ?_) | (with_reducible refine x_ret ?_))
  exact ret1 ha Tryd.results5 rfl ⟨rfl, hB⟩

theorem law_KeccakChi (l : List UInt64) (w0 : World) (hl : l.length = 25) (hG : Glob w0) :
    Calls Tryd.prog 6 #[.agg ((l).map e64).toArray] w0 fun e w' => e = .returned (.bool true) ∧ Below w0.heap.size w0 w' := by
  refine enter (args := [_]) Tryd.func6 rfl Tryd.ntmps6 rfl ?_
  intro a ha
  have hB := Below.refl w0.heap.size w0
  refine wp_seq_k fun K1 hK2 => ?_
  refine region ?_
  refine sbox ha rfl rfl ?_
  clear ha a; intro a w3 b4 ha hg hb4 hge4 hlt4
  have hz4 : w0.heap.size ≤ b4 := Nat.le_trans hB.size hge4
  replace hB := keepB0 hg hB
  clear hg hge4 hlt4
  refine sv ha (r_assign ha rfl) rfl rfl rfl ?_; clear ha a; intro a ha
  refine hK2 _ _ ?_; clear hK2 K1
  refine wp_seq_k fun K5 hK6 => ?_
  refine region ?_
  refine sc ha (r_call ha [] rfl Tryd.call13) rfl rfl rfl (c_awake  _ (glob_keep hG hB)) ?_
  clear ha a
  rintro e w7 ⟨rfl, hBc⟩
  have hg := grown_call hBc; clear hBc
  replace hB := keepB0 hg hB
  replace hb4 := keepO0 hg hb4
  clear hg
  refine ⟨_, rfl, ?_⟩; intro a ha
  refine sv ha (r_assign ha rfl) rfl rfl rfl ?_; clear ha a; intro a ha
  refine hK6 _ _ ?_; clear hK6 K5
  refine wp_seq_k fun K8 hK9 => ?_
  refine regionD (S := fun w => Below w0.heap.size w0 w ∧ w.heap[b4]? = some (.cells ((l).map e64).toArray 23 (0, 0)) ∧ True) 9 [0, 1, 2, 4, 7, 8] [0, 1, 2, 4, 3, 5, 6, 7, 8] mixed (by kernel_rfl) (by kernel_rfl) (fun w hg => ⟨keepB0 hg hB, keepO0 hg hb4, trivial⟩) ?_
  intro w10 hg
  replace hB := keepB0 hg hB
  replace hb4 := keepO0 hg hb4
  clear hg
  refine cv ha rfl rfl (fun w _ => r_move ha rfl) rfl rfl rfl ?_; clear ha a; intro a ha
  refine cv ha rfl rfl (fun w _ => r_move ha rfl) rfl rfl rfl ?_; clear ha a; intro a ha
  refine cvg ha rfl rfl (fun w ⟨hB, hb4, _⟩ => r_loadR ha rfl Tryd.isAgg23 Tryd.sizeOf23 (C := (l).map e64) (by rw [List.length_map, hl]) (cells_all hb4)) rfl rfl rfl rfl rfl ?_; clear ha a; intro a ha
  refine cvg ha rfl rfl (fun w _ => r_sliceA ha Tryd.runUnderlying23 Tryd.sizeOf22 rfl) rfl rfl rfl rfl rfl ?_; clear ha a; intro a ha
  refine ccg ha rfl rfl (r_call ha [.agg ((l).map e64).toArray] rfl Tryd.call21) rfl rfl rfl rfl rfl (c_chi l _ (by rw [hl])) ?_
  clear ha a
  rintro e w11 ⟨rfl, hBc⟩
  have hg := grown_call hBc; clear hBc
  replace hB := keepB0 hg hB
  replace hb4 := keepO0 hg hb4
  clear hg
  refine ⟨fun _ => ⟨hB, hb4, trivial⟩, _, rfl, ?_⟩; intro a ha
  refine ccg ha rfl rfl (r_call ha [(.slice (some ⟨b4, 0, none⟩) 25 25)] rfl Tryd.call22) rfl rfl rfl rfl rfl (c_rChi (.slice (some ⟨b4, 0, none⟩) 25 25) l _ (Sl.ofBlockM hb4 (by rw [hl]) (Nat.le_refl _)) (by rw [hl])) ?_
  clear ha a
  rintro e w12 ⟨b13, rfl, hBc, hb13, hge13⟩
  have hg := grown_call hBc; clear hBc
  have hz13 : w0.heap.size ≤ b13 := Nat.le_trans hB.size hge13
  have hq4_13 : b4 < b13 := Nat.lt_of_lt_of_le (lt_of_block hb4) hge13
  replace hB := keepB0 hg hB
  replace hb4 := keepO0 hg hb4
  clear hg hge13
  refine ⟨fun _ => ⟨hB, hb4, trivial⟩, _, rfl, ?_⟩; intro a ha
  refine ccg ha rfl rfl (r_call ha [.agg (((chi l)).map e64).toArray, (.slice (some ⟨b13, 0, none⟩) 25 25)] rfl Tryd.call14) rfl rfl rfl rfl rfl (c_same (.slice (some ⟨b13, 0, none⟩) 25 25) (chi l) (rChi l) _ (by rw [chi_len, hl]) (Sl.ofBlockM hb13 (by rw [rChi_len]) (Nat.le_refl _)) (by rw [rChi_len])) ?_
  clear ha a
  rintro e w14 ⟨rfl, hBc⟩
  have hg := grown_call hBc; clear hBc
  replace hB := keepB0 hg hB
  replace hb4 := keepO0 hg hb4
  replace hb13 := keepO0 hg hb13
  clear hg
  refine ⟨fun _ => ⟨hB, hb4, trivial⟩, _, rfl, ?_⟩; intro a ha
  rw [show (decide ((chi l) = (rChi l))) = true from decide_eq_true (chi_eq l hl)] at ha
  refine cv ha rfl rfl (fun w _ => r_pick ha true rfl rfl) rfl rfl rfl ?_; clear ha a; intro a ha
  refine cv ha rfl rfl (fun w _ => r_assign ha rfl) rfl rfl rfl ?_; clear ha a; intro a ha
  refine cfin (hK9 _ _ ?_); clear hK9 K8
  refine wp_ret ?_
  repeat (first | (with_reducible refine t_ret ?_) | (with_reducible refine x_ret ?_))
  exact ret1 ha Tryd.results6 rfl ⟨rfl, hB⟩

theorem law_KeccakIota (l : List UInt64) (k : Int) (w0 : World) (hl : l.length = 25) (hG : Glob w0) :
    Calls Tryd.prog 7 #[.agg ((l).map e64).toArray, ei k] w0 fun e w' => e = .returned (.bool true) ∧ Below w0.heap.size w0 w' := by
  refine enter (args := [_, _]) Tryd.func7 rfl Tryd.ntmps7 rfl ?_
  intro a ha
  have hB := Below.refl w0.heap.size w0
  refine wp_seq_k fun K1 hK2 => ?_
  refine region ?_
  refine sbox ha rfl rfl ?_
  clear ha a; intro a w3 b4 ha hg hb4 hge4 hlt4
  have hz4 : w0.heap.size ≤ b4 := Nat.le_trans hB.size hge4
  replace hB := keepB0 hg hB
  clear hg hge4 hlt4
  refine sv ha (r_assign ha rfl) rfl rfl rfl ?_; clear ha a; intro a ha
  refine hK2 _ _ ?_; clear hK2 K1
  refine wp_seq_k fun K5 hK6 => ?_
  refine region ?_
  refine sc ha (r_call ha [] rfl Tryd.call13) rfl rfl rfl (c_awake  _ (glob_keep hG hB)) ?_
  clear ha a
  rintro e w7 ⟨rfl, hBc⟩
  have hg := grown_call hBc; clear hBc
  replace hB := keepB0 hg hB
  replace hb4 := keepO0 hg hb4
  clear hg
  refine ⟨_, rfl, ?_⟩; intro a ha
  refine sv ha (r_assign ha rfl) rfl rfl rfl ?_; clear ha a; intro a ha
  refine hK6 _ _ ?_; clear hK6 K5
  refine wp_seq_k fun K8 hK9 => ?_
  refine regionD (S := fun w => Below w0.heap.size w0 w ∧ w.heap[b4]? = some (.cells ((l).map e64).toArray 23 (0, 0)) ∧ True) 11 [0, 1, 2, 3, 5, 6, 9, 10] [0, 1, 2, 3, 5, 6, 4, 7, 8, 9, 10] mixed (by kernel_rfl) (by kernel_rfl) (fun w hg => ⟨keepB0 hg hB, keepO0 hg hb4, trivial⟩) ?_
  intro w10 hg
  replace hB := keepB0 hg hB
  replace hb4 := keepO0 hg hb4
  clear hg
  refine cv ha rfl rfl (fun w _ => r_move ha rfl) rfl rfl rfl ?_; clear ha a; intro a ha
  refine cv ha rfl rfl (fun w _ => r_move ha rfl) rfl rfl rfl ?_; clear ha a; intro a ha
  refine cvg ha rfl rfl (fun w ⟨hB, hb4, _⟩ => r_loadR ha rfl Tryd.isAgg23 Tryd.sizeOf23 (C := (l).map e64) (by rw [List.length_map, hl]) (cells_all hb4)) rfl rfl rfl rfl rfl ?_; clear ha a; intro a ha
  refine cvg ha rfl rfl (fun w _ => r_move ha rfl) rfl rfl rfl rfl rfl ?_; clear ha a; intro a ha
  refine cvg ha rfl rfl (fun w _ => r_sliceA ha Tryd.runUnderlying23 Tryd.sizeOf22 rfl) rfl rfl rfl rfl rfl ?_; clear ha a; intro a ha
  refine cvg ha rfl rfl (fun w _ => r_move ha rfl) rfl rfl rfl rfl rfl ?_; clear ha a; intro a ha
  refine ccg ha rfl rfl (r_call ha [.agg ((l).map e64).toArray, ei k] rfl Tryd.call23) rfl rfl rfl rfl rfl (c_iotaZ l k _ (by rw [hl]) (glob_keep hG hB)) ?_
  clear ha a
  rintro e w11 ⟨rfl, hBc⟩
  have hg := grown_call hBc; clear hBc
  replace hB := keepB0 hg hB
  replace hb4 := keepO0 hg hb4
  clear hg
  refine ⟨fun _ => ⟨hB, hb4, trivial⟩, _, rfl, ?_⟩; intro a ha
  refine ccg ha rfl rfl (r_call ha [(.slice (some ⟨b4, 0, none⟩) 25 25), ei k] rfl Tryd.call24) rfl rfl rfl rfl rfl (c_rIotaZ (.slice (some ⟨b4, 0, none⟩) 25 25) l k _ (Sl.ofBlockM hb4 (by rw [hl]) (Nat.le_refl _)) (by rw [hl])) ?_
  clear ha a
  rintro e w12 ⟨b13, rfl, hBc, hb13, hge13⟩
  have hg := grown_call hBc; clear hBc
  have hz13 : w0.heap.size ≤ b13 := Nat.le_trans hB.size hge13
  have hq4_13 : b4 < b13 := Nat.lt_of_lt_of_le (lt_of_block hb4) hge13
  replace hB := keepB0 hg hB
  replace hb4 := keepO0 hg hb4
  clear hg hge13
  refine ⟨fun _ => ⟨hB, hb4, trivial⟩, _, rfl, ?_⟩; intro a ha
  refine ccg ha rfl rfl (r_call ha [.agg (((iotaZ l k)).map e64).toArray, (.slice (some ⟨b13, 0, none⟩) 25 25)] rfl Tryd.call14) rfl rfl rfl rfl rfl (c_same (.slice (some ⟨b13, 0, none⟩) 25 25) (iotaZ l k) (rIotaZ l k) _ (by rw [iotaZ_len, hl]) (Sl.ofBlockM hb13 (by rw [rIotaZ_len, hl]) (Nat.le_refl _)) (by rw [rIotaZ_len, hl])) ?_
  clear ha a
  rintro e w14 ⟨rfl, hBc⟩
  have hg := grown_call hBc; clear hBc
  replace hB := keepB0 hg hB
  replace hb4 := keepO0 hg hb4
  replace hb13 := keepO0 hg hb13
  clear hg
  refine ⟨fun _ => ⟨hB, hb4, trivial⟩, _, rfl, ?_⟩; intro a ha
  rw [show (decide ((iotaZ l k) = (rIotaZ l k))) = true from decide_eq_true (iotaZ_eq l k hl)] at ha
  refine cv ha rfl rfl (fun w _ => r_pick ha true rfl rfl) rfl rfl rfl ?_; clear ha a; intro a ha
  refine cv ha rfl rfl (fun w _ => r_assign ha rfl) rfl rfl rfl ?_; clear ha a; intro a ha
  refine cfin (hK9 _ _ ?_); clear hK9 K8
  refine wp_ret ?_
  repeat (first | (with_reducible refine t_ret ?_) | (with_reducible refine x_ret ?_))
  exact ret1 ha Tryd.results7 rfl ⟨rfl, hB⟩

theorem law_KeccakRound (l : List UInt64) (k : Int) (w0 : World) (hl : l.length = 25) (hG : Glob w0) :
    Calls Tryd.prog 8 #[.agg ((l).map e64).toArray, ei k] w0 fun e w' => e = .returned (.bool true) ∧ Below w0.heap.size w0 w' := by
  refine enter (args := [_, _]) Tryd.func8 rfl Tryd.ntmps8 rfl ?_
  intro a ha
  have hB := Below.refl w0.heap.size w0
  refine wp_seq_k fun K1 hK2 => ?_
  refine region ?_
  refine sbox ha rfl rfl ?_
  clear ha a; intro a w3 b4 ha hg hb4 hge4 hlt4
  have hz4 : w0.heap.size ≤ b4 := Nat.le_trans hB.size hge4
  replace hB := keepB0 hg hB
  clear hg hge4 hlt4
  refine sv ha (r_assign ha rfl) rfl rfl rfl ?_; clear ha a; intro a ha
  refine hK2 _ _ ?_; clear hK2 K1
  refine wp_seq_k fun K5 hK6 => ?_
  refine region ?_
  refine sc ha (r_call ha [] rfl Tryd.call13) rfl rfl rfl (c_awake  _ (glob_keep hG hB)) ?_
  clear ha a
  rintro e w7 ⟨rfl, hBc⟩
  have hg := grown_call hBc; clear hBc
  replace hB := keepB0 hg hB
  replace hb4 := keepO0 hg hb4
  clear hg
  refine ⟨_, rfl, ?_⟩; intro a ha
  refine sv ha (r_assign ha rfl) rfl rfl rfl ?_; clear ha a; intro a ha
  refine hK6 _ _ ?_; clear hK6 K5
  refine wp_seq_k fun K8 hK9 => ?_
  refine regionD (S := fun w => Below w0.heap.size w0 w ∧ w.heap[b4]? = some (.cells ((l).map e64).toArray 23 (0, 0)) ∧ True) 11 [0, 1, 2, 3, 5, 6, 9, 10] [0, 1, 2, 3, 5, 6, 4, 7, 8, 9, 10] mixed (by kernel_rfl) (by kernel_rfl) (fun w hg => ⟨keepB0 hg hB, keepO0 hg hb4, trivial⟩) ?_
  intro w10 hg
  replace hB := keepB0 hg hB
  replace hb4 := keepO0 hg hb4
  clear hg
  refine cv ha rfl rfl (fun w _ => r_move ha rfl) rfl rfl rfl ?_; clear ha a; intro a ha
  refine cv ha rfl rfl (fun w _ => r_move ha rfl) rfl rfl rfl ?_; clear ha a; intro a ha
  refine cvg ha rfl rfl (fun w ⟨hB, hb4, _⟩ => r_loadR ha rfl Tryd.isAgg23 Tryd.sizeOf23 (C := (l).map e64) (by rw [List.length_map, hl]) (cells_all hb4)) rfl rfl rfl rfl rfl ?_; clear ha a; intro a ha
  refine cvg ha rfl rfl (fun w _ => r_move ha rfl) rfl rfl rfl rfl rfl ?_; clear ha a; intro a ha
  refine cvg ha rfl rfl (fun w _ => r_sliceA ha Tryd.runUnderlying23 Tryd.sizeOf22 rfl) rfl rfl rfl rfl rfl ?_; clear ha a; intro a ha
  refine cvg ha rfl rfl (fun w _ => r_move ha rfl) rfl rfl rfl rfl rfl ?_; clear ha a; intro a ha
  refine ccg ha rfl rfl (r_call ha [.agg ((l).map e64).toArray, ei k] rfl Tryd.call25) rfl rfl rfl rfl rfl (c_roundZ l k _ (by rw [hl]) (glob_keep hG hB)) ?_
  clear ha a
  rintro e w11 ⟨rfl, hBc⟩
  have hg := grown_call hBc; clear hBc
  replace hB := keepB0 hg hB
  replace hb4 := keepO0 hg hb4
  clear hg
  refine ⟨fun _ => ⟨hB, hb4, trivial⟩, _, rfl, ?_⟩; intro a ha
  refine ccg ha rfl rfl (r_call ha [(.slice (some ⟨b4, 0, none⟩) 25 25), ei k] rfl Tryd.call26) rfl rfl rfl rfl rfl (c_rRoundZ (.slice (some ⟨b4, 0, none⟩) 25 25) l k _ (Sl.ofBlockM hb4 (by rw [hl]) (Nat.le_refl _)) (by rw [hl])) ?_
  clear ha a
  rintro e w12 ⟨u13, rfl, hBc, hs13⟩
  have hg := grown_call hBc; clear hBc
  replace hB := keepB0 hg hB
  replace hb4 := keepO0 hg hb4
  clear hg
  refine ⟨fun _ => ⟨hB, hb4, trivial⟩, _, rfl, ?_⟩; intro a ha
  refine ccg ha rfl rfl (r_call ha [.agg (((kroundZ l k)).map e64).toArray, u13] rfl Tryd.call14) rfl rfl rfl rfl rfl (c_same u13 (kroundZ l k) (rroundZ l k) _ (by rw [kroundZ_len _ _ (by rw [hl])]) hs13 (by rw [rroundZ_len _ _ (by rw [hl])])) ?_
  clear ha a
  rintro e w14 ⟨rfl, hBc⟩
  have hg := grown_call hBc; clear hBc
  replace hB := keepB0 hg hB
  replace hb4 := keepO0 hg hb4
  replace hs13 := keepS0 hg hs13
  clear hg
  refine ⟨fun _ => ⟨hB, hb4, trivial⟩, _, rfl, ?_⟩; intro a ha
  rw [show (decide ((kroundZ l k) = (rroundZ l k))) = true from decide_eq_true (roundZ_eq l k hl)] at ha
  refine cv ha rfl rfl (fun w _ => r_pick ha true rfl rfl) rfl rfl rfl ?_; clear ha a; intro a ha
  refine cv ha rfl rfl (fun w _ => r_assign ha rfl) rfl rfl rfl ?_; clear ha a; intro a ha
  refine cfin (hK9 _ _ ?_); clear hK9 K8
  refine wp_ret ?_
  repeat (first | (with_reducible refine t_ret ?_) | (with_reducible refine x_ret ?_))
  exact ret1 ha Tryd.results8 rfl ⟨rfl, hB⟩

theorem law_KeccakAll (l : List UInt64) (w0 : World) (hl : l.length = 25) (hG : Glob w0) :
    Calls Tryd.prog 9 #[.agg ((l).map e64).toArray] w0 fun e w' => e = .returned (.bool true) ∧ Below w0.heap.size w0 w' := by
  refine enter (args := [_]) Tryd.func9 rfl Tryd.ntmps9 rfl ?_
  intro a ha
  have hB := Below.refl w0.heap.size w0
  refine wp_seq_k fun K1 hK2 => ?_
  refine region ?_
  refine sbox ha rfl rfl ?_
  clear ha a; intro a w3 b4 ha hg hb4 hge4 hlt4
  have hz4 : w0.heap.size ≤ b4 := Nat.le_trans hB.size hge4
  replace hB := keepB0 hg hB
  clear hg hge4 hlt4
  refine sv ha (r_assign ha rfl) rfl rfl rfl ?_; clear ha a; intro a ha
  refine hK2 _ _ ?_; clear hK2 K1
  refine wp_seq_k fun K5 hK6 => ?_
  refine region ?_
  refine sc ha (r_call ha [] rfl Tryd.call13) rfl rfl rfl (c_awake  _ (glob_keep hG hB)) ?_
  clear ha a
  rintro e w7 ⟨rfl, hBc⟩
  have hg := grown_call hBc; clear hBc
  replace hB := keepB0 hg hB
  replace hb4 := keepO0 hg hb4
  clear hg
  refine ⟨_, rfl, ?_⟩; intro a ha
  refine sv ha (r_assign ha rfl) rfl rfl rfl ?_; clear ha a; intro a ha
  refine hK6 _ _ ?_; clear hK6 K5
  refine wp_seq_k fun K8 hK9 => ?_
  refine regionD (S := fun w => Below w0.heap.size w0 w ∧ w.heap[b4]? = some (.cells ((l).map e64).toArray 23 (0, 0)) ∧ True) 16 [0, 1, 2, 4, 7, 8, 9, 11, 14, 15] [0, 1, 2, 4, 3, 5, 6, 7, 8, 9, 11, 10, 12, 13, 14, 15] mixed (by kernel_rfl) (by kernel_rfl) (fun w hg => ⟨keepB0 hg hB, keepO0 hg hb4, trivial⟩) ?_
  intro w10 hg
  replace hB := keepB0 hg hB
  replace hb4 := keepO0 hg hb4
  clear hg
  refine cv ha rfl rfl (fun w _ => r_move ha rfl) rfl rfl rfl ?_; clear ha a; intro a ha
  refine cv ha rfl rfl (fun w _ => r_move ha rfl) rfl rfl rfl ?_; clear ha a; intro a ha
  refine cvg ha rfl rfl (fun w ⟨hB, hb4, _⟩ => r_loadR ha rfl Tryd.isAgg23 Tryd.sizeOf23 (C := (l).map e64) (by rw [List.length_map, hl]) (cells_all hb4)) rfl rfl rfl rfl rfl ?_; clear ha a; intro a ha
  refine cvg ha rfl rfl (fun w _ => r_sliceA ha Tryd.runUnderlying23 Tryd.sizeOf22 rfl) rfl rfl rfl rfl rfl ?_; clear ha a; intro a ha
  refine ccg ha rfl rfl (r_call ha [.agg ((l).map e64).toArray] rfl Tryd.call27) rfl rfl rfl rfl rfl (c_kf l _ (by rw [hl]) (glob_keep hG hB)) ?_
  clear ha a
  rintro e w11 ⟨rfl, hBc⟩
  have hg := grown_call hBc; clear hBc
  replace hB := keepB0 hg hB
  replace hb4 := keepO0 hg hb4
  clear hg
  refine ⟨fun _ => ⟨hB, hb4, trivial⟩, _, rfl, ?_⟩; intro a ha
  refine ccg ha rfl rfl (r_call ha [(.slice (some ⟨b4, 0, none⟩) 25 25)] rfl Tryd.call28) rfl rfl rfl rfl rfl (c_rF (.slice (some ⟨b4, 0, none⟩) 25 25) l _ (Sl.ofBlockM hb4 (by rw [hl]) (Nat.le_refl _)) (by rw [hl])) ?_
  clear ha a
  rintro e w12 ⟨u13, rfl, hBc, hs13⟩
  have hg := grown_call hBc; clear hBc
  replace hB := keepB0 hg hB
  replace hb4 := keepO0 hg hb4
  clear hg
  refine ⟨fun _ => ⟨hB, hb4, trivial⟩, _, rfl, ?_⟩; intro a ha
  refine ccg ha rfl rfl (r_call ha [.agg (((kf l)).map e64).toArray, u13] rfl Tryd.call14) rfl rfl rfl rfl rfl (c_same u13 (kf l) (rF l) _ (by rw [kf_len _ (by rw [hl])]) hs13 (by rw [rF_len _ (by rw [hl])])) ?_
  clear ha a
  rintro e w14 ⟨rfl, hBc⟩
  have hg := grown_call hBc; clear hBc
  replace hB := keepB0 hg hB
  replace hb4 := keepO0 hg hb4
  replace hs13 := keepS0 hg hs13
  clear hg
  refine ⟨fun _ => ⟨hB, hb4, trivial⟩, _, rfl, ?_⟩; intro a ha
  rw [show (decide ((kf l) = (rF l))) = true from decide_eq_true (kf_eq l hl)] at ha
  refine cv ha rfl rfl (fun w _ => r_pick ha true rfl rfl) rfl rfl rfl ?_; clear ha a; intro a ha
  refine cv ha rfl rfl (fun w _ => r_move ha rfl) rfl rfl rfl ?_; clear ha a; intro a ha
  refine cvg ha rfl rfl (fun w ⟨hB, hb4, _⟩ => r_loadR ha rfl Tryd.isAgg23 Tryd.sizeOf23 (C := (l).map e64) (by rw [List.length_map, hl]) (cells_all hb4)) rfl rfl rfl rfl rfl ?_; clear ha a; intro a ha
  refine cvg ha rfl rfl (fun w _ => r_sliceA ha Tryd.runUnderlying23 Tryd.sizeOf22 rfl) rfl rfl rfl rfl rfl ?_; clear ha a; intro a ha
  refine ccg ha rfl rfl (r_call ha [.agg ((l).map e64).toArray] rfl Tryd.call27) rfl rfl rfl rfl rfl (c_kf l _ (by rw [hl]) (glob_keep hG hB)) ?_
  clear ha a
  rintro e w15 ⟨rfl, hBc⟩
  have hg := grown_call hBc; clear hBc
  replace hB := keepB0 hg hB
  replace hb4 := keepO0 hg hb4
  replace hs13 := keepS0 hg hs13
  clear hg
  refine ⟨fun _ => ⟨hB, hb4, trivial⟩, _, rfl, ?_⟩; intro a ha
  refine ccg ha rfl rfl (r_call ha [(.slice (some ⟨b4, 0, none⟩) 25 25)] rfl Tryd.call29) rfl rfl rfl rfl rfl (c_rFast (.slice (some ⟨b4, 0, none⟩) 25 25) l _ (Sl.ofBlockM hb4 (by rw [hl]) (Nat.le_refl _)) (by rw [hl])) ?_
  clear ha a
  rintro e w16 ⟨b17, rfl, hBc, hb17, hge17⟩
  have hg := grown_call hBc; clear hBc
  have hz17 : w0.heap.size ≤ b17 := Nat.le_trans hB.size hge17
  have hne_hs13_b17 : ∀ j, Value.ownBlock u13 = some j → j ≠ b17 := fun j hj => by have := hs13.lt j hj; omega
  have hq4_17 : b4 < b17 := Nat.lt_of_lt_of_le (lt_of_block hb4) hge17
  replace hB := keepB0 hg hB
  replace hb4 := keepO0 hg hb4
  replace hs13 := keepS0 hg hs13
  clear hg hge17
  refine ⟨fun _ => ⟨hB, hb4, trivial⟩, _, rfl, ?_⟩; intro a ha
  refine ccg ha rfl rfl (r_call ha [.agg (((kf l)).map e64).toArray, (.slice (some ⟨b17, 0, none⟩) 25 25)] rfl Tryd.call14) rfl rfl rfl rfl rfl (c_same (.slice (some ⟨b17, 0, none⟩) 25 25) (kf l) (fast l) _ (by rw [kf_len _ (by rw [hl])]) (Sl.ofBlockM hb17 (by rw [fast_len, hl]) (Nat.le_refl _)) (by rw [fast_len, hl])) ?_
  clear ha a
  rintro e w18 ⟨rfl, hBc⟩
  have hg := grown_call hBc; clear hBc
  replace hB := keepB0 hg hB
  replace hb4 := keepO0 hg hb4
  replace hb17 := keepO0 hg hb17
  replace hs13 := keepS0 hg hs13
  clear hg
  refine ⟨fun _ => ⟨hB, hb4, trivial⟩, _, rfl, ?_⟩; intro a ha
  rw [show (decide ((kf l) = (fast l))) = true from decide_eq_true (fast_eq l hl).symm] at ha
  refine cv ha rfl rfl (fun w _ => r_pick ha true rfl rfl) rfl rfl rfl ?_; clear ha a; intro a ha
  refine cv ha rfl rfl (fun w _ => r_assign ha rfl) rfl rfl rfl ?_; clear ha a; intro a ha
  refine cfin (hK9 _ _ ?_); clear hK9 K8
  refine wp_ret ?_
  repeat (first | (with_reducible refine t_ret ?_) | (with_reducible refine x_ret ?_))
  exact ret1 ha Tryd.results9 rfl ⟨rfl, hB⟩
end Go.Proofs.YtdfgdaeboidkhaaDoor
