/- WALKS written by gen.py (own program) out of specs. -/
import Derived.Test.YtdfgdaeboidkhaaDoorK1
import Derived.Test.YtdfgdaeboidkhaaDoorPr
namespace Go.Proofs.YtdfgdaeboidkhaaDoor
open Go.RowKit Go.Rx
set_option maxRecDepth 100000
set_option maxHeartbeats 4000000
set_option linter.unusedVariables false

theorem c_lanes  (w0 : World) :
    Calls Tryd.prog 32 #[] w0 fun e w' => ∃ b, e = .returned (.slice (some ⟨b, 0, none⟩) 25 25) ∧ Below w0.heap.size w0 w' ∧ w'.heap[b]? = some (.cells ((List.replicate 25 (0 : UInt64)).map e64).toArray 22 (0, 0)) ∧ w0.heap.size ≤ b := by
  refine enter (args := []) Tryd.func32 rfl Tryd.ntmps32 rfl ?_
  intro a ha
  have hB := Below.refl w0.heap.size w0
  refine wp_seq_k fun K1 hK2 => ?_
  refine region ?_
  refine sv ha (r_assign ha rfl) rfl rfl rfl ?_; clear ha a; intro a ha
  refine hK2 _ _ ?_; clear hK2 K1
  refine wp_seq_k fun K3 hK4 => ?_
  refine region ?_
  refine smake (k := 25) ha rfl rfl Tryd.underlying27 rfl rfl rfl rfl (show 8 * _ ≤ _ by omega) (by omega) rfl ?_
  clear ha a; intro a w5 b6 ha hg hb6 hge6 hlt6
  have hz6 : w0.heap.size ≤ b6 := Nat.le_trans hB.size hge6
  replace hB := keepB0 hg hB
  clear hg hge6 hlt6
  rw [show (List.replicate 25 (Value.int .u64 0)) = (List.replicate 25 (0 : UInt64)).map e64 by rw [List.map_replicate]; rfl] at hb6
  refine sv ha (r_assign ha rfl) rfl rfl rfl ?_; clear ha a; intro a ha
  refine hK4 _ _ ?_; clear hK4 K3
  refine wp_ret ?_
  repeat (first | (with_reducible refine t_ret ?_) | (with_reducible refine x_ret ?_))
  exact ret1 ha Tryd.results32 rfl ⟨_, rfl, hB, hb6, hz6⟩

theorem c_bit (v : Value) (l : List UInt64) (x y z : Int) (w0 : World) (hs : Sl w0 v (l.map e64)) (hl : l.length = 25) (hx : -10 ≤ x ∧ x ≤ 100) (hy : -10 ≤ y ∧ y ≤ 100) (hz : -128 ≤ z ∧ z ≤ 200) :
    Calls Tryd.prog 33 #[v, ei x, ei y, ei z] w0 fun e w' => e = .returned (en (bitI l x y z)) ∧ Below w0.heap.size w0 w' := by
  refine enter (args := [_, _, _, _]) Tryd.func33 rfl Tryd.ntmps33 rfl ?_
  intro a ha
  have hB := Below.refl w0.heap.size w0
  refine wp_seq_k fun K1 hK2 => ?_
  refine region ?_
  refine sv ha (r_assign ha rfl) rfl rfl rfl ?_; clear ha a; intro a ha
  refine hK2 _ _ ?_; clear hK2 K1
  refine wp_seq_k fun K3 hK4 => ?_
  refine region ?_
  refine sv ha (r_move ha rfl) rfl rfl rfl ?_; clear ha a; intro a ha
  refine sv ha (r_add ha x 10 rfl rfl (by omega)) rfl rfl rfl ?_; clear ha a; intro a ha
  refine sv ha (n_of (r_rem ha (x + 10) 5 rfl rfl (by omega)) (k := ((x + 10) % 5).toNat) (by rw [Int.tmod_eq_emod_of_nonneg (by omega)]; omega)) rfl rfl rfl ?_; clear ha a; intro a ha
  refine sv ha (r_assign ha rfl) rfl rfl rfl ?_; clear ha a; intro a ha
  refine hK4 _ _ ?_; clear hK4 K3
  refine wp_seq_k fun K5 hK6 => ?_
  refine region ?_
  refine sv ha (r_move ha rfl) rfl rfl rfl ?_; clear ha a; intro a ha
  refine sv ha (r_add ha y 10 rfl rfl (by omega)) rfl rfl rfl ?_; clear ha a; intro a ha
  refine sv ha (n_of (r_rem ha (y + 10) 5 rfl rfl (by omega)) (k := ((y + 10) % 5).toNat) (by rw [Int.tmod_eq_emod_of_nonneg (by omega)]; omega)) rfl rfl rfl ?_; clear ha a; intro a ha
  refine sv ha (r_assign ha rfl) rfl rfl rfl ?_; clear ha a; intro a ha
  refine hK6 _ _ ?_; clear hK6 K5
  refine wp_seq_k fun K7 hK8 => ?_
  refine region ?_
  refine sv ha (r_move ha rfl) rfl rfl rfl ?_; clear ha a; intro a ha
  refine sv ha (r_add ha z 128 rfl rfl (by omega)) rfl rfl rfl ?_; clear ha a; intro a ha
  refine sv ha (n_of (r_rem ha (z + 128) 64 rfl rfl (by omega)) (k := ((z + 128) % 64).toNat) (by rw [Int.tmod_eq_emod_of_nonneg (by omega)]; omega)) rfl rfl rfl ?_; clear ha a; intro a ha
  refine sv ha (r_assign ha rfl) rfl rfl rfl ?_; clear ha a; intro a ha
  refine hK8 _ _ ?_; clear hK8 K7
  refine wp_seq_k fun K9 hK10 => ?_
  refine region ?_
  refine sv ha (r_move ha rfl) rfl rfl rfl ?_; clear ha a; intro a ha
  refine sv ha (r_move ha rfl) rfl rfl rfl ?_; clear ha a; intro a ha
  refine sv ha (r_move ha rfl) rfl rfl rfl ?_; clear ha a; intro a ha
  refine sv ha (rn_mul ha 5 (((y + 10) % 5).toNat) rfl rfl (by omega)) rfl rfl rfl ?_; clear ha a; intro a ha
  refine sv ha (rn_add ha (((x + 10) % 5).toNat) (5 * (((y + 10) % 5).toNat)) rfl rfl (by omega)) rfl rfl rfl ?_; clear ha a; intro a ha
  refine sv ha (r_indexS (i := (((x + 10) % 5).toNat) + (5 * (((y + 10) % 5).toNat))) ha Tryd.runUnderlying27 Tryd.sizeOf22 (hs.below hB) (C := (l).map e64) rfl rfl (by rw [List.length_map, hl]; omega)) rfl rfl rfl ?_; clear ha a; intro a ha
  refine sv ha (r_loadS ha rfl Tryd.isAgg22 (hs.below hB) (get_map e64 l 0 ((((x + 10) % 5).toNat) + (5 * (((y + 10) % 5).toNat))) (by rw [hl]; omega))) rfl rfl rfl ?_; clear ha a; intro a ha
  refine sv ha (r_move ha rfl) rfl rfl rfl ?_; clear ha a; intro a ha
  refine sv ha (r_conv_n_u64 ha (((z + 128) % 64).toNat) Tryd.runUnderlying3 Tryd.runUnderlying43 rfl (by omega)) rfl rfl rfl ?_; clear ha a; intro a ha
  refine sv ha (ru_shr ha (l.getD ((((x + 10) % 5).toNat) + (5 * (((y + 10) % 5).toNat))) 0) (((z + 128) % 64).toNat) rfl rfl (by omega)) rfl rfl rfl ?_; clear ha a; intro a ha
  refine sv ha (ru_and ha ((l.getD ((((x + 10) % 5).toNat) + (5 * (((y + 10) % 5).toNat))) 0) >>> UInt64.ofNat (((z + 128) % 64).toNat)) (1) rfl rfl) rfl rfl rfl ?_; clear ha a; intro a ha
  refine sv ha (r_conv_u64_i64 ha (((l.getD ((((x + 10) % 5).toNat) + (5 * (((y + 10) % 5).toNat))) 0) >>> UInt64.ofNat (((z + 128) % 64).toNat)) &&& (1)) Tryd.runUnderlying22 Tryd.runUnderlying3 rfl (by have := bitI_le l x y z; unfold bitI at this; omega)) rfl rfl rfl ?_; clear ha a; intro a ha
  refine sv ha (r_assign ha rfl) rfl rfl rfl ?_; clear ha a; intro a ha
  refine hK10 _ _ ?_; clear hK10 K9
  refine wp_ret ?_
  repeat (first | (with_reducible refine t_ret ?_) | (with_reducible refine x_ret ?_))
  exact ret1 ha Tryd.results33 rfl ⟨rfl, hB⟩

theorem c_put (b : Nat) (l : List UInt64) (x y z : Nat) (w0 : World) (hb : w0.heap[b]? = some (.cells ((l).map e64).toArray 22 (0, 0))) (hl : l.length = 25) (hx : x < 5) (hy : y < 5) (hz : z < 64) :
    Calls Tryd.prog 34 #[.slice (some ⟨b, 0, none⟩) 25 25, en x, en y, en z] w0 fun e w' => e = .returned (.tuple #[]) ∧ w0.grownBy w' (some b) ∧ w'.heap[b]? = some (.cells ((putL l x y z).map e64).toArray 22 (0, 0)) := by
  refine enter (args := [_, _, _, _]) Tryd.func34 rfl Tryd.ntmps34 rfl ?_
  intro a ha
  have hB := grown_refl w0 (some b)
  refine region ?_
  refine sv ha (r_move ha rfl) rfl rfl rfl ?_; clear ha a; intro a ha
  refine sv ha (r_move ha rfl) rfl rfl rfl ?_; clear ha a; intro a ha
  refine sv ha (r_move ha rfl) rfl rfl rfl ?_; clear ha a; intro a ha
  refine sv ha (rn_mul ha 5 y rfl rfl (by omega)) rfl rfl rfl ?_; clear ha a; intro a ha
  refine sv ha (rn_add ha x (5 * y) rfl rfl (by omega)) rfl rfl rfl ?_; clear ha a; intro a ha
  refine sv ha (r_indexB ha (x + (5 * y)) Tryd.runUnderlying27 Tryd.sizeOf22 rfl rfl (by omega)) rfl rfl rfl ?_; clear ha a; intro a ha
  refine sv ha (r_load ha rfl Tryd.isAgg22 (cell_of hb (get_map e64 l 0 (x + (5 * y)) (by rw [hl]; omega)))) rfl rfl rfl ?_; clear ha a; intro a ha
  refine sv ha (r_move ha rfl) rfl rfl rfl ?_; clear ha a; intro a ha
  refine sv ha (r_conv_n_u64 ha z Tryd.runUnderlying3 Tryd.runUnderlying43 rfl (by omega)) rfl rfl rfl ?_; clear ha a; intro a ha
  refine sv ha (ru_shl ha (1) z rfl rfl (by omega)) rfl rfl rfl ?_; clear ha a; intro a ha
  refine sv ha (ru_add ha (l.getD (x + (5 * y)) 0) ((1) <<< UInt64.ofNat z) rfl rfl) rfl rfl rfl ?_; clear ha a; intro a ha
  refine sv ha (r_indexB ha (x + (5 * y)) Tryd.runUnderlying27 Tryd.sizeOf22 rfl rfl (by omega)) rfl rfl rfl ?_; clear ha a; intro a ha
  refine sstore ha (v := e64 ((l.getD (x + (5 * y)) 0) + ((1) <<< UInt64.ofNat z))) rfl rfl rfl rfl Tryd.sizeOf22 hb (by rw [List.length_map, hl]; omega) ?_
  clear ha a; intro a w1 ha hg hb'
  rw [set_map] at hb'
  clear hb; have hb := hb'; clear hb'
  replace hB := keepM1 hg (by omega) hB
  clear hg
  exact end0 ha Tryd.results34 ⟨rfl, hB, hb⟩

theorem c_rTheta (v : Value) (l : List UInt64) (w0 : World) (hs : Sl w0 v (l.map e64)) (hl : l.length = 25) :
    Calls Tryd.prog 16 #[v] w0 fun e w' => ∃ b, e = .returned (.slice (some ⟨b, 0, none⟩) 25 25) ∧ Below w0.heap.size w0 w' ∧ w'.heap[b]? = some (.cells ((rTheta l).map e64).toArray 22 (0, 0)) ∧ w0.heap.size ≤ b := by
  refine enter (args := [_]) Tryd.func16 rfl Tryd.ntmps16 rfl ?_
  intro a ha
  have hB := Below.refl w0.heap.size w0
  refine wp_seq_k fun K1 hK2 => ?_
  refine region ?_
  refine sv ha (r_assign ha rfl) rfl rfl rfl ?_; clear ha a; intro a ha
  refine hK2 _ _ ?_; clear hK2 K1
  refine wp_seq_k fun K3 hK4 => ?_
  refine region ?_
  refine sc ha (r_call ha [] rfl Tryd.call32) rfl rfl rfl (c_lanes  _ ) ?_
  clear ha a
  rintro e w5 ⟨b6, rfl, hBc, hb6, hge6⟩
  have hg := grown_call hBc; clear hBc
  have hz6 : w0.heap.size ≤ b6 := Nat.le_trans hB.size hge6
  replace hB := keepB0 hg hB
  clear hg hge6
  refine ⟨_, rfl, ?_⟩; intro a ha
  refine sv ha (r_assign ha rfl) rfl rfl rfl ?_; clear ha a; intro a ha
  refine hK4 _ _ ?_; clear hK4 K3
  refine wp_seq_k fun K7 hK8 => ?_
  refine wp_seq_k fun K9 hK10 => ?_
  refine region ?_
  refine sv ha (r_assign ha rfl) rfl rfl rfl ?_; clear ha a; intro a ha
  refine hK10 _ _ ?_; clear hK10 K9
  refine wp_block ?_
  refine loopG (fun (x : Nat) a w => (x ≤ 5) ∧ Has 57 [(0, v), (2, .slice none 0 0), (9, .slice (some ⟨b6, 0, none⟩) 25 25), (3, .slice (some ⟨b6, 0, none⟩) 25 25), (4, en x)] a ∧ Below w0.heap.size w0 w ∧ w.heap[b6]? = some (.cells ((thX l x).map e64).toArray 22 (0, 0))) (fun x => 5 - x) 0 ⟨(by omega), ha.to [0, 2, 9, 3, 4] rfl, hB, hb6⟩ ?_
  clear ha a hB hb6
  intro x a w11 ⟨hkx, ha, hB, hb6⟩
  refine wp_seq_k fun K12 hK13 => ?_
  refine wp_seq_k fun K14 hK15 => ?_
  refine region ?_
  refine sv ha (r_move ha rfl) rfl rfl rfl ?_; clear ha a; intro a ha
  refine sv ha (r_lss ha ((x : Nat) : Int) 5 (decide (x < 5)) rfl rfl (decide_eq_decide.2 (by omega))) rfl rfl rfl ?_; clear ha a; intro a ha
  refine hK15 _ _ ?_; clear hK15 K14
  refine cond_if ha rfl (fun hc16 => ?_) (fun hc16 => ?_)
  · skip
    replace hc16 := of_decide_eq_true hc16
    refine wp_skip ?_
    refine hK13 _ _ ?_; clear hK13 K12
    refine wp_seq_k fun K17 hK18 => ?_
    refine wp_block ?_
    refine wp_seq_k fun K19 hK20 => ?_
    refine region ?_
    refine sv ha (r_assign ha rfl) rfl rfl rfl ?_; clear ha a; intro a ha
    refine hK20 _ _ ?_; clear hK20 K19
    refine wp_block ?_
    refine loopG (fun (z : Nat) a w => (z ≤ 64) ∧ Has 57 [(0, v), (2, .slice none 0 0), (9, .slice (some ⟨b6, 0, none⟩) 25 25), (3, .slice (some ⟨b6, 0, none⟩) 25 25), (4, en x), (10, en x), (11, .bool (decide (x < 5))), (5, en z)] a ∧ Below w0.heap.size w0 w ∧ w.heap[b6]? = some (.cells ((thZ l x (thX l x) z).map e64).toArray 22 (0, 0))) (fun z => 64 - z) 0 ⟨(by omega), ha.to [0, 2, 9, 3, 4, 10, 11, 5] rfl, hB, hb6⟩ ?_
    clear ha a hB hb6
    intro z a w21 ⟨hkz, ha, hB, hb6⟩
    refine wp_seq_k fun K22 hK23 => ?_
    refine wp_seq_k fun K24 hK25 => ?_
    refine region ?_
    refine sv ha (r_move ha rfl) rfl rfl rfl ?_; clear ha a; intro a ha
    refine sv ha (r_lss ha ((z : Nat) : Int) 64 (decide (z < 64)) rfl rfl (decide_eq_decide.2 (by omega))) rfl rfl rfl ?_; clear ha a; intro a ha
    refine hK25 _ _ ?_; clear hK25 K24
    refine cond_if ha rfl (fun hc26 => ?_) (fun hc26 => ?_)
    · skip
      replace hc26 := of_decide_eq_true hc26
      refine wp_skip ?_
      refine hK23 _ _ ?_; clear hK23 K22
      refine wp_seq_k fun K27 hK28 => ?_
      refine wp_block ?_
      refine wp_seq_k fun K29 hK30 => ?_
      refine region ?_
      refine sv ha (r_assign ha rfl) rfl rfl rfl ?_; clear ha a; intro a ha
      refine hK30 _ _ ?_; clear hK30 K29
      refine wp_seq_k fun K31 hK32 => ?_
      refine wp_seq_k fun K33 hK34 => ?_
      refine region ?_
      refine sv ha (r_assign ha rfl) rfl rfl rfl ?_; clear ha a; intro a ha
      refine hK34 _ _ ?_; clear hK34 K33
      refine wp_block ?_
      refine loopG (fun (y : Nat) a w => (y ≤ 5) ∧ Has 57 [(0, v), (2, .slice none 0 0), (9, .slice (some ⟨b6, 0, none⟩) 25 25), (3, .slice (some ⟨b6, 0, none⟩) 25 25), (4, en x), (10, en x), (11, .bool (decide (x < 5))), (5, en z), (14, en z), (15, .bool (decide (z < 64))), (7, en y), (6, en (thN l x z y))] a ∧ Below w0.heap.size w0 w ∧ w.heap[b6]? = some (.cells ((thZ l x (thX l x) z).map e64).toArray 22 (0, 0))) (fun y => 5 - y) 0 ⟨(by omega), ha.to [0, 2, 9, 3, 4, 10, 11, 5, 14, 15, 7, 6] rfl, hB, hb6⟩ ?_
      clear ha a hB hb6
      intro y a w35 ⟨hky, ha, hB, hb6⟩
      have hn := thN_le l x z y
      have hi1 := bitI_le l (((x : Nat) : Int) - 1) ((y : Nat) : Int) ((z : Nat) : Int)
      have hi2 := bitI_le l ((x + 1 : Nat) : Int) ((y : Nat) : Int) (((z : Nat) : Int) - 1)
      refine wp_seq_k fun K36 hK37 => ?_
      refine wp_seq_k fun K38 hK39 => ?_
      refine region ?_
      refine sv ha (r_move ha rfl) rfl rfl rfl ?_; clear ha a; intro a ha
      refine sv ha (r_lss ha ((y : Nat) : Int) 5 (decide (y < 5)) rfl rfl (decide_eq_decide.2 (by omega))) rfl rfl rfl ?_; clear ha a; intro a ha
      refine hK39 _ _ ?_; clear hK39 K38
      refine cond_if ha rfl (fun hc40 => ?_) (fun hc40 => ?_)
      · skip
        replace hc40 := of_decide_eq_true hc40
        refine wp_skip ?_
        refine hK37 _ _ ?_; clear hK37 K36
        refine wp_seq_k fun K41 hK42 => ?_
        refine wp_block ?_
        refine region ?_
        refine sv ha (r_move ha rfl) rfl rfl rfl ?_; clear ha a; intro a ha
        refine sv ha (r_move ha rfl) rfl rfl rfl ?_; clear ha a; intro a ha
        refine sv ha (r_move ha rfl) rfl rfl rfl ?_; clear ha a; intro a ha
        refine sv ha (r_sub ha ((x : Nat) : Int) 1 rfl rfl (by omega)) rfl rfl rfl ?_; clear ha a; intro a ha
        refine sv ha (r_move ha rfl) rfl rfl rfl ?_; clear ha a; intro a ha
        refine sv ha (r_move ha rfl) rfl rfl rfl ?_; clear ha a; intro a ha
        refine sc ha (r_call ha [v, ei (((x : Nat) : Int) - 1), ei ((y : Nat) : Int), ei ((z : Nat) : Int)] rfl Tryd.call33) rfl rfl rfl (c_bit v l (((x : Nat) : Int) - 1) ((y : Nat) : Int) ((z : Nat) : Int) _ (hs.below hB) (by rw [hl]) (by omega) (by omega) (by omega)) ?_
        clear ha a
        rintro e w43 ⟨rfl, hBc⟩
        have hg := grown_call hBc; clear hBc
        replace hB := keepB0 hg hB
        replace hb6 := keepO0 hg hb6
        clear hg
        refine ⟨_, rfl, ?_⟩; intro a ha
        refine sv ha (r_move ha rfl) rfl rfl rfl ?_; clear ha a; intro a ha
        refine sv ha (r_move ha rfl) rfl rfl rfl ?_; clear ha a; intro a ha
        refine sv ha (rn_add ha x 1 rfl rfl (by omega)) rfl rfl rfl ?_; clear ha a; intro a ha
        refine sv ha (r_move ha rfl) rfl rfl rfl ?_; clear ha a; intro a ha
        refine sv ha (r_move ha rfl) rfl rfl rfl ?_; clear ha a; intro a ha
        refine sv ha (r_sub ha ((z : Nat) : Int) 1 rfl rfl (by omega)) rfl rfl rfl ?_; clear ha a; intro a ha
        refine sc ha (r_call ha [v, ei ((x + 1 : Nat) : Int), ei ((y : Nat) : Int), ei (((z : Nat) : Int) - 1)] rfl Tryd.call33) rfl rfl rfl (c_bit v l ((x + 1 : Nat) : Int) ((y : Nat) : Int) (((z : Nat) : Int) - 1) _ (hs.below hB) (by rw [hl]) (by omega) (by omega) (by omega)) ?_
        clear ha a
        rintro e w44 ⟨rfl, hBc⟩
        have hg := grown_call hBc; clear hBc
        replace hB := keepB0 hg hB
        replace hb6 := keepO0 hg hb6
        clear hg
        refine ⟨_, rfl, ?_⟩; intro a ha
        refine sv ha (rn_add ha (bitI l (((x : Nat) : Int) - 1) ((y : Nat) : Int) ((z : Nat) : Int)) (bitI l ((x + 1 : Nat) : Int) ((y : Nat) : Int) (((z : Nat) : Int) - 1)) rfl rfl (by omega)) rfl rfl rfl ?_; clear ha a; intro a ha
        refine sv ha (rn_add ha (thN l x z y) ((bitI l (((x : Nat) : Int) - 1) ((y : Nat) : Int) ((z : Nat) : Int)) + (bitI l ((x + 1 : Nat) : Int) ((y : Nat) : Int) (((z : Nat) : Int) - 1))) rfl rfl (by omega)) rfl rfl rfl ?_; clear ha a; intro a ha
        refine sv ha (r_assign ha rfl) rfl rfl rfl ?_; clear ha a; intro a ha
        refine hK42 _ _ ?_; clear hK42 K41
        refine region ?_
        refine sv ha (r_move ha rfl) rfl rfl rfl ?_; clear ha a; intro a ha
        refine sv ha (rn_add ha y 1 rfl rfl (by omega)) rfl rfl rfl ?_; clear ha a; intro a ha
        refine sv ha (r_assign ha rfl) rfl rfl rfl ?_; clear ha a; intro a ha
        exact ⟨y + 1, by omega, (by omega), ha.to [0, 2, 9, 3, 4, 10, 11, 5, 14, 15, 7, 6] rfl, hB, hb6⟩
      · skip
        replace hc40 := of_decide_eq_false hc40
        refine wp_exit ?_
        obtain rfl : y = 5 := by omega
        refine hK32 _ _ ?_; clear hK37 K36 hK32 K31
        refine wp_seq_k fun K45 hK46 => ?_
        refine region ?_
        refine sv ha (r_assign ha rfl) rfl rfl rfl ?_; clear ha a; intro a ha
        refine hK46 _ _ ?_; clear hK46 K45
        refine wp_block ?_
        refine loopG (fun (y : Nat) a w => (y ≤ 5) ∧ Has 57 [(0, v), (2, .slice none 0 0), (9, .slice (some ⟨b6, 0, none⟩) 25 25), (3, .slice (some ⟨b6, 0, none⟩) 25 25), (4, en x), (10, en x), (11, .bool (decide (x < 5))), (5, en z), (14, en z), (15, .bool (decide (z < 64))), (7, en 5), (6, en (thN l x z 5)), (18, en 5), (19, .bool (decide (5 < 5))), (8, en y)] a ∧ Below w0.heap.size w0 w ∧ w.heap[b6]? = some (.cells ((thO l x z (thZ l x (thX l x) z) y).map e64).toArray 22 (0, 0))) (fun y => 5 - y) 0 ⟨(by omega), ha.to [0, 2, 9, 3, 4, 10, 11, 5, 14, 15, 7, 6, 18, 19, 8] rfl, hB, hb6⟩ ?_
        clear ha a hB hb6
        intro y a w47 ⟨hky, ha, hB, hb6⟩
        have hn := thN_le l x z 5
        have hi1 := bitI_le l ((x : Nat) : Int) ((y : Nat) : Int) ((z : Nat) : Int)
        refine wp_seq_k fun K48 hK49 => ?_
        refine wp_seq_k fun K50 hK51 => ?_
        refine region ?_
        refine sv ha (r_move ha rfl) rfl rfl rfl ?_; clear ha a; intro a ha
        refine sv ha (r_lss ha ((y : Nat) : Int) 5 (decide (y < 5)) rfl rfl (decide_eq_decide.2 (by omega))) rfl rfl rfl ?_; clear ha a; intro a ha
        refine hK51 _ _ ?_; clear hK51 K50
        refine cond_if ha rfl (fun hc52 => ?_) (fun hc52 => ?_)
        · skip
          replace hc52 := of_decide_eq_true hc52
          refine wp_skip ?_
          refine hK49 _ _ ?_; clear hK49 K48
          refine wp_seq_k fun K53 hK54 => ?_
          refine wp_block ?_
          refine wp_seq_k fun K55 hK56 => ?_
          refine region ?_
          refine sv ha (r_move ha rfl) rfl rfl rfl ?_; clear ha a; intro a ha
          refine sv ha (r_move ha rfl) rfl rfl rfl ?_; clear ha a; intro a ha
          refine sv ha (r_move ha rfl) rfl rfl rfl ?_; clear ha a; intro a ha
          refine sv ha (r_move ha rfl) rfl rfl rfl ?_; clear ha a; intro a ha
          refine sv ha (r_move ha rfl) rfl rfl rfl ?_; clear ha a; intro a ha
          refine sc ha (r_call ha [v, ei ((x : Nat) : Int), ei ((y : Nat) : Int), ei ((z : Nat) : Int)] rfl Tryd.call33) rfl rfl rfl (c_bit v l ((x : Nat) : Int) ((y : Nat) : Int) ((z : Nat) : Int) _ (hs.below hB) (by rw [hl]) (by omega) (by omega) (by omega)) ?_
          clear ha a
          rintro e w57 ⟨rfl, hBc⟩
          have hg := grown_call hBc; clear hBc
          replace hB := keepB0 hg hB
          replace hb6 := keepO0 hg hb6
          clear hg
          refine ⟨_, rfl, ?_⟩; intro a ha
          refine sv ha (rn_add ha (thN l x z 5) (bitI l ((x : Nat) : Int) ((y : Nat) : Int) ((z : Nat) : Int)) rfl rfl (by omega)) rfl rfl rfl ?_; clear ha a; intro a ha
          refine sv ha (rn_rem ha ((thN l x z 5) + (bitI l ((x : Nat) : Int) ((y : Nat) : Int) ((z : Nat) : Int))) 2 rfl rfl (by omega)) rfl rfl rfl ?_; clear ha a; intro a ha
          refine sv ha (r_eql ha ((((thN l x z 5) + (bitI l ((x : Nat) : Int) ((y : Nat) : Int) ((z : Nat) : Int))) % 2 : Nat) : Int) 1 (decide (((thN l x z 5) + (bitI l ((x : Nat) : Int) ((y : Nat) : Int) ((z : Nat) : Int))) % 2 = 1)) rfl rfl (decide_eq_decide.2 (by omega))) rfl rfl rfl ?_; clear ha a; intro a ha
          refine hK56 _ _ ?_; clear hK56 K55
          refine cond_if ha rfl (fun hc58 => ?_) (fun hc58 => ?_)
          · skip
            replace hc58 := of_decide_eq_true hc58
            refine region ?_
            refine sv ha (r_move ha rfl) rfl rfl rfl ?_; clear ha a; intro a ha
            refine sv ha (r_move ha rfl) rfl rfl rfl ?_; clear ha a; intro a ha
            refine sv ha (r_move ha rfl) rfl rfl rfl ?_; clear ha a; intro a ha
            refine sv ha (r_move ha rfl) rfl rfl rfl ?_; clear ha a; intro a ha
            refine sc ha (r_call ha [.slice (some ⟨b6, 0, none⟩) 25 25, en x, en y, en z] rfl Tryd.call34) rfl rfl rfl (c_put b6 (thO l x z (thZ l x (thX l x) z) y) x y z _ hb6 (by rw [thO_len, thZ_len, thX_len]) (by omega) (by omega) (by omega)) ?_
            clear ha a
            rintro e w59 ⟨rfl, hg, hb6'⟩
            clear hb6; have hb6 := hb6'; clear hb6'
            replace hB := keepB1 hg (by omega) hB
            clear hg
            refine ⟨_, rfl, ?_⟩; intro a ha
            refine hK54 _ _ ?_; clear hK54 K53
            refine region ?_
            refine sv ha (r_move ha rfl) rfl rfl rfl ?_; clear ha a; intro a ha
            refine sv ha (rn_add ha y 1 rfl rfl (by omega)) rfl rfl rfl ?_; clear ha a; intro a ha
            refine sv ha (r_assign ha rfl) rfl rfl rfl ?_; clear ha a; intro a ha
            exact ⟨y + 1, by omega, (by omega), ha.to [0, 2, 9, 3, 4, 10, 11, 5, 14, 15, 7, 6, 18, 19, 8] rfl, hB, (by simp only [thO]; first | (rw [if_pos (by assumption)]; exact hb6) | (rw [if_neg (by assumption)]; exact hb6))⟩
          · skip
            replace hc58 := of_decide_eq_false hc58
            refine wp_skip ?_
            refine hK54 _ _ ?_; clear hK54 K53
            refine region ?_
            refine sv ha (r_move ha rfl) rfl rfl rfl ?_; clear ha a; intro a ha
            refine sv ha (rn_add ha y 1 rfl rfl (by omega)) rfl rfl rfl ?_; clear ha a; intro a ha
            refine sv ha (r_assign ha rfl) rfl rfl rfl ?_; clear ha a; intro a ha
            exact ⟨y + 1, by omega, (by omega), ha.to [0, 2, 9, 3, 4, 10, 11, 5, 14, 15, 7, 6, 18, 19, 8] rfl, hB, (by simp only [thO]; first | (rw [if_pos (by assumption)]; exact hb6) | (rw [if_neg (by assumption)]; exact hb6))⟩
        · skip
          replace hc52 := of_decide_eq_false hc52
          refine wp_exit ?_
          obtain rfl : y = 5 := by omega
          refine hK28 _ _ ?_; clear hK49 K48 hK28 K27
          refine region ?_
          refine sv ha (r_move ha rfl) rfl rfl rfl ?_; clear ha a; intro a ha
          refine sv ha (rn_add ha z 1 rfl rfl (by omega)) rfl rfl rfl ?_; clear ha a; intro a ha
          refine sv ha (r_assign ha rfl) rfl rfl rfl ?_; clear ha a; intro a ha
          exact ⟨z + 1, by omega, (by omega), ha.to [0, 2, 9, 3, 4, 10, 11, 5] rfl, hB, hb6⟩
    · skip
      replace hc26 := of_decide_eq_false hc26
      refine wp_exit ?_
      obtain rfl : z = 64 := by omega
      refine hK18 _ _ ?_; clear hK23 K22 hK18 K17
      refine region ?_
      refine sv ha (r_move ha rfl) rfl rfl rfl ?_; clear ha a; intro a ha
      refine sv ha (rn_add ha x 1 rfl rfl (by omega)) rfl rfl rfl ?_; clear ha a; intro a ha
      refine sv ha (r_assign ha rfl) rfl rfl rfl ?_; clear ha a; intro a ha
      exact ⟨x + 1, by omega, (by omega), ha.to [0, 2, 9, 3, 4] rfl, hB, hb6⟩
  · skip
    replace hc16 := of_decide_eq_false hc16
    refine wp_exit ?_
    obtain rfl : x = 5 := by omega
    refine hK8 _ _ ?_; clear hK13 K12 hK8 K7
    refine wp_seq_k fun K60 hK61 => ?_
    refine region ?_
    refine sv ha (r_move ha rfl) rfl rfl rfl ?_; clear ha a; intro a ha
    refine sv ha (r_assign ha rfl) rfl rfl rfl ?_; clear ha a; intro a ha
    refine hK61 _ _ ?_; clear hK61 K60
    refine wp_ret ?_
    repeat (first | (with_reducible refine t_ret ?_) | (with_reducible refine x_ret ?_))
    exact ret1 ha Tryd.results16 rfl ⟨_, rfl, hB, hb6, hz6⟩

theorem c_rRho (v : Value) (l : List UInt64) (w0 : World) (hs : Sl w0 v (l.map e64)) (hl : l.length = 25) :
    Calls Tryd.prog 18 #[v] w0 fun e w' => ∃ b, e = .returned (.slice (some ⟨b, 0, none⟩) 25 25) ∧ Below w0.heap.size w0 w' ∧ w'.heap[b]? = some (.cells ((rRho l).map e64).toArray 22 (0, 0)) ∧ w0.heap.size ≤ b := by
  refine enter (args := [_]) Tryd.func18 rfl Tryd.ntmps18 rfl ?_
  intro a ha
  have hB := Below.refl w0.heap.size w0
  refine wp_seq_k fun K1 hK2 => ?_
  refine region ?_
  refine sv ha (r_assign ha rfl) rfl rfl rfl ?_; clear ha a; intro a ha
  refine hK2 _ _ ?_; clear hK2 K1
  refine wp_seq_k fun K3 hK4 => ?_
  refine region ?_
  refine sc ha (r_call ha [] rfl Tryd.call32) rfl rfl rfl (c_lanes  _ ) ?_
  clear ha a
  rintro e w5 ⟨b6, rfl, hBc, hb6, hge6⟩
  have hg := grown_call hBc; clear hBc
  have hz6 : w0.heap.size ≤ b6 := Nat.le_trans hB.size hge6
  replace hB := keepB0 hg hB
  clear hg hge6
  refine ⟨_, rfl, ?_⟩; intro a ha
  refine sv ha (r_assign ha rfl) rfl rfl rfl ?_; clear ha a; intro a ha
  refine hK4 _ _ ?_; clear hK4 K3
  refine wp_seq_k fun K7 hK8 => ?_
  refine region ?_
  refine sv ha (r_move ha rfl) rfl rfl rfl ?_; clear ha a; intro a ha
  refine sv ha (r_move ha rfl) rfl rfl rfl ?_; clear ha a; intro a ha
  refine sv ha (r_indexS (i := 0) ha Tryd.runUnderlying27 Tryd.sizeOf22 (hs.below hB) (C := (l).map e64) rfl rfl (by rw [List.length_map, hl]; omega)) rfl rfl rfl ?_; clear ha a; intro a ha
  refine sv ha (r_loadS ha rfl Tryd.isAgg22 (hs.below hB) (get_map e64 l 0 0 (by rw [hl]; omega))) rfl rfl rfl ?_; clear ha a; intro a ha
  refine sv ha (r_indexB ha 0 Tryd.runUnderlying27 Tryd.sizeOf22 rfl rfl (by omega)) rfl rfl rfl ?_; clear ha a; intro a ha
  refine sstore ha (v := e64 (l.getD 0 0)) rfl rfl rfl rfl Tryd.sizeOf22 hb6 (by rw [List.length_map, List.length_replicate]; omega) ?_
  clear ha a; intro a w9 ha hg hb6'
  rw [set_map] at hb6'
  clear hb6; have hb6 := hb6'; clear hb6'
  replace hB := keepB1 hg (by omega) hB
  clear hg
  refine hK8 _ _ ?_; clear hK8 K7
  refine wp_seq_k fun K10 hK11 => ?_
  refine region ?_
  refine sv ha (r_assign ha rfl) rfl rfl rfl ?_; clear ha a; intro a ha
  refine hK11 _ _ ?_; clear hK11 K10
  refine wp_seq_k fun K12 hK13 => ?_
  refine region ?_
  refine sv ha (r_assign ha rfl) rfl rfl rfl ?_; clear ha a; intro a ha
  refine hK13 _ _ ?_; clear hK13 K12
  refine wp_seq_k fun K14 hK15 => ?_
  refine wp_seq_k fun K16 hK17 => ?_
  refine region ?_
  refine sv ha (r_assign ha rfl) rfl rfl rfl ?_; clear ha a; intro a ha
  refine hK17 _ _ ?_; clear hK17 K16
  refine wp_block ?_
  refine loopG (fun (t : Nat) a w => (t ≤ 24) ∧ Has 54 [(0, v), (2, .slice none 0 0), (10, .slice (some ⟨b6, 0, none⟩) 25 25), (3, .slice (some ⟨b6, 0, none⟩) 25 25), (11, .slice (some ⟨b6, 0, none⟩) 25 25), (12, v), (13, ptrOf v 0), (14, e64 (l.getD 0 0)), (15, .pointer (some ⟨b6, 0, none⟩)), (6, en t), (4, en ((rhXY t).1)), (5, en ((rhXY t).2))] a ∧ Below w0.heap.size w0 w ∧ w.heap[b6]? = some (.cells ((rhT l t).map e64).toArray 22 (0, 0))) (fun t => 24 - t) 0 ⟨(by omega), ha.to [0, 2, 10, 3, 11, 12, 13, 14, 15, 6, 4, 5] rfl, hB, hb6⟩ ?_
  clear ha a hB hb6
  intro t a w18 ⟨hkt, ha, hB, hb6⟩
  have hxy := rhXY_lt t
  have hmul : (t + 1) * (t + 2) ≤ 25 * 26 := Nat.mul_le_mul (by omega) (by omega)
  refine wp_seq_k fun K19 hK20 => ?_
  refine wp_seq_k fun K21 hK22 => ?_
  refine region ?_
  refine sv ha (r_move ha rfl) rfl rfl rfl ?_; clear ha a; intro a ha
  refine sv ha (r_lss ha ((t : Nat) : Int) 24 (decide (t < 24)) rfl rfl (decide_eq_decide.2 (by omega))) rfl rfl rfl ?_; clear ha a; intro a ha
  refine hK22 _ _ ?_; clear hK22 K21
  refine cond_if ha rfl (fun hc23 => ?_) (fun hc23 => ?_)
  · skip
    replace hc23 := of_decide_eq_true hc23
    refine wp_skip ?_
    refine hK20 _ _ ?_; clear hK20 K19
    refine wp_seq_k fun K24 hK25 => ?_
    refine wp_block ?_
    refine wp_seq_k fun K26 hK27 => ?_
    refine region ?_
    refine sv ha (r_move ha rfl) rfl rfl rfl ?_; clear ha a; intro a ha
    refine sv ha (rn_add ha t 1 rfl rfl (by omega)) rfl rfl rfl ?_; clear ha a; intro a ha
    refine sv ha (r_move ha rfl) rfl rfl rfl ?_; clear ha a; intro a ha
    refine sv ha (rn_add ha t 2 rfl rfl (by omega)) rfl rfl rfl ?_; clear ha a; intro a ha
    refine sv ha (rn_mul ha (t + 1) (t + 2) rfl rfl (by omega)) rfl rfl rfl ?_; clear ha a; intro a ha
    refine sv ha (rn_quo ha ((t + 1) * (t + 2)) 2 rfl rfl (by omega) (by omega)) rfl rfl rfl ?_; clear ha a; intro a ha
    refine sv ha (rn_rem ha (((t + 1) * (t + 2)) / 2) 64 rfl rfl (by omega)) rfl rfl rfl ?_; clear ha a; intro a ha
    refine sv ha (r_assign ha rfl) rfl rfl rfl ?_; clear ha a; intro a ha
    refine hK27 _ _ ?_; clear hK27 K26
    refine wp_seq_k fun K28 hK29 => ?_
    refine wp_seq_k fun K30 hK31 => ?_
    refine region ?_
    refine sv ha (r_assign ha rfl) rfl rfl rfl ?_; clear ha a; intro a ha
    refine hK31 _ _ ?_; clear hK31 K30
    refine wp_block ?_
    refine loopG (fun (z : Nat) a w => (z ≤ 64) ∧ Has 54 [(0, v), (2, .slice none 0 0), (10, .slice (some ⟨b6, 0, none⟩) 25 25), (3, .slice (some ⟨b6, 0, none⟩) 25 25), (11, .slice (some ⟨b6, 0, none⟩) 25 25), (12, v), (13, ptrOf v 0), (14, e64 (l.getD 0 0)), (15, .pointer (some ⟨b6, 0, none⟩)), (6, en t), (4, en ((rhXY t).1)), (5, en ((rhXY t).2)), (16, en t), (17, .bool (decide (t < 24))), (20, en t), (21, en (t + 1)), (22, en t), (23, en (t + 2)), (24, en ((t + 1) * (t + 2))), (25, en (((t + 1) * (t + 2)) / 2)), (26, en ((((t + 1) * (t + 2)) / 2) % 64)), (7, en ((((t + 1) * (t + 2)) / 2) % 64)), (8, en z)] a ∧ Below w0.heap.size w0 w ∧ w.heap[b6]? = some (.cells ((rhZ l (rhXY t).1 (rhXY t).2 (rhBy t) (rhT l t) z).map e64).toArray 22 (0, 0))) (fun z => 64 - z) 0 ⟨(by omega), ha.to [0, 2, 10, 3, 11, 12, 13, 14, 15, 6, 4, 5, 16, 17, 20, 21, 22, 23, 24, 25, 26, 7, 8] rfl, hB, hb6⟩ ?_
    clear ha a hB hb6
    intro z a w32 ⟨hkz, ha, hB, hb6⟩
    refine wp_seq_k fun K33 hK34 => ?_
    refine wp_seq_k fun K35 hK36 => ?_
    refine region ?_
    refine sv ha (r_move ha rfl) rfl rfl rfl ?_; clear ha a; intro a ha
    refine sv ha (r_lss ha ((z : Nat) : Int) 64 (decide (z < 64)) rfl rfl (decide_eq_decide.2 (by omega))) rfl rfl rfl ?_; clear ha a; intro a ha
    refine hK36 _ _ ?_; clear hK36 K35
    refine cond_if ha rfl (fun hc37 => ?_) (fun hc37 => ?_)
    · skip
      replace hc37 := of_decide_eq_true hc37
      refine wp_skip ?_
      refine hK34 _ _ ?_; clear hK34 K33
      refine wp_seq_k fun K38 hK39 => ?_
      refine wp_block ?_
      refine wp_seq_k fun K40 hK41 => ?_
      refine region ?_
      refine sv ha (r_move ha rfl) rfl rfl rfl ?_; clear ha a; intro a ha
      refine sv ha (r_move ha rfl) rfl rfl rfl ?_; clear ha a; intro a ha
      refine sv ha (r_move ha rfl) rfl rfl rfl ?_; clear ha a; intro a ha
      refine sv ha (r_move ha rfl) rfl rfl rfl ?_; clear ha a; intro a ha
      refine sc ha (r_call ha [v, ei (((rhXY t).1 : Nat) : Int), ei (((rhXY t).2 : Nat) : Int), ei ((z : Nat) : Int)] rfl Tryd.call33) rfl rfl rfl (c_bit v l (((rhXY t).1 : Nat) : Int) (((rhXY t).2 : Nat) : Int) ((z : Nat) : Int) _ (hs.below hB) (by rw [hl]) (by omega) (by omega) (by omega)) ?_
      clear ha a
      rintro e w42 ⟨rfl, hBc⟩
      have hg := grown_call hBc; clear hBc
      replace hB := keepB0 hg hB
      replace hb6 := keepO0 hg hb6
      clear hg
      refine ⟨_, rfl, ?_⟩; intro a ha
      refine sv ha (r_eql ha ((bitI l (((rhXY t).1 : Nat) : Int) (((rhXY t).2 : Nat) : Int) ((z : Nat) : Int) : Nat) : Int) 1 (decide (bitI l (((rhXY t).1 : Nat) : Int) (((rhXY t).2 : Nat) : Int) ((z : Nat) : Int) = 1)) rfl rfl (decide_eq_decide.2 (by omega))) rfl rfl rfl ?_; clear ha a; intro a ha
      refine hK41 _ _ ?_; clear hK41 K40
      refine cond_if ha rfl (fun hc43 => ?_) (fun hc43 => ?_)
      · skip
        replace hc43 := of_decide_eq_true hc43
        refine region ?_
        refine sv ha (r_move ha rfl) rfl rfl rfl ?_; clear ha a; intro a ha
        refine sv ha (r_move ha rfl) rfl rfl rfl ?_; clear ha a; intro a ha
        refine sv ha (r_move ha rfl) rfl rfl rfl ?_; clear ha a; intro a ha
        refine sv ha (r_move ha rfl) rfl rfl rfl ?_; clear ha a; intro a ha
        refine sv ha (r_move ha rfl) rfl rfl rfl ?_; clear ha a; intro a ha
        refine sv ha (rn_add ha z ((((t + 1) * (t + 2)) / 2) % 64) rfl rfl (by omega)) rfl rfl rfl ?_; clear ha a; intro a ha
        refine sv ha (rn_rem ha (z + ((((t + 1) * (t + 2)) / 2) % 64)) 64 rfl rfl (by omega)) rfl rfl rfl ?_; clear ha a; intro a ha
        refine sc ha (r_call ha [.slice (some ⟨b6, 0, none⟩) 25 25, en ((rhXY t).1), en ((rhXY t).2), en ((z + ((((t + 1) * (t + 2)) / 2) % 64)) % 64)] rfl Tryd.call34) rfl rfl rfl (c_put b6 (rhZ l (rhXY t).1 (rhXY t).2 (rhBy t) (rhT l t) z) ((rhXY t).1) ((rhXY t).2) ((z + ((((t + 1) * (t + 2)) / 2) % 64)) % 64) _ hb6 (by rw [rhZ_len, rhT_len]) (by omega) (by omega) (by omega)) ?_
        clear ha a
        rintro e w44 ⟨rfl, hg, hb6'⟩
        clear hb6; have hb6 := hb6'; clear hb6'
        replace hB := keepB1 hg (by omega) hB
        clear hg
        refine ⟨_, rfl, ?_⟩; intro a ha
        refine hK39 _ _ ?_; clear hK39 K38
        refine region ?_
        refine sv ha (r_move ha rfl) rfl rfl rfl ?_; clear ha a; intro a ha
        refine sv ha (rn_add ha z 1 rfl rfl (by omega)) rfl rfl rfl ?_; clear ha a; intro a ha
        refine sv ha (r_assign ha rfl) rfl rfl rfl ?_; clear ha a; intro a ha
        exact ⟨z + 1, by omega, (by omega), ha.to [0, 2, 10, 3, 11, 12, 13, 14, 15, 6, 4, 5, 16, 17, 20, 21, 22, 23, 24, 25, 26, 7, 8] rfl, hB, (by simp only [rhZ]; first | (rw [if_pos (by assumption)]; exact hb6) | (rw [if_neg (by assumption)]; exact hb6))⟩
      · skip
        replace hc43 := of_decide_eq_false hc43
        refine wp_skip ?_
        refine hK39 _ _ ?_; clear hK39 K38
        refine region ?_
        refine sv ha (r_move ha rfl) rfl rfl rfl ?_; clear ha a; intro a ha
        refine sv ha (rn_add ha z 1 rfl rfl (by omega)) rfl rfl rfl ?_; clear ha a; intro a ha
        refine sv ha (r_assign ha rfl) rfl rfl rfl ?_; clear ha a; intro a ha
        exact ⟨z + 1, by omega, (by omega), ha.to [0, 2, 10, 3, 11, 12, 13, 14, 15, 6, 4, 5, 16, 17, 20, 21, 22, 23, 24, 25, 26, 7, 8] rfl, hB, (by simp only [rhZ]; first | (rw [if_pos (by assumption)]; exact hb6) | (rw [if_neg (by assumption)]; exact hb6))⟩
    · skip
      replace hc37 := of_decide_eq_false hc37
      refine wp_exit ?_
      obtain rfl : z = 64 := by omega
      refine hK29 _ _ ?_; clear hK34 K33 hK29 K28
      refine wp_seq_k fun K45 hK46 => ?_
      refine region ?_
      refine sv ha (r_move ha rfl) rfl rfl rfl ?_; clear ha a; intro a ha
      refine sv ha (r_assign ha rfl) rfl rfl rfl ?_; clear ha a; intro a ha
      refine hK46 _ _ ?_; clear hK46 K45
      refine wp_seq_k fun K47 hK48 => ?_
      refine region ?_
      refine sv ha (r_move ha rfl) rfl rfl rfl ?_; clear ha a; intro a ha
      refine sv ha (rn_mul ha 2 ((rhXY t).1) rfl rfl (by omega)) rfl rfl rfl ?_; clear ha a; intro a ha
      refine sv ha (r_move ha rfl) rfl rfl rfl ?_; clear ha a; intro a ha
      refine sv ha (rn_mul ha 3 ((rhXY t).2) rfl rfl (by omega)) rfl rfl rfl ?_; clear ha a; intro a ha
      refine sv ha (rn_add ha (2 * ((rhXY t).1)) (3 * ((rhXY t).2)) rfl rfl (by omega)) rfl rfl rfl ?_; clear ha a; intro a ha
      refine sv ha (rn_rem ha ((2 * ((rhXY t).1)) + (3 * ((rhXY t).2))) 5 rfl rfl (by omega)) rfl rfl rfl ?_; clear ha a; intro a ha
      refine sv ha (r_assign ha rfl) rfl rfl rfl ?_; clear ha a; intro a ha
      refine hK48 _ _ ?_; clear hK48 K47
      refine region ?_
      refine sv ha (r_move ha rfl) rfl rfl rfl ?_; clear ha a; intro a ha
      refine sv ha (r_assign ha rfl) rfl rfl rfl ?_; clear ha a; intro a ha
      refine hK25 _ _ ?_; clear hK25 K24
      refine region ?_
      refine sv ha (r_move ha rfl) rfl rfl rfl ?_; clear ha a; intro a ha
      refine sv ha (rn_add ha t 1 rfl rfl (by omega)) rfl rfl rfl ?_; clear ha a; intro a ha
      refine sv ha (r_assign ha rfl) rfl rfl rfl ?_; clear ha a; intro a ha
      exact ⟨t + 1, by omega, (by omega), ha.to [0, 2, 10, 3, 11, 12, 13, 14, 15, 6, 4, 5] rfl, hB, hb6⟩
  · skip
    replace hc23 := of_decide_eq_false hc23
    refine wp_exit ?_
    obtain rfl : t = 24 := by omega
    refine hK15 _ _ ?_; clear hK20 K19 hK15 K14
    refine wp_seq_k fun K49 hK50 => ?_
    refine region ?_
    refine sv ha (r_move ha rfl) rfl rfl rfl ?_; clear ha a; intro a ha
    refine sv ha (r_assign ha rfl) rfl rfl rfl ?_; clear ha a; intro a ha
    refine hK50 _ _ ?_; clear hK50 K49
    refine wp_ret ?_
    repeat (first | (with_reducible refine t_ret ?_) | (with_reducible refine x_ret ?_))
    exact ret1 ha Tryd.results18 rfl ⟨_, rfl, hB, hb6, hz6⟩

theorem c_rPi (v : Value) (l : List UInt64) (w0 : World) (hs : Sl w0 v (l.map e64)) (hl : l.length = 25) :
    Calls Tryd.prog 20 #[v] w0 fun e w' => ∃ b, e = .returned (.slice (some ⟨b, 0, none⟩) 25 25) ∧ Below w0.heap.size w0 w' ∧ w'.heap[b]? = some (.cells ((rPi l).map e64).toArray 22 (0, 0)) ∧ w0.heap.size ≤ b := by
  refine enter (args := [_]) Tryd.func20 rfl Tryd.ntmps20 rfl ?_
  intro a ha
  have hB := Below.refl w0.heap.size w0
  refine wp_seq_k fun K1 hK2 => ?_
  refine region ?_
  refine sv ha (r_assign ha rfl) rfl rfl rfl ?_; clear ha a; intro a ha
  refine hK2 _ _ ?_; clear hK2 K1
  refine wp_seq_k fun K3 hK4 => ?_
  refine region ?_
  refine sc ha (r_call ha [] rfl Tryd.call32) rfl rfl rfl (c_lanes  _ ) ?_
  clear ha a
  rintro e w5 ⟨b6, rfl, hBc, hb6, hge6⟩
  have hg := grown_call hBc; clear hBc
  have hz6 : w0.heap.size ≤ b6 := Nat.le_trans hB.size hge6
  replace hB := keepB0 hg hB
  clear hg hge6
  refine ⟨_, rfl, ?_⟩; intro a ha
  refine sv ha (r_assign ha rfl) rfl rfl rfl ?_; clear ha a; intro a ha
  refine hK4 _ _ ?_; clear hK4 K3
  refine wp_seq_k fun K7 hK8 => ?_
  refine wp_seq_k fun K9 hK10 => ?_
  refine region ?_
  refine sv ha (r_assign ha rfl) rfl rfl rfl ?_; clear ha a; intro a ha
  refine hK10 _ _ ?_; clear hK10 K9
  refine wp_block ?_
  refine loopG (fun (x : Nat) a w => (x ≤ 5) ∧ Has 33 [(0, v), (2, .slice none 0 0), (6, .slice (some ⟨b6, 0, none⟩) 25 25), (3, .slice (some ⟨b6, 0, none⟩) 25 25), (4, en x)] a ∧ Below w0.heap.size w0 w ∧ w.heap[b6]? = some (.cells ((rpX l x).map e64).toArray 22 (0, 0))) (fun x => 5 - x) 0 ⟨(by omega), ha.to [0, 2, 6, 3, 4] rfl, hB, hb6⟩ ?_
  clear ha a hB hb6
  intro x a w11 ⟨hkx, ha, hB, hb6⟩
  refine wp_seq_k fun K12 hK13 => ?_
  refine wp_seq_k fun K14 hK15 => ?_
  refine region ?_
  refine sv ha (r_move ha rfl) rfl rfl rfl ?_; clear ha a; intro a ha
  refine sv ha (r_lss ha ((x : Nat) : Int) 5 (decide (x < 5)) rfl rfl (decide_eq_decide.2 (by omega))) rfl rfl rfl ?_; clear ha a; intro a ha
  refine hK15 _ _ ?_; clear hK15 K14
  refine cond_if ha rfl (fun hc16 => ?_) (fun hc16 => ?_)
  · skip
    replace hc16 := of_decide_eq_true hc16
    refine wp_skip ?_
    refine hK13 _ _ ?_; clear hK13 K12
    refine wp_seq_k fun K17 hK18 => ?_
    refine wp_block ?_
    refine wp_seq_k fun K19 hK20 => ?_
    refine region ?_
    refine sv ha (r_assign ha rfl) rfl rfl rfl ?_; clear ha a; intro a ha
    refine hK20 _ _ ?_; clear hK20 K19
    refine wp_block ?_
    refine loopG (fun (y : Nat) a w => (y ≤ 5) ∧ Has 33 [(0, v), (2, .slice none 0 0), (6, .slice (some ⟨b6, 0, none⟩) 25 25), (3, .slice (some ⟨b6, 0, none⟩) 25 25), (4, en x), (7, en x), (8, .bool (decide (x < 5))), (5, en y)] a ∧ Below w0.heap.size w0 w ∧ w.heap[b6]? = some (.cells ((rpY l x (rpX l x) y).map e64).toArray 22 (0, 0))) (fun y => 5 - y) 0 ⟨(by omega), ha.to [0, 2, 6, 3, 4, 7, 8, 5] rfl, hB, hb6⟩ ?_
    clear ha a hB hb6
    intro y a w21 ⟨hky, ha, hB, hb6⟩
    refine wp_seq_k fun K22 hK23 => ?_
    refine wp_seq_k fun K24 hK25 => ?_
    refine region ?_
    refine sv ha (r_move ha rfl) rfl rfl rfl ?_; clear ha a; intro a ha
    refine sv ha (r_lss ha ((y : Nat) : Int) 5 (decide (y < 5)) rfl rfl (decide_eq_decide.2 (by omega))) rfl rfl rfl ?_; clear ha a; intro a ha
    refine hK25 _ _ ?_; clear hK25 K24
    refine cond_if ha rfl (fun hc26 => ?_) (fun hc26 => ?_)
    · skip
      replace hc26 := of_decide_eq_true hc26
      refine wp_skip ?_
      refine hK23 _ _ ?_; clear hK23 K22
      refine wp_seq_k fun K27 hK28 => ?_
      refine wp_block ?_
      refine region ?_
      refine sv ha (r_move ha rfl) rfl rfl rfl ?_; clear ha a; intro a ha
      refine sv ha (r_move ha rfl) rfl rfl rfl ?_; clear ha a; intro a ha
      refine sv ha (r_move ha rfl) rfl rfl rfl ?_; clear ha a; intro a ha
      refine sv ha (rn_mul ha 5 y rfl rfl (by omega)) rfl rfl rfl ?_; clear ha a; intro a ha
      refine sv ha (rn_add ha x (5 * y) rfl rfl (by omega)) rfl rfl rfl ?_; clear ha a; intro a ha
      refine sv ha (r_move ha rfl) rfl rfl rfl ?_; clear ha a; intro a ha
      refine sv ha (r_move ha rfl) rfl rfl rfl ?_; clear ha a; intro a ha
      refine sv ha (r_move ha rfl) rfl rfl rfl ?_; clear ha a; intro a ha
      refine sv ha (rn_mul ha 3 y rfl rfl (by omega)) rfl rfl rfl ?_; clear ha a; intro a ha
      refine sv ha (rn_add ha x (3 * y) rfl rfl (by omega)) rfl rfl rfl ?_; clear ha a; intro a ha
      refine sv ha (rn_rem ha (x + (3 * y)) 5 rfl rfl (by omega)) rfl rfl rfl ?_; clear ha a; intro a ha
      refine sv ha (r_move ha rfl) rfl rfl rfl ?_; clear ha a; intro a ha
      refine sv ha (rn_mul ha 5 x rfl rfl (by omega)) rfl rfl rfl ?_; clear ha a; intro a ha
      refine sv ha (rn_add ha ((x + (3 * y)) % 5) (5 * x) rfl rfl (by omega)) rfl rfl rfl ?_; clear ha a; intro a ha
      refine sv ha (r_indexS (i := ((x + (3 * y)) % 5) + (5 * x)) ha Tryd.runUnderlying27 Tryd.sizeOf22 (hs.below hB) (C := (l).map e64) rfl rfl (by rw [List.length_map, hl]; omega)) rfl rfl rfl ?_; clear ha a; intro a ha
      refine sv ha (r_loadS ha rfl Tryd.isAgg22 (hs.below hB) (get_map e64 l 0 (((x + (3 * y)) % 5) + (5 * x)) (by rw [hl]; omega))) rfl rfl rfl ?_; clear ha a; intro a ha
      refine sv ha (r_indexB ha (x + (5 * y)) Tryd.runUnderlying27 Tryd.sizeOf22 rfl rfl (by omega)) rfl rfl rfl ?_; clear ha a; intro a ha
      refine sstore ha (v := e64 (l.getD (((x + (3 * y)) % 5) + (5 * x)) 0)) rfl rfl rfl rfl Tryd.sizeOf22 hb6 (by rw [List.length_map, rpY_len, rpX_len]; omega) ?_
      clear ha a; intro a w29 ha hg hb6'
      rw [set_map] at hb6'
      clear hb6; have hb6 := hb6'; clear hb6'
      replace hB := keepB1 hg (by omega) hB
      clear hg
      refine hK28 _ _ ?_; clear hK28 K27
      refine region ?_
      refine sv ha (r_move ha rfl) rfl rfl rfl ?_; clear ha a; intro a ha
      refine sv ha (rn_add ha y 1 rfl rfl (by omega)) rfl rfl rfl ?_; clear ha a; intro a ha
      refine sv ha (r_assign ha rfl) rfl rfl rfl ?_; clear ha a; intro a ha
      exact ⟨y + 1, by omega, (by omega), ha.to [0, 2, 6, 3, 4, 7, 8, 5] rfl, hB, hb6⟩
    · skip
      replace hc26 := of_decide_eq_false hc26
      refine wp_exit ?_
      obtain rfl : y = 5 := by omega
      refine hK18 _ _ ?_; clear hK23 K22 hK18 K17
      refine region ?_
      refine sv ha (r_move ha rfl) rfl rfl rfl ?_; clear ha a; intro a ha
      refine sv ha (rn_add ha x 1 rfl rfl (by omega)) rfl rfl rfl ?_; clear ha a; intro a ha
      refine sv ha (r_assign ha rfl) rfl rfl rfl ?_; clear ha a; intro a ha
      exact ⟨x + 1, by omega, (by omega), ha.to [0, 2, 6, 3, 4] rfl, hB, hb6⟩
  · skip
    replace hc16 := of_decide_eq_false hc16
    refine wp_exit ?_
    obtain rfl : x = 5 := by omega
    refine hK8 _ _ ?_; clear hK13 K12 hK8 K7
    refine wp_seq_k fun K30 hK31 => ?_
    refine region ?_
    refine sv ha (r_move ha rfl) rfl rfl rfl ?_; clear ha a; intro a ha
    refine sv ha (r_assign ha rfl) rfl rfl rfl ?_; clear ha a; intro a ha
    refine hK31 _ _ ?_; clear hK31 K30
    refine wp_ret ?_
    repeat (first | (with_reducible refine t_ret ?_) | (with_reducible refine x_ret ?_))
    exact ret1 ha Tryd.results20 rfl ⟨_, rfl, hB, hb6, hz6⟩

theorem c_rChi (v : Value) (l : List UInt64) (w0 : World) (hs : Sl w0 v (l.map e64)) (hl : l.length = 25) :
    Calls Tryd.prog 22 #[v] w0 fun e w' => ∃ b, e = .returned (.slice (some ⟨b, 0, none⟩) 25 25) ∧ Below w0.heap.size w0 w' ∧ w'.heap[b]? = some (.cells ((rChi l).map e64).toArray 22 (0, 0)) ∧ w0.heap.size ≤ b := by
  refine enter (args := [_]) Tryd.func22 rfl Tryd.ntmps22 rfl ?_
  intro a ha
  have hB := Below.refl w0.heap.size w0
  refine wp_seq_k fun K1 hK2 => ?_
  refine region ?_
  refine sv ha (r_assign ha rfl) rfl rfl rfl ?_; clear ha a; intro a ha
  refine hK2 _ _ ?_; clear hK2 K1
  refine wp_seq_k fun K3 hK4 => ?_
  refine region ?_
  refine sc ha (r_call ha [] rfl Tryd.call32) rfl rfl rfl (c_lanes  _ ) ?_
  clear ha a
  rintro e w5 ⟨b6, rfl, hBc, hb6, hge6⟩
  have hg := grown_call hBc; clear hBc
  have hz6 : w0.heap.size ≤ b6 := Nat.le_trans hB.size hge6
  replace hB := keepB0 hg hB
  clear hg hge6
  refine ⟨_, rfl, ?_⟩; intro a ha
  refine sv ha (r_assign ha rfl) rfl rfl rfl ?_; clear ha a; intro a ha
  refine hK4 _ _ ?_; clear hK4 K3
  refine wp_seq_k fun K7 hK8 => ?_
  refine wp_seq_k fun K9 hK10 => ?_
  refine region ?_
  refine sv ha (r_assign ha rfl) rfl rfl rfl ?_; clear ha a; intro a ha
  refine hK10 _ _ ?_; clear hK10 K9
  refine wp_block ?_
  refine loopG (fun (x : Nat) a w => (x ≤ 5) ∧ Has 53 [(0, v), (2, .slice none 0 0), (8, .slice (some ⟨b6, 0, none⟩) 25 25), (3, .slice (some ⟨b6, 0, none⟩) 25 25), (4, en x)] a ∧ Below w0.heap.size w0 w ∧ w.heap[b6]? = some (.cells ((rcX l x).map e64).toArray 22 (0, 0))) (fun x => 5 - x) 0 ⟨(by omega), ha.to [0, 2, 8, 3, 4] rfl, hB, hb6⟩ ?_
  clear ha a hB hb6
  intro x a w11 ⟨hkx, ha, hB, hb6⟩
  refine wp_seq_k fun K12 hK13 => ?_
  refine wp_seq_k fun K14 hK15 => ?_
  refine region ?_
  refine sv ha (r_move ha rfl) rfl rfl rfl ?_; clear ha a; intro a ha
  refine sv ha (r_lss ha ((x : Nat) : Int) 5 (decide (x < 5)) rfl rfl (decide_eq_decide.2 (by omega))) rfl rfl rfl ?_; clear ha a; intro a ha
  refine hK15 _ _ ?_; clear hK15 K14
  refine cond_if ha rfl (fun hc16 => ?_) (fun hc16 => ?_)
  · skip
    replace hc16 := of_decide_eq_true hc16
    refine wp_skip ?_
    refine hK13 _ _ ?_; clear hK13 K12
    refine wp_seq_k fun K17 hK18 => ?_
    refine wp_block ?_
    refine wp_seq_k fun K19 hK20 => ?_
    refine region ?_
    refine sv ha (r_assign ha rfl) rfl rfl rfl ?_; clear ha a; intro a ha
    refine hK20 _ _ ?_; clear hK20 K19
    refine wp_block ?_
    refine loopG (fun (y : Nat) a w => (y ≤ 5) ∧ Has 53 [(0, v), (2, .slice none 0 0), (8, .slice (some ⟨b6, 0, none⟩) 25 25), (3, .slice (some ⟨b6, 0, none⟩) 25 25), (4, en x), (9, en x), (10, .bool (decide (x < 5))), (5, en y)] a ∧ Below w0.heap.size w0 w ∧ w.heap[b6]? = some (.cells ((rcY l x (rcX l x) y).map e64).toArray 22 (0, 0))) (fun y => 5 - y) 0 ⟨(by omega), ha.to [0, 2, 8, 3, 4, 9, 10, 5] rfl, hB, hb6⟩ ?_
    clear ha a hB hb6
    intro y a w21 ⟨hky, ha, hB, hb6⟩
    refine wp_seq_k fun K22 hK23 => ?_
    refine wp_seq_k fun K24 hK25 => ?_
    refine region ?_
    refine sv ha (r_move ha rfl) rfl rfl rfl ?_; clear ha a; intro a ha
    refine sv ha (r_lss ha ((y : Nat) : Int) 5 (decide (y < 5)) rfl rfl (decide_eq_decide.2 (by omega))) rfl rfl rfl ?_; clear ha a; intro a ha
    refine hK25 _ _ ?_; clear hK25 K24
    refine cond_if ha rfl (fun hc26 => ?_) (fun hc26 => ?_)
    · skip
      replace hc26 := of_decide_eq_true hc26
      refine wp_skip ?_
      refine hK23 _ _ ?_; clear hK23 K22
      refine wp_seq_k fun K27 hK28 => ?_
      refine wp_block ?_
      refine wp_seq_k fun K29 hK30 => ?_
      refine region ?_
      refine sv ha (r_assign ha rfl) rfl rfl rfl ?_; clear ha a; intro a ha
      refine hK30 _ _ ?_; clear hK30 K29
      refine wp_block ?_
      refine loopG (fun (z : Nat) a w => (z ≤ 64) ∧ Has 53 [(0, v), (2, .slice none 0 0), (8, .slice (some ⟨b6, 0, none⟩) 25 25), (3, .slice (some ⟨b6, 0, none⟩) 25 25), (4, en x), (9, en x), (10, .bool (decide (x < 5))), (5, en y), (13, en y), (14, .bool (decide (y < 5))), (6, en z)] a ∧ Below w0.heap.size w0 w ∧ w.heap[b6]? = some (.cells ((rcZ l x y (rcY l x (rcX l x) y) z).map e64).toArray 22 (0, 0))) (fun z => 64 - z) 0 ⟨(by omega), ha.to [0, 2, 8, 3, 4, 9, 10, 5, 13, 14, 6] rfl, hB, hb6⟩ ?_
      clear ha a hB hb6
      intro z a w31 ⟨hkz, ha, hB, hb6⟩
      have hi1 := bitI_le l ((x : Nat) : Int) ((y : Nat) : Int) ((z : Nat) : Int)
      refine wp_seq_k fun K32 hK33 => ?_
      refine wp_seq_k fun K34 hK35 => ?_
      refine region ?_
      refine sv ha (r_move ha rfl) rfl rfl rfl ?_; clear ha a; intro a ha
      refine sv ha (r_lss ha ((z : Nat) : Int) 64 (decide (z < 64)) rfl rfl (decide_eq_decide.2 (by omega))) rfl rfl rfl ?_; clear ha a; intro a ha
      refine hK35 _ _ ?_; clear hK35 K34
      refine cond_if ha rfl (fun hc36 => ?_) (fun hc36 => ?_)
      · skip
        replace hc36 := of_decide_eq_true hc36
        refine wp_skip ?_
        refine hK33 _ _ ?_; clear hK33 K32
        refine wp_seq_k fun K37 hK38 => ?_
        refine wp_block ?_
        refine wp_seq_k fun K39 hK40 => ?_
        refine region ?_
        refine sv ha (r_move ha rfl) rfl rfl rfl ?_; clear ha a; intro a ha
        refine sv ha (r_move ha rfl) rfl rfl rfl ?_; clear ha a; intro a ha
        refine sv ha (r_move ha rfl) rfl rfl rfl ?_; clear ha a; intro a ha
        refine sv ha (r_move ha rfl) rfl rfl rfl ?_; clear ha a; intro a ha
        refine sc ha (r_call ha [v, ei ((x : Nat) : Int), ei ((y : Nat) : Int), ei ((z : Nat) : Int)] rfl Tryd.call33) rfl rfl rfl (c_bit v l ((x : Nat) : Int) ((y : Nat) : Int) ((z : Nat) : Int) _ (hs.below hB) (by rw [hl]) (by omega) (by omega) (by omega)) ?_
        clear ha a
        rintro e w41 ⟨rfl, hBc⟩
        have hg := grown_call hBc; clear hBc
        replace hB := keepB0 hg hB
        replace hb6 := keepO0 hg hb6
        clear hg
        refine ⟨_, rfl, ?_⟩; intro a ha
        refine sv ha (r_assign ha rfl) rfl rfl rfl ?_; clear ha a; intro a ha
        refine hK40 _ _ ?_; clear hK40 K39
        refine wp_seq_k fun K42 hK43 => ?_
        refine wp_seq_k fun K44 hK45 => ?_
        refine region ?_
        refine sv ha (r_move ha rfl) rfl rfl rfl ?_; clear ha a; intro a ha
        refine sv ha (r_move ha rfl) rfl rfl rfl ?_; clear ha a; intro a ha
        refine sv ha (rn_add ha x 1 rfl rfl (by omega)) rfl rfl rfl ?_; clear ha a; intro a ha
        refine sv ha (r_move ha rfl) rfl rfl rfl ?_; clear ha a; intro a ha
        refine sv ha (r_move ha rfl) rfl rfl rfl ?_; clear ha a; intro a ha
        refine sc ha (r_call ha [v, ei ((x + 1 : Nat) : Int), ei ((y : Nat) : Int), ei ((z : Nat) : Int)] rfl Tryd.call33) rfl rfl rfl (c_bit v l ((x + 1 : Nat) : Int) ((y : Nat) : Int) ((z : Nat) : Int) _ (hs.below hB) (by rw [hl]) (by omega) (by omega) (by omega)) ?_
        clear ha a
        rintro e w46 ⟨rfl, hBc⟩
        have hg := grown_call hBc; clear hBc
        replace hB := keepB0 hg hB
        replace hb6 := keepO0 hg hb6
        clear hg
        refine ⟨_, rfl, ?_⟩; intro a ha
        refine sv ha (r_eql ha ((bitI l ((x + 1 : Nat) : Int) ((y : Nat) : Int) ((z : Nat) : Int) : Nat) : Int) 0 (decide (bitI l ((x + 1 : Nat) : Int) ((y : Nat) : Int) ((z : Nat) : Int) = 0)) rfl rfl (decide_eq_decide.2 (by omega))) rfl rfl rfl ?_; clear ha a; intro a ha
        refine sv ha (r_move ha rfl) rfl rfl rfl ?_; clear ha a; intro a ha
        cases hq47 : (decide (bitI l ((x + 1 : Nat) : Int) ((y : Nat) : Int) ((z : Nat) : Int) = 0))
        all_goals rw [hq47] at ha
        case false =>
          replace hq47 := of_decide_eq_false hq47
          refine sno ha rfl rfl rfl rfl rfl rfl ?_; clear ha a; intro a ha
          refine sno ha rfl rfl rfl rfl rfl rfl ?_; clear ha a; intro a ha
          refine sno ha rfl rfl rfl rfl rfl rfl ?_; clear ha a; intro a ha
          refine sno ha rfl rfl rfl rfl rfl rfl ?_; clear ha a; intro a ha
          refine sno ha rfl rfl rfl rfl rfl rfl ?_; clear ha a; intro a ha
          refine sno ha rfl rfl rfl rfl rfl rfl ?_; clear ha a; intro a ha
          refine sno ha rfl rfl rfl rfl rfl rfl ?_; clear ha a; intro a ha
          refine sv ha (r_pick ha false rfl rfl) rfl rfl rfl ?_; clear ha a; intro a ha
          refine hK45 _ _ ?_; clear hK45 K44
          refine cond_f ha rfl ?_
          refine wp_skip ?_
          refine hK43 _ _ ?_; clear hK43 K42
          refine wp_seq_k fun K48 hK49 => ?_
          refine region ?_
          refine sv ha (r_move ha rfl) rfl rfl rfl ?_; clear ha a; intro a ha
          refine sv ha (rn_rem ha (bitI l ((x : Nat) : Int) ((y : Nat) : Int) ((z : Nat) : Int)) 2 rfl rfl (by omega)) rfl rfl rfl ?_; clear ha a; intro a ha
          refine sv ha (r_eql ha (((bitI l ((x : Nat) : Int) ((y : Nat) : Int) ((z : Nat) : Int)) % 2 : Nat) : Int) 1 (decide ((bitI l ((x : Nat) : Int) ((y : Nat) : Int) ((z : Nat) : Int)) % 2 = 1)) rfl rfl (decide_eq_decide.2 (by omega))) rfl rfl rfl ?_; clear ha a; intro a ha
          refine hK49 _ _ ?_; clear hK49 K48
          refine cond_if ha rfl (fun hc50 => ?_) (fun hc50 => ?_)
          · skip
            replace hc50 := of_decide_eq_true hc50
            refine region ?_
            refine sv ha (r_move ha rfl) rfl rfl rfl ?_; clear ha a; intro a ha
            refine sv ha (r_move ha rfl) rfl rfl rfl ?_; clear ha a; intro a ha
            refine sv ha (r_move ha rfl) rfl rfl rfl ?_; clear ha a; intro a ha
            refine sv ha (r_move ha rfl) rfl rfl rfl ?_; clear ha a; intro a ha
            refine sc ha (r_call ha [.slice (some ⟨b6, 0, none⟩) 25 25, en x, en y, en z] rfl Tryd.call34) rfl rfl rfl (c_put b6 (rcZ l x y (rcY l x (rcX l x) y) z) x y z _ hb6 (by rw [rcZ_len, rcY_len, rcX_len]) (by omega) (by omega) (by omega)) ?_
            clear ha a
            rintro e w51 ⟨rfl, hg, hb6'⟩
            clear hb6; have hb6 := hb6'; clear hb6'
            replace hB := keepB1 hg (by omega) hB
            clear hg
            refine ⟨_, rfl, ?_⟩; intro a ha
            refine hK38 _ _ ?_; clear hK38 K37
            refine region ?_
            refine sv ha (r_move ha rfl) rfl rfl rfl ?_; clear ha a; intro a ha
            refine sv ha (rn_add ha z 1 rfl rfl (by omega)) rfl rfl rfl ?_; clear ha a; intro a ha
            refine sv ha (r_assign ha rfl) rfl rfl rfl ?_; clear ha a; intro a ha
            exact ⟨z + 1, by omega, (by omega), ha.to [0, 2, 8, 3, 4, 9, 10, 5, 13, 14, 6] rfl, hB, (by simp only [rcZ, rcN]; (repeat' split) <;> first | exact hb6 | (exfalso; omega))⟩
          · skip
            replace hc50 := of_decide_eq_false hc50
            refine wp_skip ?_
            refine hK38 _ _ ?_; clear hK38 K37
            refine region ?_
            refine sv ha (r_move ha rfl) rfl rfl rfl ?_; clear ha a; intro a ha
            refine sv ha (rn_add ha z 1 rfl rfl (by omega)) rfl rfl rfl ?_; clear ha a; intro a ha
            refine sv ha (r_assign ha rfl) rfl rfl rfl ?_; clear ha a; intro a ha
            exact ⟨z + 1, by omega, (by omega), ha.to [0, 2, 8, 3, 4, 9, 10, 5, 13, 14, 6] rfl, hB, (by simp only [rcZ, rcN]; (repeat' split) <;> first | exact hb6 | (exfalso; omega))⟩
        case true =>
          replace hq47 := of_decide_eq_true hq47
          refine svg ha (r_move ha rfl) rfl rfl rfl rfl rfl ?_; clear ha a; intro a ha
          refine svg ha (r_move ha rfl) rfl rfl rfl rfl rfl ?_; clear ha a; intro a ha
          refine svg ha (rn_add ha x 2 rfl rfl (by omega)) rfl rfl rfl rfl rfl ?_; clear ha a; intro a ha
          refine svg ha (r_move ha rfl) rfl rfl rfl rfl rfl ?_; clear ha a; intro a ha
          refine svg ha (r_move ha rfl) rfl rfl rfl rfl rfl ?_; clear ha a; intro a ha
          refine scg ha (r_call ha [v, ei ((x + 2 : Nat) : Int), ei ((y : Nat) : Int), ei ((z : Nat) : Int)] rfl Tryd.call33) rfl rfl rfl rfl rfl (c_bit v l ((x + 2 : Nat) : Int) ((y : Nat) : Int) ((z : Nat) : Int) _ (hs.below hB) (by rw [hl]) (by omega) (by omega) (by omega)) ?_
          clear ha a
          rintro e w52 ⟨rfl, hBc⟩
          have hg := grown_call hBc; clear hBc
          replace hB := keepB0 hg hB
          replace hb6 := keepO0 hg hb6
          clear hg
          refine ⟨_, rfl, ?_⟩; intro a ha
          refine svg ha (r_eql ha ((bitI l ((x + 2 : Nat) : Int) ((y : Nat) : Int) ((z : Nat) : Int) : Nat) : Int) 1 (decide (bitI l ((x + 2 : Nat) : Int) ((y : Nat) : Int) ((z : Nat) : Int) = 1)) rfl rfl (decide_eq_decide.2 (by omega))) rfl rfl rfl rfl rfl ?_; clear ha a; intro a ha
          refine sv ha (r_pick ha true rfl rfl) rfl rfl rfl ?_; clear ha a; intro a ha
          refine hK45 _ _ ?_; clear hK45 K44
          refine cond_if ha rfl (fun hc53 => ?_) (fun hc53 => ?_)
          · skip
            replace hc53 := of_decide_eq_true hc53
            refine region ?_
            refine sv ha (r_move ha rfl) rfl rfl rfl ?_; clear ha a; intro a ha
            refine sv ha (rn_add ha (bitI l ((x : Nat) : Int) ((y : Nat) : Int) ((z : Nat) : Int)) 1 rfl rfl (by omega)) rfl rfl rfl ?_; clear ha a; intro a ha
            refine sv ha (r_assign ha rfl) rfl rfl rfl ?_; clear ha a; intro a ha
            refine hK43 _ _ ?_; clear hK43 K42
            refine wp_seq_k fun K54 hK55 => ?_
            refine region ?_
            refine sv ha (r_move ha rfl) rfl rfl rfl ?_; clear ha a; intro a ha
            refine sv ha (rn_rem ha ((bitI l ((x : Nat) : Int) ((y : Nat) : Int) ((z : Nat) : Int)) + 1) 2 rfl rfl (by omega)) rfl rfl rfl ?_; clear ha a; intro a ha
            refine sv ha (r_eql ha ((((bitI l ((x : Nat) : Int) ((y : Nat) : Int) ((z : Nat) : Int)) + 1) % 2 : Nat) : Int) 1 (decide (((bitI l ((x : Nat) : Int) ((y : Nat) : Int) ((z : Nat) : Int)) + 1) % 2 = 1)) rfl rfl (decide_eq_decide.2 (by omega))) rfl rfl rfl ?_; clear ha a; intro a ha
            refine hK55 _ _ ?_; clear hK55 K54
            refine cond_if ha rfl (fun hc56 => ?_) (fun hc56 => ?_)
            · skip
              replace hc56 := of_decide_eq_true hc56
              refine region ?_
              refine sv ha (r_move ha rfl) rfl rfl rfl ?_; clear ha a; intro a ha
              refine sv ha (r_move ha rfl) rfl rfl rfl ?_; clear ha a; intro a ha
              refine sv ha (r_move ha rfl) rfl rfl rfl ?_; clear ha a; intro a ha
              refine sv ha (r_move ha rfl) rfl rfl rfl ?_; clear ha a; intro a ha
              refine sc ha (r_call ha [.slice (some ⟨b6, 0, none⟩) 25 25, en x, en y, en z] rfl Tryd.call34) rfl rfl rfl (c_put b6 (rcZ l x y (rcY l x (rcX l x) y) z) x y z _ hb6 (by rw [rcZ_len, rcY_len, rcX_len]) (by omega) (by omega) (by omega)) ?_
              clear ha a
              rintro e w57 ⟨rfl, hg, hb6'⟩
              clear hb6; have hb6 := hb6'; clear hb6'
              replace hB := keepB1 hg (by omega) hB
              clear hg
              refine ⟨_, rfl, ?_⟩; intro a ha
              refine hK38 _ _ ?_; clear hK38 K37
              refine region ?_
              refine sv ha (r_move ha rfl) rfl rfl rfl ?_; clear ha a; intro a ha
              refine sv ha (rn_add ha z 1 rfl rfl (by omega)) rfl rfl rfl ?_; clear ha a; intro a ha
              refine sv ha (r_assign ha rfl) rfl rfl rfl ?_; clear ha a; intro a ha
              exact ⟨z + 1, by omega, (by omega), ha.to [0, 2, 8, 3, 4, 9, 10, 5, 13, 14, 6] rfl, hB, (by simp only [rcZ, rcN]; (repeat' split) <;> first | exact hb6 | (exfalso; omega))⟩
            · skip
              replace hc56 := of_decide_eq_false hc56
              refine wp_skip ?_
              refine hK38 _ _ ?_; clear hK38 K37
              refine region ?_
              refine sv ha (r_move ha rfl) rfl rfl rfl ?_; clear ha a; intro a ha
              refine sv ha (rn_add ha z 1 rfl rfl (by omega)) rfl rfl rfl ?_; clear ha a; intro a ha
              refine sv ha (r_assign ha rfl) rfl rfl rfl ?_; clear ha a; intro a ha
              exact ⟨z + 1, by omega, (by omega), ha.to [0, 2, 8, 3, 4, 9, 10, 5, 13, 14, 6] rfl, hB, (by simp only [rcZ, rcN]; (repeat' split) <;> first | exact hb6 | (exfalso; omega))⟩
          · skip
            replace hc53 := of_decide_eq_false hc53
            refine wp_skip ?_
            refine hK43 _ _ ?_; clear hK43 K42
            refine wp_seq_k fun K58 hK59 => ?_
            refine region ?_
            refine sv ha (r_move ha rfl) rfl rfl rfl ?_; clear ha a; intro a ha
            refine sv ha (rn_rem ha (bitI l ((x : Nat) : Int) ((y : Nat) : Int) ((z : Nat) : Int)) 2 rfl rfl (by omega)) rfl rfl rfl ?_; clear ha a; intro a ha
            refine sv ha (r_eql ha (((bitI l ((x : Nat) : Int) ((y : Nat) : Int) ((z : Nat) : Int)) % 2 : Nat) : Int) 1 (decide ((bitI l ((x : Nat) : Int) ((y : Nat) : Int) ((z : Nat) : Int)) % 2 = 1)) rfl rfl (decide_eq_decide.2 (by omega))) rfl rfl rfl ?_; clear ha a; intro a ha
            refine hK59 _ _ ?_; clear hK59 K58
            refine cond_if ha rfl (fun hc60 => ?_) (fun hc60 => ?_)
            · skip
              replace hc60 := of_decide_eq_true hc60
              refine region ?_
              refine sv ha (r_move ha rfl) rfl rfl rfl ?_; clear ha a; intro a ha
              refine sv ha (r_move ha rfl) rfl rfl rfl ?_; clear ha a; intro a ha
              refine sv ha (r_move ha rfl) rfl rfl rfl ?_; clear ha a; intro a ha
              refine sv ha (r_move ha rfl) rfl rfl rfl ?_; clear ha a; intro a ha
              refine sc ha (r_call ha [.slice (some ⟨b6, 0, none⟩) 25 25, en x, en y, en z] rfl Tryd.call34) rfl rfl rfl (c_put b6 (rcZ l x y (rcY l x (rcX l x) y) z) x y z _ hb6 (by rw [rcZ_len, rcY_len, rcX_len]) (by omega) (by omega) (by omega)) ?_
              clear ha a
              rintro e w61 ⟨rfl, hg, hb6'⟩
              clear hb6; have hb6 := hb6'; clear hb6'
              replace hB := keepB1 hg (by omega) hB
              clear hg
              refine ⟨_, rfl, ?_⟩; intro a ha
              refine hK38 _ _ ?_; clear hK38 K37
              refine region ?_
              refine sv ha (r_move ha rfl) rfl rfl rfl ?_; clear ha a; intro a ha
              refine sv ha (rn_add ha z 1 rfl rfl (by omega)) rfl rfl rfl ?_; clear ha a; intro a ha
              refine sv ha (r_assign ha rfl) rfl rfl rfl ?_; clear ha a; intro a ha
              exact ⟨z + 1, by omega, (by omega), ha.to [0, 2, 8, 3, 4, 9, 10, 5, 13, 14, 6] rfl, hB, (by simp only [rcZ, rcN]; (repeat' split) <;> first | exact hb6 | (exfalso; omega))⟩
            · skip
              replace hc60 := of_decide_eq_false hc60
              refine wp_skip ?_
              refine hK38 _ _ ?_; clear hK38 K37
              refine region ?_
              refine sv ha (r_move ha rfl) rfl rfl rfl ?_; clear ha a; intro a ha
              refine sv ha (rn_add ha z 1 rfl rfl (by omega)) rfl rfl rfl ?_; clear ha a; intro a ha
              refine sv ha (r_assign ha rfl) rfl rfl rfl ?_; clear ha a; intro a ha
              exact ⟨z + 1, by omega, (by omega), ha.to [0, 2, 8, 3, 4, 9, 10, 5, 13, 14, 6] rfl, hB, (by simp only [rcZ, rcN]; (repeat' split) <;> first | exact hb6 | (exfalso; omega))⟩
      · skip
        replace hc36 := of_decide_eq_false hc36
        refine wp_exit ?_
        obtain rfl : z = 64 := by omega
        refine hK28 _ _ ?_; clear hK33 K32 hK28 K27
        refine region ?_
        refine sv ha (r_move ha rfl) rfl rfl rfl ?_; clear ha a; intro a ha
        refine sv ha (rn_add ha y 1 rfl rfl (by omega)) rfl rfl rfl ?_; clear ha a; intro a ha
        refine sv ha (r_assign ha rfl) rfl rfl rfl ?_; clear ha a; intro a ha
        exact ⟨y + 1, by omega, (by omega), ha.to [0, 2, 8, 3, 4, 9, 10, 5] rfl, hB, hb6⟩
    · skip
      replace hc26 := of_decide_eq_false hc26
      refine wp_exit ?_
      obtain rfl : y = 5 := by omega
      refine hK18 _ _ ?_; clear hK23 K22 hK18 K17
      refine region ?_
      refine sv ha (r_move ha rfl) rfl rfl rfl ?_; clear ha a; intro a ha
      refine sv ha (rn_add ha x 1 rfl rfl (by omega)) rfl rfl rfl ?_; clear ha a; intro a ha
      refine sv ha (r_assign ha rfl) rfl rfl rfl ?_; clear ha a; intro a ha
      exact ⟨x + 1, by omega, (by omega), ha.to [0, 2, 8, 3, 4] rfl, hB, hb6⟩
  · skip
    replace hc16 := of_decide_eq_false hc16
    refine wp_exit ?_
    obtain rfl : x = 5 := by omega
    refine hK8 _ _ ?_; clear hK13 K12 hK8 K7
    refine wp_seq_k fun K62 hK63 => ?_
    refine region ?_
    refine sv ha (r_move ha rfl) rfl rfl rfl ?_; clear ha a; intro a ha
    refine sv ha (r_assign ha rfl) rfl rfl rfl ?_; clear ha a; intro a ha
    refine hK63 _ _ ?_; clear hK63 K62
    refine wp_ret ?_
    repeat (first | (with_reducible refine t_ret ?_) | (with_reducible refine x_ret ?_))
    exact ret1 ha Tryd.results22 rfl ⟨_, rfl, hB, hb6, hz6⟩

theorem c_rturn (x : UInt64) (k : Nat) (w0 : World) (hk : k < 64) :
    Calls Tryd.prog 37 #[e64 x, en k] w0 fun e w' => e = .returned (e64 (turnR x k)) ∧ Below w0.heap.size w0 w' := by
  refine enter (args := [_, _]) Tryd.func37 rfl Tryd.ntmps37 rfl ?_
  intro a ha
  have hB := Below.refl w0.heap.size w0
  refine wp_seq_k fun K1 hK2 => ?_
  refine region ?_
  refine sv ha (r_assign ha rfl) rfl rfl rfl ?_; clear ha a; intro a ha
  refine hK2 _ _ ?_; clear hK2 K1
  refine wp_seq_k fun K3 hK4 => ?_
  refine wp_seq_k fun K5 hK6 => ?_
  refine region ?_
  refine sv ha (r_move ha rfl) rfl rfl rfl ?_; clear ha a; intro a ha
  refine sv ha (r_eql ha ((k : Nat) : Int) 0 (decide (k = 0)) rfl rfl (decide_eq_decide.2 (by omega))) rfl rfl rfl ?_; clear ha a; intro a ha
  refine hK6 _ _ ?_; clear hK6 K5
  refine cond_if ha rfl (fun hc7 => ?_) (fun hc7 => ?_)
  · skip
    replace hc7 := of_decide_eq_true hc7
    refine wp_seq_k fun K8 hK9 => ?_
    refine region ?_
    refine sv ha (r_move ha rfl) rfl rfl rfl ?_; clear ha a; intro a ha
    refine sv ha (r_assign ha rfl) rfl rfl rfl ?_; clear ha a; intro a ha
    refine hK9 _ _ ?_; clear hK9 K8
    refine wp_ret ?_
    repeat (first | (with_reducible refine t_ret ?_) | (with_reducible refine x_ret ?_))
    exact ret1 ha Tryd.results37 rfl ⟨(by unfold turnR; first | rw [if_pos (by assumption)] | rw [if_neg (by assumption)]), hB⟩
  · skip
    replace hc7 := of_decide_eq_false hc7
    refine wp_skip ?_
    refine hK4 _ _ ?_; clear hK4 K3
    refine wp_seq_k fun K10 hK11 => ?_
    refine region ?_
    refine sv ha (r_move ha rfl) rfl rfl rfl ?_; clear ha a; intro a ha
    refine sv ha (r_move ha rfl) rfl rfl rfl ?_; clear ha a; intro a ha
    refine sv ha (r_conv_n_u64 ha k Tryd.runUnderlying3 Tryd.runUnderlying43 rfl (by omega)) rfl rfl rfl ?_; clear ha a; intro a ha
    refine sv ha (ru_shl ha x k rfl rfl (by omega)) rfl rfl rfl ?_; clear ha a; intro a ha
    refine sv ha (r_move ha rfl) rfl rfl rfl ?_; clear ha a; intro a ha
    refine sv ha (r_move ha rfl) rfl rfl rfl ?_; clear ha a; intro a ha
    refine sv ha (rn_sub ha 64 k rfl rfl (by omega) (by omega)) rfl rfl rfl ?_; clear ha a; intro a ha
    refine sv ha (r_conv_n_u64 ha (64 - k) Tryd.runUnderlying3 Tryd.runUnderlying43 rfl (by omega)) rfl rfl rfl ?_; clear ha a; intro a ha
    refine sv ha (ru_shr ha x (64 - k) rfl rfl (by omega)) rfl rfl rfl ?_; clear ha a; intro a ha
    refine sv ha (ru_add ha (x <<< UInt64.ofNat k) (x >>> UInt64.ofNat (64 - k)) rfl rfl) rfl rfl rfl ?_; clear ha a; intro a ha
    refine sv ha (r_assign ha rfl) rfl rfl rfl ?_; clear ha a; intro a ha
    refine hK11 _ _ ?_; clear hK11 K10
    refine wp_ret ?_
    repeat (first | (with_reducible refine t_ret ?_) | (with_reducible refine x_ret ?_))
    exact ret1 ha Tryd.results37 rfl ⟨(by unfold turnR; first | rw [if_pos (by assumption)] | rw [if_neg (by assumption)]), hB⟩

theorem c_rconsts  (w0 : World) :
    Calls Tryd.prog 36 #[] w0 fun e w' => ∃ b, e = .returned (.slice (some ⟨b, 0, none⟩) 24 24) ∧ Below w0.heap.size w0 w' ∧ w'.heap[b]? = some (.cells ((consts).map e64).toArray 22 (0, 0)) ∧ w0.heap.size ≤ b := by
  refine enter (args := []) Tryd.func36 rfl Tryd.ntmps36 rfl ?_
  intro a ha
  have hB := Below.refl w0.heap.size w0
  refine wp_seq_k fun K1 hK2 => ?_
  refine region ?_
  refine sv ha (r_assign ha rfl) rfl rfl rfl ?_; clear ha a; intro a ha
  refine hK2 _ _ ?_; clear hK2 K1
  refine wp_seq_k fun K3 hK4 => ?_
  refine region ?_
  refine sbuildS ha [(0, .int .u64 1), (1, .int .u64 32898), (2, .int .u64 9223372036854808714), (3, .int .u64 9223372039002292224), (4, .int .u64 32907), (5, .int .u64 2147483649), (6, .int .u64 9223372039002292353), (7, .int .u64 9223372036854808585), (8, .int .u64 138), (9, .int .u64 136), (10, .int .u64 2147516425), (11, .int .u64 2147483658), (12, .int .u64 2147516555), (13, .int .u64 9223372036854775947), (14, .int .u64 9223372036854808713), (15, .int .u64 9223372036854808579), (16, .int .u64 9223372036854808578), (17, .int .u64 9223372036854775936), (18, .int .u64 32778), (19, .int .u64 9223372039002259466), (20, .int .u64 9223372039002292353), (21, .int .u64 9223372036854808704), (22, .int .u64 2147483649), (23, .int .u64 9223372039002292232)] (([(1), (32898), (9223372036854808714), (9223372039002292224), (32907), (2147483649), (9223372039002292353), (9223372036854808585), (138), (136), (2147516425), (2147483658), (2147516555), (9223372036854775947), (9223372036854808713), (9223372036854808579), (9223372036854808578), (9223372036854775936), (32778), (9223372039002259466), (9223372039002292353), (9223372036854808704), (2147483649), (9223372039002292232)] : List UInt64).map e64) rfl Tryd.runUnderlying27 Tryd.sizeOf22 Tryd.zeroValue22 rfl rfl rfl rfl rfl ?_
  clear ha a; intro a w5 b6 ha hg hb6 hge6 hlt6
  have hz6 : w0.heap.size ≤ b6 := Nat.le_trans hB.size hge6
  replace hB := keepB0 hg hB
  clear hg hge6 hlt6
  refine sv ha (r_assign ha rfl) rfl rfl rfl ?_; clear ha a; intro a ha
  refine hK4 _ _ ?_; clear hK4 K3
  refine wp_ret ?_
  repeat (first | (with_reducible refine t_ret ?_) | (with_reducible refine x_ret ?_))
  exact ret1 ha Tryd.results36 rfl ⟨_, rfl, hB, hb6, hz6⟩

theorem c_same (v : Value) (l m : List UInt64) (w0 : World) (hl : l.length = 25) (hs : Sl w0 v (m.map e64)) (hm : m.length = 25) :
    Calls Tryd.prog 14 #[.agg ((l).map e64).toArray, v] w0 fun e w' => e = .returned (.bool (decide (l = m))) ∧ Below w0.heap.size w0 w' := by
  refine enter (args := [_, _]) Tryd.func14 rfl Tryd.ntmps14 rfl ?_
  intro a ha
  have hB := Below.refl w0.heap.size w0
  refine wp_seq_k fun K1 hK2 => ?_
  refine region ?_
  refine sbox ha rfl rfl ?_
  clear ha a; intro a w3 b4 ha hg hb4 hge4 hlt4
  have hz4 : w0.heap.size ≤ b4 := Nat.le_trans hB.size hge4
  replace hB := keepB0 hg hB
  clear hg hge4 hlt4
  refine sv ha (r_assign ha rfl) rfl rfl rfl ?_; clear ha a; intro a ha
  refine hK2 _ _ ?_; clear hK2 K1
  refine wp_seq_k fun K5 hK6 => ?_
  refine wp_seq_k fun K7 hK8 => ?_
  refine region ?_
  refine sv ha (r_assign ha rfl) rfl rfl rfl ?_; clear ha a; intro a ha
  refine hK8 _ _ ?_; clear hK8 K7
  refine wp_block ?_
  refine loopG (fun (k : Nat) a w => (k ≤ 25) ∧ (∀ j, j < k → l.getD j 0 = m.getD j 0) ∧ Has 18 [(0, .agg ((l).map e64).toArray), (1, v), (2, .pointer (some ⟨b4, 0, none⟩)), (5, en k)] a ∧ Below w0.heap.size w0 w ∧ w.heap[b4]? = some (.cells ((l).map e64).toArray 23 (0, 0))) (fun k => 25 - k) 0 ⟨(by omega), (fun j h => by omega), ha.to [0, 1, 2, 5] rfl, hB, hb4⟩ ?_
  clear ha a hB hb4
  intro k a w9 ⟨hkk, hall, ha, hB, hb4⟩
  refine wp_seq_k fun K10 hK11 => ?_
  refine wp_seq_k fun K12 hK13 => ?_
  refine region ?_
  refine sv ha (r_move ha rfl) rfl rfl rfl ?_; clear ha a; intro a ha
  refine sv ha (r_lss ha ((k : Nat) : Int) 25 (decide (k < 25)) rfl rfl (decide_eq_decide.2 (by omega))) rfl rfl rfl ?_; clear ha a; intro a ha
  refine hK13 _ _ ?_; clear hK13 K12
  refine cond_if ha rfl (fun hc14 => ?_) (fun hc14 => ?_)
  · skip
    replace hc14 := of_decide_eq_true hc14
    refine wp_skip ?_
    refine hK11 _ _ ?_; clear hK11 K10
    refine wp_seq_k fun K15 hK16 => ?_
    refine wp_block ?_
    refine wp_seq_k fun K17 hK18 => ?_
    refine regionD (S := fun w => Below w0.heap.size w0 w ∧ w.heap[b4]? = some (.cells ((l).map e64).toArray 23 (0, 0)) ∧ True) 8 [0, 1, 2, 3, 4, 5, 6, 7] [0, 1, 2, 3, 4, 5, 6, 7] mixed (by kernel_rfl) (by kernel_rfl) (fun w hg => ⟨keepB0 hg hB, keepO0 hg hb4, trivial⟩) ?_
    intro w19 hg
    replace hB := keepB0 hg hB
    replace hb4 := keepO0 hg hb4
    clear hg
    refine cv ha rfl rfl (fun w _ => r_move ha rfl) rfl rfl rfl ?_; clear ha a; intro a ha
    refine cv ha rfl rfl (fun w _ => r_indexArr (i := k) ha k Tryd.runUnderlying23 Tryd.sizeOf22 rfl rfl (by omega) (by omega)) rfl rfl rfl ?_; clear ha a; intro a ha
    refine cv ha rfl rfl (fun w ⟨hB, hb4, _⟩ => r_load ha rfl Tryd.isAgg22 (cell_of hb4 (get_map e64 l 0 k (by rw [hl]; omega)))) rfl rfl rfl ?_; clear ha a; intro a ha
    refine cv ha rfl rfl (fun w _ => r_move ha rfl) rfl rfl rfl ?_; clear ha a; intro a ha
    refine cv ha rfl rfl (fun w _ => r_move ha rfl) rfl rfl rfl ?_; clear ha a; intro a ha
    refine cv ha rfl rfl (fun w ⟨hB, hb4, _⟩ => r_indexS (i := k) ha Tryd.runUnderlying27 Tryd.sizeOf22 (hs.below hB) (C := (m).map e64) rfl rfl (by rw [List.length_map, hm]; omega)) rfl rfl rfl ?_; clear ha a; intro a ha
    refine cv ha rfl rfl (fun w ⟨hB, hb4, _⟩ => r_loadS ha rfl Tryd.isAgg22 (hs.below hB) (get_map e64 m 0 k (by rw [hm]; omega))) rfl rfl rfl ?_; clear ha a; intro a ha
    refine cv ha rfl rfl (fun w _ => r_neq ha ((l.getD k 0).toNat : Int) ((m.getD k 0).toNat : Int) (decide (l.getD k 0 ≠ m.getD k 0)) rfl rfl (neq_u64 _ _)) rfl rfl rfl ?_; clear ha a; intro a ha
    refine cfin (hK18 _ _ ?_); clear hK18 K17
    refine cond_if ha rfl (fun hc20 => ?_) (fun hc20 => ?_)
    · skip
      replace hc20 := of_decide_eq_true hc20
      refine wp_seq_k fun K21 hK22 => ?_
      refine region ?_
      refine sv ha (r_assign ha rfl) rfl rfl rfl ?_; clear ha a; intro a ha
      refine hK22 _ _ ?_; clear hK22 K21
      refine wp_ret ?_
      repeat (first | (with_reducible refine t_ret ?_) | (with_reducible refine x_ret ?_))
      exact ret1 ha Tryd.results14 rfl ⟨(by first | rw [decide_eq_true (all_eq hl hm hall)] | rw [decide_eq_false (fun e => (by subst e; contradiction))]), hB⟩
    · skip
      replace hc20 := of_decide_eq_false hc20
      refine wp_skip ?_
      refine hK16 _ _ ?_; clear hK16 K15
      refine region ?_
      refine sv ha (r_move ha rfl) rfl rfl rfl ?_; clear ha a; intro a ha
      refine sv ha (rn_add ha k 1 rfl rfl (by omega)) rfl rfl rfl ?_; clear ha a; intro a ha
      refine sv ha (r_assign ha rfl) rfl rfl rfl ?_; clear ha a; intro a ha
      exact ⟨k + 1, by omega, (by omega), (all_next hall (Decidable.not_not.1 (by assumption))), ha.to [0, 1, 2, 5] rfl, hB, hb4⟩
  · skip
    replace hc14 := of_decide_eq_false hc14
    refine wp_exit ?_
    obtain rfl : k = 25 := by omega
    refine hK6 _ _ ?_; clear hK11 K10 hK6 K5
    refine wp_seq_k fun K23 hK24 => ?_
    refine region ?_
    refine sv ha (r_assign ha rfl) rfl rfl rfl ?_; clear ha a; intro a ha
    refine hK24 _ _ ?_; clear hK24 K23
    refine wp_ret ?_
    repeat (first | (with_reducible refine t_ret ?_) | (with_reducible refine x_ret ?_))
    exact ret1 ha Tryd.results14 rfl ⟨(by first | rw [decide_eq_true (all_eq hl hm hall)] | rw [decide_eq_false (fun e => (by subst e; contradiction))]), hB⟩
end Go.Proofs.YtdfgdaeboidkhaaDoor
