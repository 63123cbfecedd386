/- WALKS written by gen.py (own program) out of specs. -/
import Derived.Test.YtdiddkcoihpnhaaDoorZ1
import Derived.Test.YtdiddkcoihpnhaaDoorNw
namespace Go.Proofs.YtdiddkcoihpnhaaDoor
open Go.RowKit Go.Rx
set_option maxRecDepth 100000
set_option maxHeartbeats 4000000
set_option linter.unusedVariables false

theorem c_doClean (x y : Int) (w0 : World) :
    Calls Tryd.prog 56 #[ei x, ei y] w0 fun e w' => e = .returned (en (zmod x)) ∧ Below w0.heap.size w0 w' := by
  refine enter (args := [_, _]) Tryd.func56 rfl Tryd.ntmps56 rfl ?_
  intro a ha
  have hB := Below.refl w0.heap.size w0
  refine wp_seq_k fun K1 hK2 => ?_
  refine region ?_
  refine sv ha (r_assign ha rfl) rfl rfl rfl ?_; clear ha a; intro a ha
  refine hK2 _ _ ?_; clear hK2 K1
  refine wp_seq_k fun K3 hK4 => ?_
  refine region ?_
  refine sv ha (r_move ha rfl) rfl rfl rfl ?_; clear ha a; intro a ha
  refine sc ha (r_call ha [ei x] rfl Tryd.call20) rfl rfl rfl (c_mod x _ ) ?_
  clear ha a
  rintro e w5 ⟨rfl, hBc⟩
  have hg := grown_call hBc; clear hBc
  replace hB := keepB0 hg hB
  clear hg
  refine ⟨_, rfl, ?_⟩; intro a ha
  refine sv ha (r_assign ha rfl) rfl rfl rfl ?_; clear ha a; intro a ha
  refine hK4 _ _ ?_; clear hK4 K3
  refine wp_ret ?_
  repeat (first | (with_reducible refine t_ret ?_) | (with_reducible refine x_ret ?_))
  exact ret1 ha Tryd.results56 rfl ⟨rfl, hB⟩

theorem c_doPlus (x y : Int) (w0 : World) :
    Calls Tryd.prog 54 #[ei x, ei y] w0 fun e w' => e = .returned (en (zadd x y)) ∧ Below w0.heap.size w0 w' := by
  refine enter (args := [_, _]) Tryd.func54 rfl Tryd.ntmps54 rfl ?_
  intro a ha
  have hB := Below.refl w0.heap.size w0
  refine wp_seq_k fun K1 hK2 => ?_
  refine region ?_
  refine sv ha (r_assign ha rfl) rfl rfl rfl ?_; clear ha a; intro a ha
  refine hK2 _ _ ?_; clear hK2 K1
  refine wp_seq_k fun K3 hK4 => ?_
  refine region ?_
  refine sv ha (r_move ha rfl) rfl rfl rfl ?_; clear ha a; intro a ha
  refine sv ha (r_move ha rfl) rfl rfl rfl ?_; clear ha a; intro a ha
  refine sc ha (r_call ha [ei x, ei y] rfl Tryd.call21) rfl rfl rfl (c_add x y _ ) ?_
  clear ha a
  rintro e w5 ⟨rfl, hBc⟩
  have hg := grown_call hBc; clear hBc
  replace hB := keepB0 hg hB
  clear hg
  refine ⟨_, rfl, ?_⟩; intro a ha
  refine sv ha (r_assign ha rfl) rfl rfl rfl ?_; clear ha a; intro a ha
  refine hK4 _ _ ?_; clear hK4 K3
  refine wp_ret ?_
  repeat (first | (with_reducible refine t_ret ?_) | (with_reducible refine x_ret ?_))
  exact ret1 ha Tryd.results54 rfl ⟨rfl, hB⟩

theorem c_doMinus (x y : Int) (w0 : World) :
    Calls Tryd.prog 55 #[ei x, ei y] w0 fun e w' => e = .returned (en (zsub x y)) ∧ Below w0.heap.size w0 w' := by
  refine enter (args := [_, _]) Tryd.func55 rfl Tryd.ntmps55 rfl ?_
  intro a ha
  have hB := Below.refl w0.heap.size w0
  refine wp_seq_k fun K1 hK2 => ?_
  refine region ?_
  refine sv ha (r_assign ha rfl) rfl rfl rfl ?_; clear ha a; intro a ha
  refine hK2 _ _ ?_; clear hK2 K1
  refine wp_seq_k fun K3 hK4 => ?_
  refine region ?_
  refine sv ha (r_move ha rfl) rfl rfl rfl ?_; clear ha a; intro a ha
  refine sv ha (r_move ha rfl) rfl rfl rfl ?_; clear ha a; intro a ha
  refine sc ha (r_call ha [ei x, ei y] rfl Tryd.call22) rfl rfl rfl (c_sub x y _ ) ?_
  clear ha a
  rintro e w5 ⟨rfl, hBc⟩
  have hg := grown_call hBc; clear hBc
  replace hB := keepB0 hg hB
  clear hg
  refine ⟨_, rfl, ?_⟩; intro a ha
  refine sv ha (r_assign ha rfl) rfl rfl rfl ?_; clear ha a; intro a ha
  refine hK4 _ _ ?_; clear hK4 K3
  refine wp_ret ?_
  repeat (first | (with_reducible refine t_ret ?_) | (with_reducible refine x_ret ?_))
  exact ret1 ha Tryd.results55 rfl ⟨rfl, hB⟩

theorem c_doInverse (x y : Int) (w0 : World) :
    Calls Tryd.prog 58 #[ei x, ei y] w0 fun e w' => e = .returned (en (zmul x 3303)) ∧ Below w0.heap.size w0 w' := by
  refine enter (args := [_, _]) Tryd.func58 rfl Tryd.ntmps58 rfl ?_
  intro a ha
  have hB := Below.refl w0.heap.size w0
  refine wp_seq_k fun K1 hK2 => ?_
  refine region ?_
  refine sv ha (r_assign ha rfl) rfl rfl rfl ?_; clear ha a; intro a ha
  refine hK2 _ _ ?_; clear hK2 K1
  refine wp_seq_k fun K3 hK4 => ?_
  refine region ?_
  refine sv ha (r_move ha rfl) rfl rfl rfl ?_; clear ha a; intro a ha
  refine sc ha (r_call ha [ei x, ei 3303] rfl Tryd.call23) rfl rfl rfl (c_mul x 3303 _ ) ?_
  clear ha a
  rintro e w5 ⟨rfl, hBc⟩
  have hg := grown_call hBc; clear hBc
  replace hB := keepB0 hg hB
  clear hg
  refine ⟨_, rfl, ?_⟩; intro a ha
  refine sv ha (r_assign ha rfl) rfl rfl rfl ?_; clear ha a; intro a ha
  refine hK4 _ _ ?_; clear hK4 K3
  refine wp_ret ?_
  repeat (first | (with_reducible refine t_ret ?_) | (with_reducible refine x_ret ?_))
  exact ret1 ha Tryd.results58 rfl ⟨rfl, hB⟩

theorem zero_34Z3 : ∀ w, (zeroValue 34).run Tryd.prog w = .ok (.agg ((List.replicate 256 (0 : Int)).map ei).toArray) w := fun _ => by kernel_rfl
theorem c_eachClean (p q : List Int) (w0 : World) (hp : p.length = 256) (hq : q.length = 256) :
    Calls Tryd.prog 53 #[.agg ((p).map ei).toArray, .agg ((q).map ei).toArray, .func (.func 56) #[] #[]] w0 fun e w' => e = .returned (.agg ((eaA (fun x _ => zmod x) p q 256).map ei).toArray) ∧ Below w0.heap.size w0 w' := by
  refine enter (args := [_, _, _]) Tryd.func53 rfl Tryd.ntmps53 rfl ?_
  intro a ha
  have hB := Below.refl w0.heap.size w0
  refine wp_seq_k fun K1 hK2 => ?_
  refine region ?_
  refine sbox ha rfl rfl ?_
  clear ha a; intro a w3 b4 ha hg hb4 hge4 hlt4
  have hz4 : w0.heap.size ≤ b4 := Nat.le_trans hB.size hge4
  replace hB := keepB0 hg hB
  clear hg hge4 hlt4
  refine sbox ha rfl rfl ?_
  clear ha a; intro a w5 b6 ha hg hb6 hge6 hlt6
  have hz6 : w0.heap.size ≤ b6 := Nat.le_trans hB.size hge6
  have hq4_6 : b4 < b6 := Nat.lt_of_lt_of_le (lt_of_block hb4) hge6
  replace hB := keepB0 hg hB
  replace hb4 := keepO0 hg hb4
  clear hg hge6 hlt6
  refine salloc ha zero_34Z3 rfl ?_
  clear ha a; intro a w7 b8 ha hg hb8 hge8 hlt8
  have hz8 : w0.heap.size ≤ b8 := Nat.le_trans hB.size hge8
  have hq4_8 : b4 < b8 := Nat.lt_of_lt_of_le (lt_of_block hb4) hge8
  have hq6_8 : b6 < b8 := Nat.lt_of_lt_of_le (lt_of_block hb6) hge8
  replace hB := keepB0 hg hB
  replace hb4 := keepO0 hg hb4
  replace hb6 := keepO0 hg hb6
  clear hg hge8 hlt8
  refine hK2 _ _ ?_; clear hK2 K1
  refine wp_seq_k fun K9 hK10 => ?_
  refine wp_seq_k fun K11 hK12 => ?_
  refine region ?_
  refine sv ha (r_move ha rfl) rfl rfl rfl ?_; clear ha a; intro a ha
  refine hK12 _ _ ?_; clear hK12 K11
  refine wp_block ?_
  refine loopG (fun (k : Nat) a w => (k ≤ 256) ∧ Has 23 [(0, .agg ((p).map ei).toArray), (1, .agg ((q).map ei).toArray), (2, .func (.func 56) #[] #[]), (3, .pointer (some ⟨b4, 0, none⟩)), (4, .pointer (some ⟨b6, 0, none⟩)), (6, .pointer (some ⟨b8, 0, none⟩)), (8, en k)] a ∧ Below w0.heap.size w0 w ∧ w.heap[b4]? = some (.cells ((eaA (fun x _ => zmod x) p q k).map ei).toArray 34 (0, 0)) ∧ w.heap[b6]? = some (.cells ((q).map ei).toArray 34 (0, 0)) ∧ w.heap[b8]? = some (.cells ((List.replicate 256 (0 : Int)).map ei).toArray 34 (0, 0))) (fun k => 256 - k) 0 ⟨(by omega), ha.to [0, 1, 2, 3, 4, 6, 8] rfl, hB, hb4, hb6, hb8⟩ ?_
  clear ha a hB hb4 hb6 hb8
  intro k a w13 ⟨hkk, ha, hB, hb4, hb6, hb8⟩
  refine wp_seq_k fun K14 hK15 => ?_
  refine region ?_
  refine sv ha (r_lss ha ((k : Nat) : Int) 256 (decide (k < 256)) rfl rfl (decide_eq_decide.2 (by omega))) rfl rfl rfl ?_; clear ha a; intro a ha
  refine hK15 _ _ ?_; clear hK15 K14
  refine wp_seq_k fun K16 hK17 => ?_
  refine cond_if ha rfl (fun hc18 => ?_) (fun hc18 => ?_)
  · skip
    replace hc18 := of_decide_eq_true hc18
    refine wp_skip ?_
    refine hK17 _ _ ?_; clear hK17 K16
    refine wp_seq_k fun K19 hK20 => ?_
    refine wp_block ?_
    refine wp_seq_k fun K21 hK22 => ?_
    refine region ?_
    refine sv ha (r_move ha rfl) rfl rfl rfl ?_; clear ha a; intro a ha
    refine sv ha (r_assign ha rfl) rfl rfl rfl ?_; clear ha a; intro a ha
    refine hK22 _ _ ?_; clear hK22 K21
    refine regionD (S := fun w => Below w0.heap.size w0 w ∧ w.heap[b4]? = some (.cells ((eaA (fun x _ => zmod x) p q k).map ei).toArray 34 (0, 0)) ∧ w.heap[b6]? = some (.cells ((q).map ei).toArray 34 (0, 0)) ∧ w.heap[b8]? = some (.cells ((List.replicate 256 (0 : Int)).map ei).toArray 34 (0, 0)) ∧ True) [10] [0, 1, 2, 3, 4, 5, 6, 7, 9] [0, 1, 2, 3, 4, 5, 6, 7, 8, 9, 10] mixed (by kernel_rfl) (fun w hg => ⟨keepB0 hg hB, keepO0 hg hb4, keepO0 hg hb6, keepO0 hg hb8, trivial⟩) ?_
    intro w23 hg
    replace hB := keepB0 hg hB
    replace hb4 := keepO0 hg hb4
    replace hb6 := keepO0 hg hb6
    replace hb8 := keepO0 hg hb8
    clear hg
    refine cv ha rfl rfl (fun w _ => r_move ha rfl) rfl rfl rfl ?_; clear ha a; intro a ha
    refine cv ha rfl rfl (fun w _ => r_move ha rfl) rfl rfl rfl ?_; clear ha a; intro a ha
    refine cv ha rfl rfl (fun w _ => r_move ha rfl) rfl rfl rfl ?_; clear ha a; intro a ha
    refine cv ha rfl rfl (fun w _ => r_indexArr (i := k) ha k Tryd.runUnderlying34 Tryd.sizeOf3 rfl rfl (by omega) (by omega)) rfl rfl rfl ?_; clear ha a; intro a ha
    refine cv ha rfl rfl (fun w ⟨hB, hb4, hb6, hb8, _⟩ => r_load ha rfl Tryd.isAgg3 (cell_of hb4 (get_map ei (eaA (fun x _ => zmod x) p q k) 0 k (by rw [eaA_len, hp]; omega)))) rfl rfl rfl ?_; clear ha a; intro a ha
    refine cv ha rfl rfl (fun w _ => r_move ha rfl) rfl rfl rfl ?_; clear ha a; intro a ha
    refine cv ha rfl rfl (fun w _ => r_indexArr (i := k) ha k Tryd.runUnderlying34 Tryd.sizeOf3 rfl rfl (by omega) (by omega)) rfl rfl rfl ?_; clear ha a; intro a ha
    refine cv ha rfl rfl (fun w ⟨hB, hb4, hb6, hb8, _⟩ => r_load ha rfl Tryd.isAgg3 (cell_of hb6 (get_map ei q 0 k (by rw [hq]; omega)))) rfl rfl rfl ?_; clear ha a; intro a ha
    refine cc ha rfl rfl (r_callV ha (cap := #[]) [ei ((eaA (fun x _ => zmod x) p q k).getD k 0), ei (q.getD k 0)] rfl rfl Tryd.call56) rfl rfl rfl (c_doClean ((eaA (fun x _ => zmod x) p q k).getD k 0) (q.getD k 0) _ ) ?_
    clear ha a
    rintro e w24 ⟨rfl, hBc⟩
    have hg := grown_call hBc; clear hBc
    replace hB := keepB0 hg hB
    replace hb4 := keepO0 hg hb4
    replace hb6 := keepO0 hg hb6
    replace hb8 := keepO0 hg hb8
    clear hg
    refine ⟨fun _ => ⟨hB, hb4, hb6, hb8, trivial⟩, _, rfl, ?_⟩; intro a ha
    refine cv ha rfl rfl (fun w _ => r_indexArr (i := k) ha k Tryd.runUnderlying34 Tryd.sizeOf3 rfl rfl (by omega) (by omega)) rfl rfl rfl ?_; clear ha a; intro a ha
    refine cstore ha rfl rfl (v := ei ((zmod ((eaA (fun x _ => zmod x) p q k).getD k 0) : Nat) : Int)) rfl rfl rfl rfl Tryd.sizeOf3 hb4 (by rw [List.length_map, eaA_len, hp]; omega) rfl ?_
    clear ha a; intro a w25 ha hg hb4'
    rw [set_map] at hb4'
    clear hb4; have hb4 := hb4'; clear hb4'
    replace hB := keepB1 hg (by omega) hB
    replace hb6 := keepO1 hg (by omega) hb6
    replace hb8 := keepO1 hg (by omega) hb8
    clear hg
    refine cfin (hK20 _ _ ?_); clear hK20 K19
    refine region ?_
    refine sv ha (rn_add ha k 1 rfl rfl (by omega)) rfl rfl rfl ?_; clear ha a; intro a ha
    refine sv ha (r_move ha rfl) rfl rfl rfl ?_; clear ha a; intro a ha
    exact ⟨k + 1, by omega, (by omega), ha.to [0, 1, 2, 3, 4, 6, 8] rfl, hB, hb4, hb6, hb8⟩
  · skip
    replace hc18 := of_decide_eq_false hc18
    refine wp_exit ?_
    obtain rfl : k = 256 := by omega
    refine hK10 _ _ ?_; clear hK17 K16 hK10 K9
    refine wp_seq_k fun K26 hK27 => ?_
    refine region ?_
    refine sv ha (r_loadR ha rfl Tryd.isAgg34 Tryd.sizeOf34 (C := (eaA (fun x _ => zmod x) p q 256).map ei) (by rw [List.length_map, eaA_len, hp]) (cells_all hb4)) rfl rfl rfl ?_; clear ha a; intro a ha
    refine sstoreW ha rfl rfl (one_ei _) Tryd.sizeOf34 (by rw [List.length_map, eaA_len, hp]) hb8 (by rw [List.length_map, List.length_replicate]) ?_
    clear ha a; intro a w28 ha hg hb8'
    clear hb8; have hb8 := hb8'; clear hb8'
    replace hB := keepB1 hg (by omega) hB
    replace hb4 := keepO1 hg (by omega) hb4
    replace hb6 := keepO1 hg (by omega) hb6
    clear hg
    refine hK27 _ _ ?_; clear hK27 K26
    refine wp_ret ?_
    repeat (first | (with_reducible refine t_ret ?_) | (with_reducible refine x_ret ?_))
    exact retC _ ha Tryd.results53 rfl hb8 Tryd.underlying34 rfl (by rw [List.length_map, eaA_len, hp]; kernel_rfl) ⟨rfl, hB⟩

theorem c_eachPlus (p q : List Int) (w0 : World) (hp : p.length = 256) (hq : q.length = 256) :
    Calls Tryd.prog 53 #[.agg ((p).map ei).toArray, .agg ((q).map ei).toArray, .func (.func 54) #[] #[]] w0 fun e w' => e = .returned (.agg ((eaA zadd p q 256).map ei).toArray) ∧ Below w0.heap.size w0 w' := by
  refine enter (args := [_, _, _]) Tryd.func53 rfl Tryd.ntmps53 rfl ?_
  intro a ha
  have hB := Below.refl w0.heap.size w0
  refine wp_seq_k fun K1 hK2 => ?_
  refine region ?_
  refine sbox ha rfl rfl ?_
  clear ha a; intro a w3 b4 ha hg hb4 hge4 hlt4
  have hz4 : w0.heap.size ≤ b4 := Nat.le_trans hB.size hge4
  replace hB := keepB0 hg hB
  clear hg hge4 hlt4
  refine sbox ha rfl rfl ?_
  clear ha a; intro a w5 b6 ha hg hb6 hge6 hlt6
  have hz6 : w0.heap.size ≤ b6 := Nat.le_trans hB.size hge6
  have hq4_6 : b4 < b6 := Nat.lt_of_lt_of_le (lt_of_block hb4) hge6
  replace hB := keepB0 hg hB
  replace hb4 := keepO0 hg hb4
  clear hg hge6 hlt6
  refine salloc ha zero_34Z3 rfl ?_
  clear ha a; intro a w7 b8 ha hg hb8 hge8 hlt8
  have hz8 : w0.heap.size ≤ b8 := Nat.le_trans hB.size hge8
  have hq4_8 : b4 < b8 := Nat.lt_of_lt_of_le (lt_of_block hb4) hge8
  have hq6_8 : b6 < b8 := Nat.lt_of_lt_of_le (lt_of_block hb6) hge8
  replace hB := keepB0 hg hB
  replace hb4 := keepO0 hg hb4
  replace hb6 := keepO0 hg hb6
  clear hg hge8 hlt8
  refine hK2 _ _ ?_; clear hK2 K1
  refine wp_seq_k fun K9 hK10 => ?_
  refine wp_seq_k fun K11 hK12 => ?_
  refine region ?_
  refine sv ha (r_move ha rfl) rfl rfl rfl ?_; clear ha a; intro a ha
  refine hK12 _ _ ?_; clear hK12 K11
  refine wp_block ?_
  refine loopG (fun (k : Nat) a w => (k ≤ 256) ∧ Has 23 [(0, .agg ((p).map ei).toArray), (1, .agg ((q).map ei).toArray), (2, .func (.func 54) #[] #[]), (3, .pointer (some ⟨b4, 0, none⟩)), (4, .pointer (some ⟨b6, 0, none⟩)), (6, .pointer (some ⟨b8, 0, none⟩)), (8, en k)] a ∧ Below w0.heap.size w0 w ∧ w.heap[b4]? = some (.cells ((eaA zadd p q k).map ei).toArray 34 (0, 0)) ∧ w.heap[b6]? = some (.cells ((q).map ei).toArray 34 (0, 0)) ∧ w.heap[b8]? = some (.cells ((List.replicate 256 (0 : Int)).map ei).toArray 34 (0, 0))) (fun k => 256 - k) 0 ⟨(by omega), ha.to [0, 1, 2, 3, 4, 6, 8] rfl, hB, hb4, hb6, hb8⟩ ?_
  clear ha a hB hb4 hb6 hb8
  intro k a w13 ⟨hkk, ha, hB, hb4, hb6, hb8⟩
  refine wp_seq_k fun K14 hK15 => ?_
  refine region ?_
  refine sv ha (r_lss ha ((k : Nat) : Int) 256 (decide (k < 256)) rfl rfl (decide_eq_decide.2 (by omega))) rfl rfl rfl ?_; clear ha a; intro a ha
  refine hK15 _ _ ?_; clear hK15 K14
  refine wp_seq_k fun K16 hK17 => ?_
  refine cond_if ha rfl (fun hc18 => ?_) (fun hc18 => ?_)
  · skip
    replace hc18 := of_decide_eq_true hc18
    refine wp_skip ?_
    refine hK17 _ _ ?_; clear hK17 K16
    refine wp_seq_k fun K19 hK20 => ?_
    refine wp_block ?_
    refine wp_seq_k fun K21 hK22 => ?_
    refine region ?_
    refine sv ha (r_move ha rfl) rfl rfl rfl ?_; clear ha a; intro a ha
    refine sv ha (r_assign ha rfl) rfl rfl rfl ?_; clear ha a; intro a ha
    refine hK22 _ _ ?_; clear hK22 K21
    refine regionD (S := fun w => Below w0.heap.size w0 w ∧ w.heap[b4]? = some (.cells ((eaA zadd p q k).map ei).toArray 34 (0, 0)) ∧ w.heap[b6]? = some (.cells ((q).map ei).toArray 34 (0, 0)) ∧ w.heap[b8]? = some (.cells ((List.replicate 256 (0 : Int)).map ei).toArray 34 (0, 0)) ∧ True) [10] [0, 1, 2, 3, 4, 5, 6, 7, 9] [0, 1, 2, 3, 4, 5, 6, 7, 8, 9, 10] mixed (by kernel_rfl) (fun w hg => ⟨keepB0 hg hB, keepO0 hg hb4, keepO0 hg hb6, keepO0 hg hb8, trivial⟩) ?_
    intro w23 hg
    replace hB := keepB0 hg hB
    replace hb4 := keepO0 hg hb4
    replace hb6 := keepO0 hg hb6
    replace hb8 := keepO0 hg hb8
    clear hg
    refine cv ha rfl rfl (fun w _ => r_move ha rfl) rfl rfl rfl ?_; clear ha a; intro a ha
    refine cv ha rfl rfl (fun w _ => r_move ha rfl) rfl rfl rfl ?_; clear ha a; intro a ha
    refine cv ha rfl rfl (fun w _ => r_move ha rfl) rfl rfl rfl ?_; clear ha a; intro a ha
    refine cv ha rfl rfl (fun w _ => r_indexArr (i := k) ha k Tryd.runUnderlying34 Tryd.sizeOf3 rfl rfl (by omega) (by omega)) rfl rfl rfl ?_; clear ha a; intro a ha
    refine cv ha rfl rfl (fun w ⟨hB, hb4, hb6, hb8, _⟩ => r_load ha rfl Tryd.isAgg3 (cell_of hb4 (get_map ei (eaA zadd p q k) 0 k (by rw [eaA_len, hp]; omega)))) rfl rfl rfl ?_; clear ha a; intro a ha
    refine cv ha rfl rfl (fun w _ => r_move ha rfl) rfl rfl rfl ?_; clear ha a; intro a ha
    refine cv ha rfl rfl (fun w _ => r_indexArr (i := k) ha k Tryd.runUnderlying34 Tryd.sizeOf3 rfl rfl (by omega) (by omega)) rfl rfl rfl ?_; clear ha a; intro a ha
    refine cv ha rfl rfl (fun w ⟨hB, hb4, hb6, hb8, _⟩ => r_load ha rfl Tryd.isAgg3 (cell_of hb6 (get_map ei q 0 k (by rw [hq]; omega)))) rfl rfl rfl ?_; clear ha a; intro a ha
    refine cc ha rfl rfl (r_callV ha (cap := #[]) [ei ((eaA zadd p q k).getD k 0), ei (q.getD k 0)] rfl rfl Tryd.call54) rfl rfl rfl (c_doPlus ((eaA zadd p q k).getD k 0) (q.getD k 0) _ ) ?_
    clear ha a
    rintro e w24 ⟨rfl, hBc⟩
    have hg := grown_call hBc; clear hBc
    replace hB := keepB0 hg hB
    replace hb4 := keepO0 hg hb4
    replace hb6 := keepO0 hg hb6
    replace hb8 := keepO0 hg hb8
    clear hg
    refine ⟨fun _ => ⟨hB, hb4, hb6, hb8, trivial⟩, _, rfl, ?_⟩; intro a ha
    refine cv ha rfl rfl (fun w _ => r_indexArr (i := k) ha k Tryd.runUnderlying34 Tryd.sizeOf3 rfl rfl (by omega) (by omega)) rfl rfl rfl ?_; clear ha a; intro a ha
    refine cstore ha rfl rfl (v := ei ((zadd ((eaA zadd p q k).getD k 0) (q.getD k 0) : Nat) : Int)) rfl rfl rfl rfl Tryd.sizeOf3 hb4 (by rw [List.length_map, eaA_len, hp]; omega) rfl ?_
    clear ha a; intro a w25 ha hg hb4'
    rw [set_map] at hb4'
    clear hb4; have hb4 := hb4'; clear hb4'
    replace hB := keepB1 hg (by omega) hB
    replace hb6 := keepO1 hg (by omega) hb6
    replace hb8 := keepO1 hg (by omega) hb8
    clear hg
    refine cfin (hK20 _ _ ?_); clear hK20 K19
    refine region ?_
    refine sv ha (rn_add ha k 1 rfl rfl (by omega)) rfl rfl rfl ?_; clear ha a; intro a ha
    refine sv ha (r_move ha rfl) rfl rfl rfl ?_; clear ha a; intro a ha
    exact ⟨k + 1, by omega, (by omega), ha.to [0, 1, 2, 3, 4, 6, 8] rfl, hB, hb4, hb6, hb8⟩
  · skip
    replace hc18 := of_decide_eq_false hc18
    refine wp_exit ?_
    obtain rfl : k = 256 := by omega
    refine hK10 _ _ ?_; clear hK17 K16 hK10 K9
    refine wp_seq_k fun K26 hK27 => ?_
    refine region ?_
    refine sv ha (r_loadR ha rfl Tryd.isAgg34 Tryd.sizeOf34 (C := (eaA zadd p q 256).map ei) (by rw [List.length_map, eaA_len, hp]) (cells_all hb4)) rfl rfl rfl ?_; clear ha a; intro a ha
    refine sstoreW ha rfl rfl (one_ei _) Tryd.sizeOf34 (by rw [List.length_map, eaA_len, hp]) hb8 (by rw [List.length_map, List.length_replicate]) ?_
    clear ha a; intro a w28 ha hg hb8'
    clear hb8; have hb8 := hb8'; clear hb8'
    replace hB := keepB1 hg (by omega) hB
    replace hb4 := keepO1 hg (by omega) hb4
    replace hb6 := keepO1 hg (by omega) hb6
    clear hg
    refine hK27 _ _ ?_; clear hK27 K26
    refine wp_ret ?_
    repeat (first | (with_reducible refine t_ret ?_) | (with_reducible refine x_ret ?_))
    exact retC _ ha Tryd.results53 rfl hb8 Tryd.underlying34 rfl (by rw [List.length_map, eaA_len, hp]; kernel_rfl) ⟨rfl, hB⟩

theorem c_eachMinus (p q : List Int) (w0 : World) (hp : p.length = 256) (hq : q.length = 256) :
    Calls Tryd.prog 53 #[.agg ((p).map ei).toArray, .agg ((q).map ei).toArray, .func (.func 55) #[] #[]] w0 fun e w' => e = .returned (.agg ((eaA zsub p q 256).map ei).toArray) ∧ Below w0.heap.size w0 w' := by
  refine enter (args := [_, _, _]) Tryd.func53 rfl Tryd.ntmps53 rfl ?_
  intro a ha
  have hB := Below.refl w0.heap.size w0
  refine wp_seq_k fun K1 hK2 => ?_
  refine region ?_
  refine sbox ha rfl rfl ?_
  clear ha a; intro a w3 b4 ha hg hb4 hge4 hlt4
  have hz4 : w0.heap.size ≤ b4 := Nat.le_trans hB.size hge4
  replace hB := keepB0 hg hB
  clear hg hge4 hlt4
  refine sbox ha rfl rfl ?_
  clear ha a; intro a w5 b6 ha hg hb6 hge6 hlt6
  have hz6 : w0.heap.size ≤ b6 := Nat.le_trans hB.size hge6
  have hq4_6 : b4 < b6 := Nat.lt_of_lt_of_le (lt_of_block hb4) hge6
  replace hB := keepB0 hg hB
  replace hb4 := keepO0 hg hb4
  clear hg hge6 hlt6
  refine salloc ha zero_34Z3 rfl ?_
  clear ha a; intro a w7 b8 ha hg hb8 hge8 hlt8
  have hz8 : w0.heap.size ≤ b8 := Nat.le_trans hB.size hge8
  have hq4_8 : b4 < b8 := Nat.lt_of_lt_of_le (lt_of_block hb4) hge8
  have hq6_8 : b6 < b8 := Nat.lt_of_lt_of_le (lt_of_block hb6) hge8
  replace hB := keepB0 hg hB
  replace hb4 := keepO0 hg hb4
  replace hb6 := keepO0 hg hb6
  clear hg hge8 hlt8
  refine hK2 _ _ ?_; clear hK2 K1
  refine wp_seq_k fun K9 hK10 => ?_
  refine wp_seq_k fun K11 hK12 => ?_
  refine region ?_
  refine sv ha (r_move ha rfl) rfl rfl rfl ?_; clear ha a; intro a ha
  refine hK12 _ _ ?_; clear hK12 K11
  refine wp_block ?_
  refine loopG (fun (k : Nat) a w => (k ≤ 256) ∧ Has 23 [(0, .agg ((p).map ei).toArray), (1, .agg ((q).map ei).toArray), (2, .func (.func 55) #[] #[]), (3, .pointer (some ⟨b4, 0, none⟩)), (4, .pointer (some ⟨b6, 0, none⟩)), (6, .pointer (some ⟨b8, 0, none⟩)), (8, en k)] a ∧ Below w0.heap.size w0 w ∧ w.heap[b4]? = some (.cells ((eaA zsub p q k).map ei).toArray 34 (0, 0)) ∧ w.heap[b6]? = some (.cells ((q).map ei).toArray 34 (0, 0)) ∧ w.heap[b8]? = some (.cells ((List.replicate 256 (0 : Int)).map ei).toArray 34 (0, 0))) (fun k => 256 - k) 0 ⟨(by omega), ha.to [0, 1, 2, 3, 4, 6, 8] rfl, hB, hb4, hb6, hb8⟩ ?_
  clear ha a hB hb4 hb6 hb8
  intro k a w13 ⟨hkk, ha, hB, hb4, hb6, hb8⟩
  refine wp_seq_k fun K14 hK15 => ?_
  refine region ?_
  refine sv ha (r_lss ha ((k : Nat) : Int) 256 (decide (k < 256)) rfl rfl (decide_eq_decide.2 (by omega))) rfl rfl rfl ?_; clear ha a; intro a ha
  refine hK15 _ _ ?_; clear hK15 K14
  refine wp_seq_k fun K16 hK17 => ?_
  refine cond_if ha rfl (fun hc18 => ?_) (fun hc18 => ?_)
  · skip
    replace hc18 := of_decide_eq_true hc18
    refine wp_skip ?_
    refine hK17 _ _ ?_; clear hK17 K16
    refine wp_seq_k fun K19 hK20 => ?_
    refine wp_block ?_
    refine wp_seq_k fun K21 hK22 => ?_
    refine region ?_
    refine sv ha (r_move ha rfl) rfl rfl rfl ?_; clear ha a; intro a ha
    refine sv ha (r_assign ha rfl) rfl rfl rfl ?_; clear ha a; intro a ha
    refine hK22 _ _ ?_; clear hK22 K21
    refine regionD (S := fun w => Below w0.heap.size w0 w ∧ w.heap[b4]? = some (.cells ((eaA zsub p q k).map ei).toArray 34 (0, 0)) ∧ w.heap[b6]? = some (.cells ((q).map ei).toArray 34 (0, 0)) ∧ w.heap[b8]? = some (.cells ((List.replicate 256 (0 : Int)).map ei).toArray 34 (0, 0)) ∧ True) [10] [0, 1, 2, 3, 4, 5, 6, 7, 9] [0, 1, 2, 3, 4, 5, 6, 7, 8, 9, 10] mixed (by kernel_rfl) (fun w hg => ⟨keepB0 hg hB, keepO0 hg hb4, keepO0 hg hb6, keepO0 hg hb8, trivial⟩) ?_
    intro w23 hg
    replace hB := keepB0 hg hB
    replace hb4 := keepO0 hg hb4
    replace hb6 := keepO0 hg hb6
    replace hb8 := keepO0 hg hb8
    clear hg
    refine cv ha rfl rfl (fun w _ => r_move ha rfl) rfl rfl rfl ?_; clear ha a; intro a ha
    refine cv ha rfl rfl (fun w _ => r_move ha rfl) rfl rfl rfl ?_; clear ha a; intro a ha
    refine cv ha rfl rfl (fun w _ => r_move ha rfl) rfl rfl rfl ?_; clear ha a; intro a ha
    refine cv ha rfl rfl (fun w _ => r_indexArr (i := k) ha k Tryd.runUnderlying34 Tryd.sizeOf3 rfl rfl (by omega) (by omega)) rfl rfl rfl ?_; clear ha a; intro a ha
    refine cv ha rfl rfl (fun w ⟨hB, hb4, hb6, hb8, _⟩ => r_load ha rfl Tryd.isAgg3 (cell_of hb4 (get_map ei (eaA zsub p q k) 0 k (by rw [eaA_len, hp]; omega)))) rfl rfl rfl ?_; clear ha a; intro a ha
    refine cv ha rfl rfl (fun w _ => r_move ha rfl) rfl rfl rfl ?_; clear ha a; intro a ha
    refine cv ha rfl rfl (fun w _ => r_indexArr (i := k) ha k Tryd.runUnderlying34 Tryd.sizeOf3 rfl rfl (by omega) (by omega)) rfl rfl rfl ?_; clear ha a; intro a ha
    refine cv ha rfl rfl (fun w ⟨hB, hb4, hb6, hb8, _⟩ => r_load ha rfl Tryd.isAgg3 (cell_of hb6 (get_map ei q 0 k (by rw [hq]; omega)))) rfl rfl rfl ?_; clear ha a; intro a ha
    refine cc ha rfl rfl (r_callV ha (cap := #[]) [ei ((eaA zsub p q k).getD k 0), ei (q.getD k 0)] rfl rfl Tryd.call55) rfl rfl rfl (c_doMinus ((eaA zsub p q k).getD k 0) (q.getD k 0) _ ) ?_
    clear ha a
    rintro e w24 ⟨rfl, hBc⟩
    have hg := grown_call hBc; clear hBc
    replace hB := keepB0 hg hB
    replace hb4 := keepO0 hg hb4
    replace hb6 := keepO0 hg hb6
    replace hb8 := keepO0 hg hb8
    clear hg
    refine ⟨fun _ => ⟨hB, hb4, hb6, hb8, trivial⟩, _, rfl, ?_⟩; intro a ha
    refine cv ha rfl rfl (fun w _ => r_indexArr (i := k) ha k Tryd.runUnderlying34 Tryd.sizeOf3 rfl rfl (by omega) (by omega)) rfl rfl rfl ?_; clear ha a; intro a ha
    refine cstore ha rfl rfl (v := ei ((zsub ((eaA zsub p q k).getD k 0) (q.getD k 0) : Nat) : Int)) rfl rfl rfl rfl Tryd.sizeOf3 hb4 (by rw [List.length_map, eaA_len, hp]; omega) rfl ?_
    clear ha a; intro a w25 ha hg hb4'
    rw [set_map] at hb4'
    clear hb4; have hb4 := hb4'; clear hb4'
    replace hB := keepB1 hg (by omega) hB
    replace hb6 := keepO1 hg (by omega) hb6
    replace hb8 := keepO1 hg (by omega) hb8
    clear hg
    refine cfin (hK20 _ _ ?_); clear hK20 K19
    refine region ?_
    refine sv ha (rn_add ha k 1 rfl rfl (by omega)) rfl rfl rfl ?_; clear ha a; intro a ha
    refine sv ha (r_move ha rfl) rfl rfl rfl ?_; clear ha a; intro a ha
    exact ⟨k + 1, by omega, (by omega), ha.to [0, 1, 2, 3, 4, 6, 8] rfl, hB, hb4, hb6, hb8⟩
  · skip
    replace hc18 := of_decide_eq_false hc18
    refine wp_exit ?_
    obtain rfl : k = 256 := by omega
    refine hK10 _ _ ?_; clear hK17 K16 hK10 K9
    refine wp_seq_k fun K26 hK27 => ?_
    refine region ?_
    refine sv ha (r_loadR ha rfl Tryd.isAgg34 Tryd.sizeOf34 (C := (eaA zsub p q 256).map ei) (by rw [List.length_map, eaA_len, hp]) (cells_all hb4)) rfl rfl rfl ?_; clear ha a; intro a ha
    refine sstoreW ha rfl rfl (one_ei _) Tryd.sizeOf34 (by rw [List.length_map, eaA_len, hp]) hb8 (by rw [List.length_map, List.length_replicate]) ?_
    clear ha a; intro a w28 ha hg hb8'
    clear hb8; have hb8 := hb8'; clear hb8'
    replace hB := keepB1 hg (by omega) hB
    replace hb4 := keepO1 hg (by omega) hb4
    replace hb6 := keepO1 hg (by omega) hb6
    clear hg
    refine hK27 _ _ ?_; clear hK27 K26
    refine wp_ret ?_
    repeat (first | (with_reducible refine t_ret ?_) | (with_reducible refine x_ret ?_))
    exact retC _ ha Tryd.results53 rfl hb8 Tryd.underlying34 rfl (by rw [List.length_map, eaA_len, hp]; kernel_rfl) ⟨rfl, hB⟩

theorem c_eachInverse (p q : List Int) (w0 : World) (hp : p.length = 256) (hq : q.length = 256) :
    Calls Tryd.prog 53 #[.agg ((p).map ei).toArray, .agg ((q).map ei).toArray, .func (.func 58) #[] #[]] w0 fun e w' => e = .returned (.agg ((eaA (fun x _ => zmul x 3303) p q 256).map ei).toArray) ∧ Below w0.heap.size w0 w' := by
  refine enter (args := [_, _, _]) Tryd.func53 rfl Tryd.ntmps53 rfl ?_
  intro a ha
  have hB := Below.refl w0.heap.size w0
  refine wp_seq_k fun K1 hK2 => ?_
  refine region ?_
  refine sbox ha rfl rfl ?_
  clear ha a; intro a w3 b4 ha hg hb4 hge4 hlt4
  have hz4 : w0.heap.size ≤ b4 := Nat.le_trans hB.size hge4
  replace hB := keepB0 hg hB
  clear hg hge4 hlt4
  refine sbox ha rfl rfl ?_
  clear ha a; intro a w5 b6 ha hg hb6 hge6 hlt6
  have hz6 : w0.heap.size ≤ b6 := Nat.le_trans hB.size hge6
  have hq4_6 : b4 < b6 := Nat.lt_of_lt_of_le (lt_of_block hb4) hge6
  replace hB := keepB0 hg hB
  replace hb4 := keepO0 hg hb4
  clear hg hge6 hlt6
  refine salloc ha zero_34Z3 rfl ?_
  clear ha a; intro a w7 b8 ha hg hb8 hge8 hlt8
  have hz8 : w0.heap.size ≤ b8 := Nat.le_trans hB.size hge8
  have hq4_8 : b4 < b8 := Nat.lt_of_lt_of_le (lt_of_block hb4) hge8
  have hq6_8 : b6 < b8 := Nat.lt_of_lt_of_le (lt_of_block hb6) hge8
  replace hB := keepB0 hg hB
  replace hb4 := keepO0 hg hb4
  replace hb6 := keepO0 hg hb6
  clear hg hge8 hlt8
  refine hK2 _ _ ?_; clear hK2 K1
  refine wp_seq_k fun K9 hK10 => ?_
  refine wp_seq_k fun K11 hK12 => ?_
  refine region ?_
  refine sv ha (r_move ha rfl) rfl rfl rfl ?_; clear ha a; intro a ha
  refine hK12 _ _ ?_; clear hK12 K11
  refine wp_block ?_
  refine loopG (fun (k : Nat) a w => (k ≤ 256) ∧ Has 23 [(0, .agg ((p).map ei).toArray), (1, .agg ((q).map ei).toArray), (2, .func (.func 58) #[] #[]), (3, .pointer (some ⟨b4, 0, none⟩)), (4, .pointer (some ⟨b6, 0, none⟩)), (6, .pointer (some ⟨b8, 0, none⟩)), (8, en k)] a ∧ Below w0.heap.size w0 w ∧ w.heap[b4]? = some (.cells ((eaA (fun x _ => zmul x 3303) p q k).map ei).toArray 34 (0, 0)) ∧ w.heap[b6]? = some (.cells ((q).map ei).toArray 34 (0, 0)) ∧ w.heap[b8]? = some (.cells ((List.replicate 256 (0 : Int)).map ei).toArray 34 (0, 0))) (fun k => 256 - k) 0 ⟨(by omega), ha.to [0, 1, 2, 3, 4, 6, 8] rfl, hB, hb4, hb6, hb8⟩ ?_
  clear ha a hB hb4 hb6 hb8
  intro k a w13 ⟨hkk, ha, hB, hb4, hb6, hb8⟩
  refine wp_seq_k fun K14 hK15 => ?_
  refine region ?_
  refine sv ha (r_lss ha ((k : Nat) : Int) 256 (decide (k < 256)) rfl rfl (decide_eq_decide.2 (by omega))) rfl rfl rfl ?_; clear ha a; intro a ha
  refine hK15 _ _ ?_; clear hK15 K14
  refine wp_seq_k fun K16 hK17 => ?_
  refine cond_if ha rfl (fun hc18 => ?_) (fun hc18 => ?_)
  · skip
    replace hc18 := of_decide_eq_true hc18
    refine wp_skip ?_
    refine hK17 _ _ ?_; clear hK17 K16
    refine wp_seq_k fun K19 hK20 => ?_
    refine wp_block ?_
    refine wp_seq_k fun K21 hK22 => ?_
    refine region ?_
    refine sv ha (r_move ha rfl) rfl rfl rfl ?_; clear ha a; intro a ha
    refine sv ha (r_assign ha rfl) rfl rfl rfl ?_; clear ha a; intro a ha
    refine hK22 _ _ ?_; clear hK22 K21
    refine regionD (S := fun w => Below w0.heap.size w0 w ∧ w.heap[b4]? = some (.cells ((eaA (fun x _ => zmul x 3303) p q k).map ei).toArray 34 (0, 0)) ∧ w.heap[b6]? = some (.cells ((q).map ei).toArray 34 (0, 0)) ∧ w.heap[b8]? = some (.cells ((List.replicate 256 (0 : Int)).map ei).toArray 34 (0, 0)) ∧ True) [10] [0, 1, 2, 3, 4, 5, 6, 7, 9] [0, 1, 2, 3, 4, 5, 6, 7, 8, 9, 10] mixed (by kernel_rfl) (fun w hg => ⟨keepB0 hg hB, keepO0 hg hb4, keepO0 hg hb6, keepO0 hg hb8, trivial⟩) ?_
    intro w23 hg
    replace hB := keepB0 hg hB
    replace hb4 := keepO0 hg hb4
    replace hb6 := keepO0 hg hb6
    replace hb8 := keepO0 hg hb8
    clear hg
    refine cv ha rfl rfl (fun w _ => r_move ha rfl) rfl rfl rfl ?_; clear ha a; intro a ha
    refine cv ha rfl rfl (fun w _ => r_move ha rfl) rfl rfl rfl ?_; clear ha a; intro a ha
    refine cv ha rfl rfl (fun w _ => r_move ha rfl) rfl rfl rfl ?_; clear ha a; intro a ha
    refine cv ha rfl rfl (fun w _ => r_indexArr (i := k) ha k Tryd.runUnderlying34 Tryd.sizeOf3 rfl rfl (by omega) (by omega)) rfl rfl rfl ?_; clear ha a; intro a ha
    refine cv ha rfl rfl (fun w ⟨hB, hb4, hb6, hb8, _⟩ => r_load ha rfl Tryd.isAgg3 (cell_of hb4 (get_map ei (eaA (fun x _ => zmul x 3303) p q k) 0 k (by rw [eaA_len, hp]; omega)))) rfl rfl rfl ?_; clear ha a; intro a ha
    refine cv ha rfl rfl (fun w _ => r_move ha rfl) rfl rfl rfl ?_; clear ha a; intro a ha
    refine cv ha rfl rfl (fun w _ => r_indexArr (i := k) ha k Tryd.runUnderlying34 Tryd.sizeOf3 rfl rfl (by omega) (by omega)) rfl rfl rfl ?_; clear ha a; intro a ha
    refine cv ha rfl rfl (fun w ⟨hB, hb4, hb6, hb8, _⟩ => r_load ha rfl Tryd.isAgg3 (cell_of hb6 (get_map ei q 0 k (by rw [hq]; omega)))) rfl rfl rfl ?_; clear ha a; intro a ha
    refine cc ha rfl rfl (r_callV ha (cap := #[]) [ei ((eaA (fun x _ => zmul x 3303) p q k).getD k 0), ei (q.getD k 0)] rfl rfl Tryd.call58) rfl rfl rfl (c_doInverse ((eaA (fun x _ => zmul x 3303) p q k).getD k 0) (q.getD k 0) _ ) ?_
    clear ha a
    rintro e w24 ⟨rfl, hBc⟩
    have hg := grown_call hBc; clear hBc
    replace hB := keepB0 hg hB
    replace hb4 := keepO0 hg hb4
    replace hb6 := keepO0 hg hb6
    replace hb8 := keepO0 hg hb8
    clear hg
    refine ⟨fun _ => ⟨hB, hb4, hb6, hb8, trivial⟩, _, rfl, ?_⟩; intro a ha
    refine cv ha rfl rfl (fun w _ => r_indexArr (i := k) ha k Tryd.runUnderlying34 Tryd.sizeOf3 rfl rfl (by omega) (by omega)) rfl rfl rfl ?_; clear ha a; intro a ha
    refine cstore ha rfl rfl (v := ei ((zmul ((eaA (fun x _ => zmul x 3303) p q k).getD k 0) 3303 : Nat) : Int)) rfl rfl rfl rfl Tryd.sizeOf3 hb4 (by rw [List.length_map, eaA_len, hp]; omega) rfl ?_
    clear ha a; intro a w25 ha hg hb4'
    rw [set_map] at hb4'
    clear hb4; have hb4 := hb4'; clear hb4'
    replace hB := keepB1 hg (by omega) hB
    replace hb6 := keepO1 hg (by omega) hb6
    replace hb8 := keepO1 hg (by omega) hb8
    clear hg
    refine cfin (hK20 _ _ ?_); clear hK20 K19
    refine region ?_
    refine sv ha (rn_add ha k 1 rfl rfl (by omega)) rfl rfl rfl ?_; clear ha a; intro a ha
    refine sv ha (r_move ha rfl) rfl rfl rfl ?_; clear ha a; intro a ha
    exact ⟨k + 1, by omega, (by omega), ha.to [0, 1, 2, 3, 4, 6, 8] rfl, hB, hb4, hb6, hb8⟩
  · skip
    replace hc18 := of_decide_eq_false hc18
    refine wp_exit ?_
    obtain rfl : k = 256 := by omega
    refine hK10 _ _ ?_; clear hK17 K16 hK10 K9
    refine wp_seq_k fun K26 hK27 => ?_
    refine region ?_
    refine sv ha (r_loadR ha rfl Tryd.isAgg34 Tryd.sizeOf34 (C := (eaA (fun x _ => zmul x 3303) p q 256).map ei) (by rw [List.length_map, eaA_len, hp]) (cells_all hb4)) rfl rfl rfl ?_; clear ha a; intro a ha
    refine sstoreW ha rfl rfl (one_ei _) Tryd.sizeOf34 (by rw [List.length_map, eaA_len, hp]) hb8 (by rw [List.length_map, List.length_replicate]) ?_
    clear ha a; intro a w28 ha hg hb8'
    clear hb8; have hb8 := hb8'; clear hb8'
    replace hB := keepB1 hg (by omega) hB
    replace hb4 := keepO1 hg (by omega) hb4
    replace hb6 := keepO1 hg (by omega) hb6
    clear hg
    refine hK27 _ _ ?_; clear hK27 K26
    refine wp_ret ?_
    repeat (first | (with_reducible refine t_ret ?_) | (with_reducible refine x_ret ?_))
    exact retC _ ha Tryd.results53 rfl hb8 Tryd.underlying34 rfl (by rw [List.length_map, eaA_len, hp]; kernel_rfl) ⟨rfl, hB⟩

theorem c_clean (p : List Int) (w0 : World) (hp : p.length = 256) :
    Calls Tryd.prog 40 #[.agg ((p).map ei).toArray] w0 fun e w' => e = .returned (.agg ((cl p).map ei).toArray) ∧ Below w0.heap.size w0 w' := by
  refine enter (args := [_]) Tryd.func40 rfl Tryd.ntmps40 rfl ?_
  intro a ha
  have hB := Below.refl w0.heap.size w0
  refine wp_seq_k fun K1 hK2 => ?_
  refine region ?_
  refine sbox ha rfl rfl ?_
  clear ha a; intro a w3 b4 ha hg hb4 hge4 hlt4
  have hz4 : w0.heap.size ≤ b4 := Nat.le_trans hB.size hge4
  replace hB := keepB0 hg hB
  clear hg hge4 hlt4
  refine salloc ha zero_34Z3 rfl ?_
  clear ha a; intro a w5 b6 ha hg hb6 hge6 hlt6
  have hz6 : w0.heap.size ≤ b6 := Nat.le_trans hB.size hge6
  have hq4_6 : b4 < b6 := Nat.lt_of_lt_of_le (lt_of_block hb4) hge6
  replace hB := keepB0 hg hB
  replace hb4 := keepO0 hg hb4
  clear hg hge6 hlt6
  refine hK2 _ _ ?_; clear hK2 K1
  refine wp_seq_k fun K7 hK8 => ?_
  refine region ?_
  refine sv ha (r_loadR ha rfl Tryd.isAgg34 Tryd.sizeOf34 (C := (p).map ei) (by rw [List.length_map, hp]) (cells_all hb4)) rfl rfl rfl ?_; clear ha a; intro a ha
  refine sv ha (r_loadR ha rfl Tryd.isAgg34 Tryd.sizeOf34 (C := (p).map ei) (by rw [List.length_map, hp]) (cells_all hb4)) rfl rfl rfl ?_; clear ha a; intro a ha
  refine sc ha (r_call ha [.agg ((p).map ei).toArray, .agg ((p).map ei).toArray, .func (.func 56) #[] #[]] rfl Tryd.call53) rfl rfl rfl (c_eachClean p p _ (by rw [hp]) (by rw [hp])) ?_
  clear ha a
  rintro e w9 ⟨rfl, hBc⟩
  have hg := grown_call hBc; clear hBc
  replace hB := keepB0 hg hB
  replace hb4 := keepO0 hg hb4
  replace hb6 := keepO0 hg hb6
  clear hg
  refine ⟨_, rfl, ?_⟩; intro a ha
  refine sstoreW ha rfl rfl (one_ei _) Tryd.sizeOf34 (by rw [List.length_map, eaA_len, hp]) hb6 (by rw [List.length_map, List.length_replicate]) ?_
  clear ha a; intro a w10 ha hg hb6'
  clear hb6; have hb6 := hb6'; clear hb6'
  replace hB := keepB1 hg (by omega) hB
  replace hb4 := keepO1 hg (by omega) hb4
  clear hg
  refine hK8 _ _ ?_; clear hK8 K7
  refine wp_ret ?_
  repeat (first | (with_reducible refine t_ret ?_) | (with_reducible refine x_ret ?_))
  exact retC _ ha Tryd.results40 rfl hb6 Tryd.underlying34 rfl (by rw [List.length_map, eaA_len, hp]; kernel_rfl) ⟨rfl, hB⟩

theorem c_plus (p q : List Int) (w0 : World) (hp : p.length = 256) (hq : q.length = 256) :
    Calls Tryd.prog 36 #[.agg ((p).map ei).toArray, .agg ((q).map ei).toArray] w0 fun e w' => e = .returned (.agg ((pl p q).map ei).toArray) ∧ Below w0.heap.size w0 w' := by
  refine enter (args := [_, _]) Tryd.func36 rfl Tryd.ntmps36 rfl ?_
  intro a ha
  have hB := Below.refl w0.heap.size w0
  refine wp_seq_k fun K1 hK2 => ?_
  refine region ?_
  refine sbox ha rfl rfl ?_
  clear ha a; intro a w3 b4 ha hg hb4 hge4 hlt4
  have hz4 : w0.heap.size ≤ b4 := Nat.le_trans hB.size hge4
  replace hB := keepB0 hg hB
  clear hg hge4 hlt4
  refine sbox ha rfl rfl ?_
  clear ha a; intro a w5 b6 ha hg hb6 hge6 hlt6
  have hz6 : w0.heap.size ≤ b6 := Nat.le_trans hB.size hge6
  have hq4_6 : b4 < b6 := Nat.lt_of_lt_of_le (lt_of_block hb4) hge6
  replace hB := keepB0 hg hB
  replace hb4 := keepO0 hg hb4
  clear hg hge6 hlt6
  refine salloc ha zero_34Z3 rfl ?_
  clear ha a; intro a w7 b8 ha hg hb8 hge8 hlt8
  have hz8 : w0.heap.size ≤ b8 := Nat.le_trans hB.size hge8
  have hq4_8 : b4 < b8 := Nat.lt_of_lt_of_le (lt_of_block hb4) hge8
  have hq6_8 : b6 < b8 := Nat.lt_of_lt_of_le (lt_of_block hb6) hge8
  replace hB := keepB0 hg hB
  replace hb4 := keepO0 hg hb4
  replace hb6 := keepO0 hg hb6
  clear hg hge8 hlt8
  refine hK2 _ _ ?_; clear hK2 K1
  refine wp_seq_k fun K9 hK10 => ?_
  refine region ?_
  refine sv ha (r_loadR ha rfl Tryd.isAgg34 Tryd.sizeOf34 (C := (p).map ei) (by rw [List.length_map, hp]) (cells_all hb4)) rfl rfl rfl ?_; clear ha a; intro a ha
  refine sv ha (r_loadR ha rfl Tryd.isAgg34 Tryd.sizeOf34 (C := (q).map ei) (by rw [List.length_map, hq]) (cells_all hb6)) rfl rfl rfl ?_; clear ha a; intro a ha
  refine sc ha (r_call ha [.agg ((p).map ei).toArray, .agg ((q).map ei).toArray, .func (.func 54) #[] #[]] rfl Tryd.call53) rfl rfl rfl (c_eachPlus p q _ (by rw [hp]) (by rw [hq])) ?_
  clear ha a
  rintro e w11 ⟨rfl, hBc⟩
  have hg := grown_call hBc; clear hBc
  replace hB := keepB0 hg hB
  replace hb4 := keepO0 hg hb4
  replace hb6 := keepO0 hg hb6
  replace hb8 := keepO0 hg hb8
  clear hg
  refine ⟨_, rfl, ?_⟩; intro a ha
  refine sstoreW ha rfl rfl (one_ei _) Tryd.sizeOf34 (by rw [List.length_map, eaA_len, hp]) hb8 (by rw [List.length_map, List.length_replicate]) ?_
  clear ha a; intro a w12 ha hg hb8'
  clear hb8; have hb8 := hb8'; clear hb8'
  replace hB := keepB1 hg (by omega) hB
  replace hb4 := keepO1 hg (by omega) hb4
  replace hb6 := keepO1 hg (by omega) hb6
  clear hg
  refine hK10 _ _ ?_; clear hK10 K9
  refine wp_ret ?_
  repeat (first | (with_reducible refine t_ret ?_) | (with_reducible refine x_ret ?_))
  exact retC _ ha Tryd.results36 rfl hb8 Tryd.underlying34 rfl (by rw [List.length_map, eaA_len, hp]; kernel_rfl) ⟨rfl, hB⟩

theorem c_minus (p q : List Int) (w0 : World) (hp : p.length = 256) (hq : q.length = 256) :
    Calls Tryd.prog 38 #[.agg ((p).map ei).toArray, .agg ((q).map ei).toArray] w0 fun e w' => e = .returned (.agg ((mi p q).map ei).toArray) ∧ Below w0.heap.size w0 w' := by
  refine enter (args := [_, _]) Tryd.func38 rfl Tryd.ntmps38 rfl ?_
  intro a ha
  have hB := Below.refl w0.heap.size w0
  refine wp_seq_k fun K1 hK2 => ?_
  refine region ?_
  refine sbox ha rfl rfl ?_
  clear ha a; intro a w3 b4 ha hg hb4 hge4 hlt4
  have hz4 : w0.heap.size ≤ b4 := Nat.le_trans hB.size hge4
  replace hB := keepB0 hg hB
  clear hg hge4 hlt4
  refine sbox ha rfl rfl ?_
  clear ha a; intro a w5 b6 ha hg hb6 hge6 hlt6
  have hz6 : w0.heap.size ≤ b6 := Nat.le_trans hB.size hge6
  have hq4_6 : b4 < b6 := Nat.lt_of_lt_of_le (lt_of_block hb4) hge6
  replace hB := keepB0 hg hB
  replace hb4 := keepO0 hg hb4
  clear hg hge6 hlt6
  refine salloc ha zero_34Z3 rfl ?_
  clear ha a; intro a w7 b8 ha hg hb8 hge8 hlt8
  have hz8 : w0.heap.size ≤ b8 := Nat.le_trans hB.size hge8
  have hq4_8 : b4 < b8 := Nat.lt_of_lt_of_le (lt_of_block hb4) hge8
  have hq6_8 : b6 < b8 := Nat.lt_of_lt_of_le (lt_of_block hb6) hge8
  replace hB := keepB0 hg hB
  replace hb4 := keepO0 hg hb4
  replace hb6 := keepO0 hg hb6
  clear hg hge8 hlt8
  refine hK2 _ _ ?_; clear hK2 K1
  refine wp_seq_k fun K9 hK10 => ?_
  refine region ?_
  refine sv ha (r_loadR ha rfl Tryd.isAgg34 Tryd.sizeOf34 (C := (p).map ei) (by rw [List.length_map, hp]) (cells_all hb4)) rfl rfl rfl ?_; clear ha a; intro a ha
  refine sv ha (r_loadR ha rfl Tryd.isAgg34 Tryd.sizeOf34 (C := (q).map ei) (by rw [List.length_map, hq]) (cells_all hb6)) rfl rfl rfl ?_; clear ha a; intro a ha
  refine sc ha (r_call ha [.agg ((p).map ei).toArray, .agg ((q).map ei).toArray, .func (.func 55) #[] #[]] rfl Tryd.call53) rfl rfl rfl (c_eachMinus p q _ (by rw [hp]) (by rw [hq])) ?_
  clear ha a
  rintro e w11 ⟨rfl, hBc⟩
  have hg := grown_call hBc; clear hBc
  replace hB := keepB0 hg hB
  replace hb4 := keepO0 hg hb4
  replace hb6 := keepO0 hg hb6
  replace hb8 := keepO0 hg hb8
  clear hg
  refine ⟨_, rfl, ?_⟩; intro a ha
  refine sstoreW ha rfl rfl (one_ei _) Tryd.sizeOf34 (by rw [List.length_map, eaA_len, hp]) hb8 (by rw [List.length_map, List.length_replicate]) ?_
  clear ha a; intro a w12 ha hg hb8'
  clear hb8; have hb8 := hb8'; clear hb8'
  replace hB := keepB1 hg (by omega) hB
  replace hb4 := keepO1 hg (by omega) hb4
  replace hb6 := keepO1 hg (by omega) hb6
  clear hg
  refine hK10 _ _ ?_; clear hK10 K9
  refine wp_ret ?_
  repeat (first | (with_reducible refine t_ret ?_) | (with_reducible refine x_ret ?_))
  exact retC _ ha Tryd.results38 rfl hb8 Tryd.underlying34 rfl (by rw [List.length_map, eaA_len, hp]; kernel_rfl) ⟨rfl, hB⟩

theorem c_fwd (p : List Int) (w0 : World) (hp : p.length = 256) (hG : Glob w0) :
    Calls Tryd.prog 42 #[.agg ((p).map ei).toArray] w0 fun e w' => e = .returned (.agg ((fwd p).map ei).toArray) ∧ Below w0.heap.size w0 w' := by
  refine enter (args := [_]) Tryd.func42 rfl Tryd.ntmps42 rfl ?_
  intro a ha
  have hB := Below.refl w0.heap.size w0
  refine wp_seq_k fun K1 hK2 => ?_
  refine region ?_
  refine sbox ha rfl rfl ?_
  clear ha a; intro a w3 b4 ha hg hb4 hge4 hlt4
  have hz4 : w0.heap.size ≤ b4 := Nat.le_trans hB.size hge4
  replace hB := keepB0 hg hB
  clear hg hge4 hlt4
  refine salloc ha zero_34Z3 rfl ?_
  clear ha a; intro a w5 b6 ha hg hb6 hge6 hlt6
  have hz6 : w0.heap.size ≤ b6 := Nat.le_trans hB.size hge6
  have hq4_6 : b4 < b6 := Nat.lt_of_lt_of_le (lt_of_block hb4) hge6
  replace hB := keepB0 hg hB
  replace hb4 := keepO0 hg hb4
  clear hg hge6 hlt6
  refine hK2 _ _ ?_; clear hK2 K1
  refine wp_seq_k fun K7 hK8 => ?_
  refine region ?_
  refine sv ha (r_loadR ha rfl Tryd.isAgg34 Tryd.sizeOf34 (C := (p).map ei) (by rw [List.length_map, hp]) (cells_all hb4)) rfl rfl rfl ?_; clear ha a; intro a ha
  refine sc ha (r_call ha [.agg ((p).map ei).toArray] rfl Tryd.call40) rfl rfl rfl (c_clean p _ (by rw [hp])) ?_
  clear ha a
  rintro e w9 ⟨rfl, hBc⟩
  have hg := grown_call hBc; clear hBc
  replace hB := keepB0 hg hB
  replace hb4 := keepO0 hg hb4
  replace hb6 := keepO0 hg hb6
  clear hg
  refine ⟨_, rfl, ?_⟩; intro a ha
  refine sstoreW ha rfl rfl (one_ei _) Tryd.sizeOf34 (by rw [List.length_map, (cl_red _ (by rw [hp])).len]) hb4 (by rw [List.length_map, hp]) ?_
  clear ha a; intro a w10 ha hg hb4'
  clear hb4; have hb4 := hb4'; clear hb4'
  replace hB := keepB1 hg (by omega) hB
  replace hb6 := keepO1 hg (by omega) hb6
  clear hg
  refine hK8 _ _ ?_; clear hK8 K7
  refine wp_seq_k fun K11 hK12 => ?_
  refine region ?_
  refine sv ha (r_assign ha rfl) rfl rfl rfl ?_; clear ha a; intro a ha
  refine hK12 _ _ ?_; clear hK12 K11
  refine wp_seq_k fun K13 hK14 => ?_
  refine wp_seq_k fun K15 hK16 => ?_
  refine region ?_
  refine sv ha (r_assign ha rfl) rfl rfl rfl ?_; clear ha a; intro a ha
  refine hK16 _ _ ?_; clear hK16 K15
  refine wp_block ?_
  refine loopG (fun (i : Nat) a w => (i ≤ 7) ∧ Has 57 [(0, .agg ((p).map ei).toArray), (1, .pointer (some ⟨b4, 0, none⟩)), (2, .pointer (some ⟨b6, 0, none⟩)), (9, .agg ((p).map ei).toArray), (10, .agg ((cl p).map ei).toArray), (3, en (kF i)), (4, en (lenF i))] a ∧ Below w0.heap.size w0 w ∧ w.heap[b4]? = some (.cells ((fwL p i).map ei).toArray 34 (0, 0)) ∧ w.heap[b6]? = some (.cells ((List.replicate 256 (0 : Int)).map ei).toArray 34 (0, 0))) (fun i => 7 - i) 0 ⟨(by omega), ha.to [0, 1, 2, 9, 10, 3, 4] rfl, hB, hb4, hb6⟩ ?_
  clear ha a hB hb4 hb6
  intro i a w17 ⟨hki, ha, hB, hb4, hb6⟩
  have hFe := F_end i (by omega)
  refine wp_seq_k fun K18 hK19 => ?_
  refine wp_seq_k fun K20 hK21 => ?_
  refine region ?_
  refine sv ha (r_move ha rfl) rfl rfl rfl ?_; clear ha a; intro a ha
  refine sv ha (r_geq ha ((lenF i : Nat) : Int) 2 (decide (lenF i ≥ 2)) rfl rfl (decide_eq_decide.2 (by omega))) rfl rfl rfl ?_; clear ha a; intro a ha
  refine hK21 _ _ ?_; clear hK21 K20
  refine cond_if ha rfl (fun hc22 => ?_) (fun hc22 => ?_)
  · skip
    replace hc22 := of_decide_eq_true hc22
    refine wp_skip ?_
    refine hK19 _ _ ?_; clear hK19 K18
    refine wp_seq_k fun K23 hK24 => ?_
    refine wp_block ?_
    refine wp_seq_k fun K25 hK26 => ?_
    refine region ?_
    refine sv ha (r_assign ha rfl) rfl rfl rfl ?_; clear ha a; intro a ha
    refine hK26 _ _ ?_; clear hK26 K25
    refine wp_block ?_
    have hF := F_facts i (by omega)
    refine loopG (fun (b : Nat) a w => (b ≤ (nbF i)) ∧ Has 57 [(0, .agg ((p).map ei).toArray), (1, .pointer (some ⟨b4, 0, none⟩)), (2, .pointer (some ⟨b6, 0, none⟩)), (9, .agg ((p).map ei).toArray), (10, .agg ((cl p).map ei).toArray), (4, en (lenF i)), (11, en (lenF i)), (12, .bool (decide (lenF i ≥ 2))), (5, en (2 * lenF i * b)), (3, en (kF i + b))] a ∧ Below w0.heap.size w0 w ∧ w.heap[b4]? = some (.cells ((fwS i (fwL p i) b).map ei).toArray 34 (0, 0)) ∧ w.heap[b6]? = some (.cells ((List.replicate 256 (0 : Int)).map ei).toArray 34 (0, 0))) (fun b => (nbF i) - b) 0 ⟨(by omega), ha.to [0, 1, 2, 9, 10, 4, 11, 12, 5, 3] rfl, hB, hb4, hb6⟩ ?_
    clear ha a hB hb4 hb6
    intro b a w27 ⟨hkb, ha, hB, hb4, hb6⟩
    have hbk := blkF (lenF i) (nbF i) b hF.1 hF.2.1
    refine wp_seq_k fun K28 hK29 => ?_
    refine wp_seq_k fun K30 hK31 => ?_
    refine region ?_
    refine sv ha (r_move ha rfl) rfl rfl rfl ?_; clear ha a; intro a ha
    refine sv ha (r_lss ha ((2 * lenF i * b : Nat) : Int) 256 (decide (2 * lenF i * b < 256)) rfl rfl (decide_eq_decide.2 (by omega))) rfl rfl rfl ?_; clear ha a; intro a ha
    refine hK31 _ _ ?_; clear hK31 K30
    refine cond_if ha rfl (fun hc32 => ?_) (fun hc32 => ?_)
    · skip
      replace hc32 := of_decide_eq_true hc32
      refine wp_skip ?_
      refine hK29 _ _ ?_; clear hK29 K28
      refine wp_seq_k fun K33 hK34 => ?_
      refine wp_block ?_
      refine wp_seq_k fun K35 hK36 => ?_
      refine region ?_
      refine sv ha (r_move ha rfl) rfl rfl rfl ?_; clear ha a; intro a ha
      refine sc ha (r_call ha [ei ((kF i + b : Nat) : Int)] rfl Tryd.call33) rfl rfl rfl (c_zeta ((kF i + b : Nat) : Int) _ (glob_keep hG hB)) ?_
      clear ha a
      rintro e w37 ⟨rfl, hBc⟩
      have hg := grown_call hBc; clear hBc
      replace hB := keepB0 hg hB
      replace hb4 := keepO0 hg hb4
      replace hb6 := keepO0 hg hb6
      clear hg
      refine ⟨_, rfl, ?_⟩; intro a ha
      refine sv ha (r_assign ha rfl) rfl rfl rfl ?_; clear ha a; intro a ha
      refine hK36 _ _ ?_; clear hK36 K35
      refine wp_seq_k fun K38 hK39 => ?_
      refine region ?_
      refine sv ha (r_move ha rfl) rfl rfl rfl ?_; clear ha a; intro a ha
      refine sv ha (rn_add ha (kF i + b) 1 rfl rfl (by omega)) rfl rfl rfl ?_; clear ha a; intro a ha
      refine sv ha (r_assign ha rfl) rfl rfl rfl ?_; clear ha a; intro a ha
      refine hK39 _ _ ?_; clear hK39 K38
      refine wp_seq_k fun K40 hK41 => ?_
      refine region ?_
      refine sv ha (r_move ha rfl) rfl rfl rfl ?_; clear ha a; intro a ha
      refine sv ha (r_assign ha rfl) rfl rfl rfl ?_; clear ha a; intro a ha
      refine hK41 _ _ ?_; clear hK41 K40
      refine wp_block ?_
      refine loopG (fun (t : Nat) a w => (t ≤ (lenF i)) ∧ Has 57 [(0, .agg ((p).map ei).toArray), (1, .pointer (some ⟨b4, 0, none⟩)), (2, .pointer (some ⟨b6, 0, none⟩)), (9, .agg ((p).map ei).toArray), (10, .agg ((cl p).map ei).toArray), (4, en (lenF i)), (11, en (lenF i)), (12, .bool (decide (lenF i ≥ 2))), (5, en (2 * lenF i * b)), (3, en ((kF i + b) + 1)), (15, en (2 * lenF i * b)), (16, .bool (decide (2 * lenF i * b < 256))), (21, en (kF i + b)), (22, en (zz ((kF i + b : Nat) : Int) 7)), (6, en (zz ((kF i + b : Nat) : Int) 7)), (23, en (kF i + b)), (24, en ((kF i + b) + 1)), (25, en (2 * lenF i * b)), (7, en (2 * lenF i * b + t))] a ∧ Below w0.heap.size w0 w ∧ w.heap[b4]? = some (.cells ((fwB ((zz ((kF i + b : Nat) : Int) 7 : Nat) : Int) (lenF i) (2 * lenF i * b) (fwS i (fwL p i) b) t).map ei).toArray 34 (0, 0)) ∧ w.heap[b6]? = some (.cells ((List.replicate 256 (0 : Int)).map ei).toArray 34 (0, 0))) (fun t => (lenF i) - t) 0 ⟨(by omega), ha.to [0, 1, 2, 9, 10, 4, 11, 12, 5, 3, 15, 16, 21, 22, 6, 23, 24, 25, 7] rfl, hB, hb4, hb6⟩ ?_
      clear ha a hB hb4 hb6
      intro t a w42 ⟨hkt, ha, hB, hb4, hb6⟩
      refine wp_seq_k fun K43 hK44 => ?_
      refine wp_seq_k fun K45 hK46 => ?_
      refine region ?_
      refine sv ha (r_move ha rfl) rfl rfl rfl ?_; clear ha a; intro a ha
      refine sv ha (r_move ha rfl) rfl rfl rfl ?_; clear ha a; intro a ha
      refine sv ha (r_move ha rfl) rfl rfl rfl ?_; clear ha a; intro a ha
      refine sv ha (rn_add ha (2 * lenF i * b) (lenF i) rfl rfl (by omega)) rfl rfl rfl ?_; clear ha a; intro a ha
      refine sv ha (r_lss ha ((2 * lenF i * b + t : Nat) : Int) (((2 * lenF i * b) + (lenF i) : Nat) : Int) (decide (2 * lenF i * b + t < (2 * lenF i * b) + (lenF i))) rfl rfl (decide_eq_decide.2 (by omega))) rfl rfl rfl ?_; clear ha a; intro a ha
      refine hK46 _ _ ?_; clear hK46 K45
      refine cond_if ha rfl (fun hc47 => ?_) (fun hc47 => ?_)
      · skip
        replace hc47 := of_decide_eq_true hc47
        refine wp_skip ?_
        refine hK44 _ _ ?_; clear hK44 K43
        refine wp_seq_k fun K48 hK49 => ?_
        refine wp_block ?_
        refine wp_seq_k fun K50 hK51 => ?_
        refine region ?_
        refine sv ha (r_move ha rfl) rfl rfl rfl ?_; clear ha a; intro a ha
        refine sv ha (r_move ha rfl) rfl rfl rfl ?_; clear ha a; intro a ha
        refine sv ha (r_move ha rfl) rfl rfl rfl ?_; clear ha a; intro a ha
        refine sv ha (rn_add ha (2 * lenF i * b + t) (lenF i) rfl rfl (by omega)) rfl rfl rfl ?_; clear ha a; intro a ha
        refine sv ha (r_indexArr (i := (2 * lenF i * b + t) + (lenF i)) ha ((2 * lenF i * b + t) + (lenF i)) Tryd.runUnderlying34 Tryd.sizeOf3 rfl rfl (by omega) (by omega)) rfl rfl rfl ?_; clear ha a; intro a ha
        refine sv ha (r_load ha rfl Tryd.isAgg3 (cell_of hb4 (get_map ei (fwB ((zz ((kF i + b : Nat) : Int) 7 : Nat) : Int) (lenF i) (2 * lenF i * b) (fwS i (fwL p i) b) t) 0 ((2 * lenF i * b + t) + (lenF i)) (by rw [fwB_len, fwS_len, fwL_len, hp]; omega)))) rfl rfl rfl ?_; clear ha a; intro a ha
        refine sc ha (r_call ha [ei ((zz ((kF i + b : Nat) : Int) 7 : Nat) : Int), ei ((fwB ((zz ((kF i + b : Nat) : Int) 7 : Nat) : Int) (lenF i) (2 * lenF i * b) (fwS i (fwL p i) b) t).getD ((2 * lenF i * b + t) + (lenF i)) 0)] rfl Tryd.call23) rfl rfl rfl (c_mul ((zz ((kF i + b : Nat) : Int) 7 : Nat) : Int) ((fwB ((zz ((kF i + b : Nat) : Int) 7 : Nat) : Int) (lenF i) (2 * lenF i * b) (fwS i (fwL p i) b) t).getD ((2 * lenF i * b + t) + (lenF i)) 0) _ ) ?_
        clear ha a
        rintro e w52 ⟨rfl, hBc⟩
        have hg := grown_call hBc; clear hBc
        replace hB := keepB0 hg hB
        replace hb4 := keepO0 hg hb4
        replace hb6 := keepO0 hg hb6
        clear hg
        refine ⟨_, rfl, ?_⟩; intro a ha
        refine sv ha (r_assign ha rfl) rfl rfl rfl ?_; clear ha a; intro a ha
        refine hK51 _ _ ?_; clear hK51 K50
        refine wp_seq_k fun K53 hK54 => ?_
        refine region ?_
        refine sv ha (r_move ha rfl) rfl rfl rfl ?_; clear ha a; intro a ha
        refine sv ha (r_move ha rfl) rfl rfl rfl ?_; clear ha a; intro a ha
        refine sv ha (rn_add ha (2 * lenF i * b + t) (lenF i) rfl rfl (by omega)) rfl rfl rfl ?_; clear ha a; intro a ha
        refine sv ha (r_move ha rfl) rfl rfl rfl ?_; clear ha a; intro a ha
        refine sv ha (r_indexArr (i := 2 * lenF i * b + t) ha (2 * lenF i * b + t) Tryd.runUnderlying34 Tryd.sizeOf3 rfl rfl (by omega) (by omega)) rfl rfl rfl ?_; clear ha a; intro a ha
        refine sv ha (r_load ha rfl Tryd.isAgg3 (cell_of hb4 (get_map ei (fwB ((zz ((kF i + b : Nat) : Int) 7 : Nat) : Int) (lenF i) (2 * lenF i * b) (fwS i (fwL p i) b) t) 0 (2 * lenF i * b + t) (by rw [fwB_len, fwS_len, fwL_len, hp]; omega)))) rfl rfl rfl ?_; clear ha a; intro a ha
        refine sv ha (r_move ha rfl) rfl rfl rfl ?_; clear ha a; intro a ha
        refine sc ha (r_call ha [ei ((fwB ((zz ((kF i + b : Nat) : Int) 7 : Nat) : Int) (lenF i) (2 * lenF i * b) (fwS i (fwL p i) b) t).getD (2 * lenF i * b + t) 0), ei ((zmul ((zz ((kF i + b : Nat) : Int) 7 : Nat) : Int) ((fwB ((zz ((kF i + b : Nat) : Int) 7 : Nat) : Int) (lenF i) (2 * lenF i * b) (fwS i (fwL p i) b) t).getD ((2 * lenF i * b + t) + (lenF i)) 0) : Nat) : Int)] rfl Tryd.call22) rfl rfl rfl (c_sub ((fwB ((zz ((kF i + b : Nat) : Int) 7 : Nat) : Int) (lenF i) (2 * lenF i * b) (fwS i (fwL p i) b) t).getD (2 * lenF i * b + t) 0) ((zmul ((zz ((kF i + b : Nat) : Int) 7 : Nat) : Int) ((fwB ((zz ((kF i + b : Nat) : Int) 7 : Nat) : Int) (lenF i) (2 * lenF i * b) (fwS i (fwL p i) b) t).getD ((2 * lenF i * b + t) + (lenF i)) 0) : Nat) : Int) _ ) ?_
        clear ha a
        rintro e w55 ⟨rfl, hBc⟩
        have hg := grown_call hBc; clear hBc
        replace hB := keepB0 hg hB
        replace hb4 := keepO0 hg hb4
        replace hb6 := keepO0 hg hb6
        clear hg
        refine ⟨_, rfl, ?_⟩; intro a ha
        refine sv ha (r_indexArr (i := (2 * lenF i * b + t) + (lenF i)) ha ((2 * lenF i * b + t) + (lenF i)) Tryd.runUnderlying34 Tryd.sizeOf3 rfl rfl (by omega) (by omega)) rfl rfl rfl ?_; clear ha a; intro a ha
        refine sstore ha (v := ei ((zsub ((fwB ((zz ((kF i + b : Nat) : Int) 7 : Nat) : Int) (lenF i) (2 * lenF i * b) (fwS i (fwL p i) b) t).getD (2 * lenF i * b + t) 0) ((zmul ((zz ((kF i + b : Nat) : Int) 7 : Nat) : Int) ((fwB ((zz ((kF i + b : Nat) : Int) 7 : Nat) : Int) (lenF i) (2 * lenF i * b) (fwS i (fwL p i) b) t).getD ((2 * lenF i * b + t) + (lenF i)) 0) : Nat) : Int) : Nat) : Int)) rfl rfl rfl rfl Tryd.sizeOf3 hb4 (by rw [List.length_map, fwB_len, fwS_len, fwL_len, hp]; omega) ?_
        clear ha a; intro a w56 ha hg hb4'
        rw [set_map] at hb4'
        clear hb4; have hb4 := hb4'; clear hb4'
        replace hB := keepB1 hg (by omega) hB
        replace hb6 := keepO1 hg (by omega) hb6
        clear hg
        refine hK54 _ _ ?_; clear hK54 K53
        refine region ?_
        refine sv ha (r_move ha rfl) rfl rfl rfl ?_; clear ha a; intro a ha
        refine sv ha (r_move ha rfl) rfl rfl rfl ?_; clear ha a; intro a ha
        refine sv ha (r_indexArr (i := 2 * lenF i * b + t) ha (2 * lenF i * b + t) Tryd.runUnderlying34 Tryd.sizeOf3 rfl rfl (by omega) (by omega)) rfl rfl rfl ?_; clear ha a; intro a ha
        refine sv ha (r_load ha rfl Tryd.isAgg3 (cell_of hb4 (get_map ei ((fwB ((zz ((kF i + b : Nat) : Int) 7 : Nat) : Int) (lenF i) (2 * lenF i * b) (fwS i (fwL p i) b) t).set ((2 * lenF i * b + t) + (lenF i)) ((zsub ((fwB ((zz ((kF i + b : Nat) : Int) 7 : Nat) : Int) (lenF i) (2 * lenF i * b) (fwS i (fwL p i) b) t).getD (2 * lenF i * b + t) 0) ((zmul ((zz ((kF i + b : Nat) : Int) 7 : Nat) : Int) ((fwB ((zz ((kF i + b : Nat) : Int) 7 : Nat) : Int) (lenF i) (2 * lenF i * b) (fwS i (fwL p i) b) t).getD ((2 * lenF i * b + t) + (lenF i)) 0) : Nat) : Int) : Nat) : Int)) 0 (2 * lenF i * b + t) (by rw [List.length_set, fwB_len, fwS_len, fwL_len, hp]; omega)))) rfl rfl rfl ?_; clear ha a; intro a ha
        refine sv ha (r_move ha rfl) rfl rfl rfl ?_; clear ha a; intro a ha
        refine sc ha (r_call ha [ei (((fwB ((zz ((kF i + b : Nat) : Int) 7 : Nat) : Int) (lenF i) (2 * lenF i * b) (fwS i (fwL p i) b) t).set ((2 * lenF i * b + t) + (lenF i)) ((zsub ((fwB ((zz ((kF i + b : Nat) : Int) 7 : Nat) : Int) (lenF i) (2 * lenF i * b) (fwS i (fwL p i) b) t).getD (2 * lenF i * b + t) 0) ((zmul ((zz ((kF i + b : Nat) : Int) 7 : Nat) : Int) ((fwB ((zz ((kF i + b : Nat) : Int) 7 : Nat) : Int) (lenF i) (2 * lenF i * b) (fwS i (fwL p i) b) t).getD ((2 * lenF i * b + t) + (lenF i)) 0) : Nat) : Int) : Nat) : Int)).getD (2 * lenF i * b + t) 0), ei ((zmul ((zz ((kF i + b : Nat) : Int) 7 : Nat) : Int) ((fwB ((zz ((kF i + b : Nat) : Int) 7 : Nat) : Int) (lenF i) (2 * lenF i * b) (fwS i (fwL p i) b) t).getD ((2 * lenF i * b + t) + (lenF i)) 0) : Nat) : Int)] rfl Tryd.call21) rfl rfl rfl (c_add (((fwB ((zz ((kF i + b : Nat) : Int) 7 : Nat) : Int) (lenF i) (2 * lenF i * b) (fwS i (fwL p i) b) t).set ((2 * lenF i * b + t) + (lenF i)) ((zsub ((fwB ((zz ((kF i + b : Nat) : Int) 7 : Nat) : Int) (lenF i) (2 * lenF i * b) (fwS i (fwL p i) b) t).getD (2 * lenF i * b + t) 0) ((zmul ((zz ((kF i + b : Nat) : Int) 7 : Nat) : Int) ((fwB ((zz ((kF i + b : Nat) : Int) 7 : Nat) : Int) (lenF i) (2 * lenF i * b) (fwS i (fwL p i) b) t).getD ((2 * lenF i * b + t) + (lenF i)) 0) : Nat) : Int) : Nat) : Int)).getD (2 * lenF i * b + t) 0) ((zmul ((zz ((kF i + b : Nat) : Int) 7 : Nat) : Int) ((fwB ((zz ((kF i + b : Nat) : Int) 7 : Nat) : Int) (lenF i) (2 * lenF i * b) (fwS i (fwL p i) b) t).getD ((2 * lenF i * b + t) + (lenF i)) 0) : Nat) : Int) _ ) ?_
        clear ha a
        rintro e w57 ⟨rfl, hBc⟩
        have hg := grown_call hBc; clear hBc
        replace hB := keepB0 hg hB
        replace hb4 := keepO0 hg hb4
        replace hb6 := keepO0 hg hb6
        clear hg
        refine ⟨_, rfl, ?_⟩; intro a ha
        refine sv ha (r_indexArr (i := 2 * lenF i * b + t) ha (2 * lenF i * b + t) Tryd.runUnderlying34 Tryd.sizeOf3 rfl rfl (by omega) (by omega)) rfl rfl rfl ?_; clear ha a; intro a ha
        refine sstore ha (v := ei ((zadd (((fwB ((zz ((kF i + b : Nat) : Int) 7 : Nat) : Int) (lenF i) (2 * lenF i * b) (fwS i (fwL p i) b) t).set ((2 * lenF i * b + t) + (lenF i)) ((zsub ((fwB ((zz ((kF i + b : Nat) : Int) 7 : Nat) : Int) (lenF i) (2 * lenF i * b) (fwS i (fwL p i) b) t).getD (2 * lenF i * b + t) 0) ((zmul ((zz ((kF i + b : Nat) : Int) 7 : Nat) : Int) ((fwB ((zz ((kF i + b : Nat) : Int) 7 : Nat) : Int) (lenF i) (2 * lenF i * b) (fwS i (fwL p i) b) t).getD ((2 * lenF i * b + t) + (lenF i)) 0) : Nat) : Int) : Nat) : Int)).getD (2 * lenF i * b + t) 0) ((zmul ((zz ((kF i + b : Nat) : Int) 7 : Nat) : Int) ((fwB ((zz ((kF i + b : Nat) : Int) 7 : Nat) : Int) (lenF i) (2 * lenF i * b) (fwS i (fwL p i) b) t).getD ((2 * lenF i * b + t) + (lenF i)) 0) : Nat) : Int) : Nat) : Int)) rfl rfl rfl rfl Tryd.sizeOf3 hb4 (by rw [List.length_map, List.length_set, fwB_len, fwS_len, fwL_len, hp]; omega) ?_
        clear ha a; intro a w58 ha hg hb4'
        rw [set_map] at hb4'
        clear hb4; have hb4 := hb4'; clear hb4'
        replace hB := keepB1 hg (by omega) hB
        replace hb6 := keepO1 hg (by omega) hb6
        clear hg
        refine hK49 _ _ ?_; clear hK49 K48
        refine region ?_
        refine sv ha (r_move ha rfl) rfl rfl rfl ?_; clear ha a; intro a ha
        refine sv ha (rn_add ha (2 * lenF i * b + t) 1 rfl rfl (by omega)) rfl rfl rfl ?_; clear ha a; intro a ha
        refine sv ha (r_assign ha rfl) rfl rfl rfl ?_; clear ha a; intro a ha
        exact ⟨t + 1, by omega, (by omega), ha.to [0, 1, 2, 9, 10, 4, 11, 12, 5, 3, 15, 16, 21, 22, 6, 23, 24, 25, 7] rfl, hB, hb4, hb6⟩
      · skip
        replace hc47 := of_decide_eq_false hc47
        refine wp_exit ?_
        obtain rfl : t = (lenF i) := by omega
        refine hK34 _ _ ?_; clear hK44 K43 hK34 K33
        refine region ?_
        refine sv ha (r_move ha rfl) rfl rfl rfl ?_; clear ha a; intro a ha
        refine sv ha (r_move ha rfl) rfl rfl rfl ?_; clear ha a; intro a ha
        refine sv ha (rn_mul ha 2 (lenF i) rfl rfl (by omega)) rfl rfl rfl ?_; clear ha a; intro a ha
        refine sv ha (rn_add ha (2 * lenF i * b) (2 * (lenF i)) rfl rfl (by omega)) rfl rfl rfl ?_; clear ha a; intro a ha
        refine sv ha (r_assign ha rfl) rfl rfl rfl ?_; clear ha a; intro a ha
        exact ⟨b + 1, by omega, (by omega), ha.to [0, 1, 2, 9, 10, 4, 11, 12, 5, 3] rfl, hB, hb4, hb6⟩
    · skip
      replace hc32 := of_decide_eq_false hc32
      refine wp_exit ?_
      obtain rfl : b = (nbF i) := by omega
      refine hK24 _ _ ?_; clear hK29 K28 hK24 K23
      refine region ?_
      refine sv ha (r_move ha rfl) rfl rfl rfl ?_; clear ha a; intro a ha
      refine sv ha (rn_quo ha (lenF i) 2 rfl rfl (by omega) (by omega)) rfl rfl rfl ?_; clear ha a; intro a ha
      refine sv ha (r_assign ha rfl) rfl rfl rfl ?_; clear ha a; intro a ha
      exact ⟨i + 1, by omega, (by omega), ha.to [0, 1, 2, 9, 10, 3, 4] rfl, hB, hb4, hb6⟩
  · skip
    replace hc22 := of_decide_eq_false hc22
    refine wp_exit ?_
    obtain rfl : i = 7 := by omega
    refine hK14 _ _ ?_; clear hK19 K18 hK14 K13
    refine wp_seq_k fun K59 hK60 => ?_
    refine region ?_
    refine sv ha (r_loadR ha rfl Tryd.isAgg34 Tryd.sizeOf34 (C := (fwL p 7).map ei) (by rw [List.length_map, fwL_len, hp]) (cells_all hb4)) rfl rfl rfl ?_; clear ha a; intro a ha
    refine sstoreW ha rfl rfl (one_ei _) Tryd.sizeOf34 (by rw [List.length_map, fwL_len, hp]) hb6 (by rw [List.length_map, List.length_replicate]) ?_
    clear ha a; intro a w61 ha hg hb6'
    clear hb6; have hb6 := hb6'; clear hb6'
    replace hB := keepB1 hg (by omega) hB
    replace hb4 := keepO1 hg (by omega) hb4
    clear hg
    refine hK60 _ _ ?_; clear hK60 K59
    refine wp_ret ?_
    repeat (first | (with_reducible refine t_ret ?_) | (with_reducible refine x_ret ?_))
    exact retC _ ha Tryd.results42 rfl hb6 Tryd.underlying34 rfl (by rw [List.length_map, fwL_len, hp]; kernel_rfl) ⟨rfl, hB⟩

theorem c_inv (p : List Int) (w0 : World) (hp : p.length = 256) (hG : Glob w0) :
    Calls Tryd.prog 44 #[.agg ((p).map ei).toArray] w0 fun e w' => e = .returned (.agg ((inv p).map ei).toArray) ∧ Below w0.heap.size w0 w' := by
  refine enter (args := [_]) Tryd.func44 rfl Tryd.ntmps44 rfl ?_
  intro a ha
  have hB := Below.refl w0.heap.size w0
  refine wp_seq_k fun K1 hK2 => ?_
  refine region ?_
  refine sbox ha rfl rfl ?_
  clear ha a; intro a w3 b4 ha hg hb4 hge4 hlt4
  have hz4 : w0.heap.size ≤ b4 := Nat.le_trans hB.size hge4
  replace hB := keepB0 hg hB
  clear hg hge4 hlt4
  refine salloc ha zero_34Z3 rfl ?_
  clear ha a; intro a w5 b6 ha hg hb6 hge6 hlt6
  have hz6 : w0.heap.size ≤ b6 := Nat.le_trans hB.size hge6
  have hq4_6 : b4 < b6 := Nat.lt_of_lt_of_le (lt_of_block hb4) hge6
  replace hB := keepB0 hg hB
  replace hb4 := keepO0 hg hb4
  clear hg hge6 hlt6
  refine hK2 _ _ ?_; clear hK2 K1
  refine wp_seq_k fun K7 hK8 => ?_
  refine region ?_
  refine sv ha (r_loadR ha rfl Tryd.isAgg34 Tryd.sizeOf34 (C := (p).map ei) (by rw [List.length_map, hp]) (cells_all hb4)) rfl rfl rfl ?_; clear ha a; intro a ha
  refine sc ha (r_call ha [.agg ((p).map ei).toArray] rfl Tryd.call40) rfl rfl rfl (c_clean p _ (by rw [hp])) ?_
  clear ha a
  rintro e w9 ⟨rfl, hBc⟩
  have hg := grown_call hBc; clear hBc
  replace hB := keepB0 hg hB
  replace hb4 := keepO0 hg hb4
  replace hb6 := keepO0 hg hb6
  clear hg
  refine ⟨_, rfl, ?_⟩; intro a ha
  refine sstoreW ha rfl rfl (one_ei _) Tryd.sizeOf34 (by rw [List.length_map, (cl_red _ (by rw [hp])).len]) hb4 (by rw [List.length_map, hp]) ?_
  clear ha a; intro a w10 ha hg hb4'
  clear hb4; have hb4 := hb4'; clear hb4'
  replace hB := keepB1 hg (by omega) hB
  replace hb6 := keepO1 hg (by omega) hb6
  clear hg
  refine hK8 _ _ ?_; clear hK8 K7
  refine wp_seq_k fun K11 hK12 => ?_
  refine region ?_
  refine sv ha (r_assign ha rfl) rfl rfl rfl ?_; clear ha a; intro a ha
  refine hK12 _ _ ?_; clear hK12 K11
  refine wp_seq_k fun K13 hK14 => ?_
  refine wp_seq_k fun K15 hK16 => ?_
  refine region ?_
  refine sv ha (r_assign ha rfl) rfl rfl rfl ?_; clear ha a; intro a ha
  refine hK16 _ _ ?_; clear hK16 K15
  refine wp_block ?_
  refine loopG (fun (i : Nat) a w => (i ≤ 7) ∧ Has 61 [(0, .agg ((p).map ei).toArray), (1, .pointer (some ⟨b4, 0, none⟩)), (2, .pointer (some ⟨b6, 0, none⟩)), (9, .agg ((p).map ei).toArray), (10, .agg ((cl p).map ei).toArray), (3, en (kI i)), (4, en (lenI i))] a ∧ Below w0.heap.size w0 w ∧ w.heap[b4]? = some (.cells ((ivL p i).map ei).toArray 34 (0, 0)) ∧ w.heap[b6]? = some (.cells ((List.replicate 256 (0 : Int)).map ei).toArray 34 (0, 0))) (fun i => 7 - i) 0 ⟨(by omega), ha.to [0, 1, 2, 9, 10, 3, 4] rfl, hB, hb4, hb6⟩ ?_
  clear ha a hB hb4 hb6
  intro i a w17 ⟨hki, ha, hB, hb4, hb6⟩
  have hFe := I_end i (by omega)
  refine wp_seq_k fun K18 hK19 => ?_
  refine wp_seq_k fun K20 hK21 => ?_
  refine region ?_
  refine sv ha (r_move ha rfl) rfl rfl rfl ?_; clear ha a; intro a ha
  refine sv ha (r_leq ha ((lenI i : Nat) : Int) 128 (decide (lenI i ≤ 128)) rfl rfl (decide_eq_decide.2 (by omega))) rfl rfl rfl ?_; clear ha a; intro a ha
  refine hK21 _ _ ?_; clear hK21 K20
  refine cond_if ha rfl (fun hc22 => ?_) (fun hc22 => ?_)
  · skip
    replace hc22 := of_decide_eq_true hc22
    refine wp_skip ?_
    refine hK19 _ _ ?_; clear hK19 K18
    refine wp_seq_k fun K23 hK24 => ?_
    refine wp_block ?_
    refine wp_seq_k fun K25 hK26 => ?_
    refine region ?_
    refine sv ha (r_assign ha rfl) rfl rfl rfl ?_; clear ha a; intro a ha
    refine hK26 _ _ ?_; clear hK26 K25
    refine wp_block ?_
    have hF := I_facts i (by omega)
    refine loopG (fun (b : Nat) a w => (b ≤ (nbI i)) ∧ Has 61 [(0, .agg ((p).map ei).toArray), (1, .pointer (some ⟨b4, 0, none⟩)), (2, .pointer (some ⟨b6, 0, none⟩)), (9, .agg ((p).map ei).toArray), (10, .agg ((cl p).map ei).toArray), (4, en (lenI i)), (11, en (lenI i)), (12, .bool (decide (lenI i ≤ 128))), (5, en (2 * lenI i * b)), (3, en (kI i - b))] a ∧ Below w0.heap.size w0 w ∧ w.heap[b4]? = some (.cells ((ivS i (ivL p i) b).map ei).toArray 34 (0, 0)) ∧ w.heap[b6]? = some (.cells ((List.replicate 256 (0 : Int)).map ei).toArray 34 (0, 0))) (fun b => (nbI i) - b) 0 ⟨(by omega), ha.to [0, 1, 2, 9, 10, 4, 11, 12, 5, 3] rfl, hB, hb4, hb6⟩ ?_
    clear ha a hB hb4 hb6
    intro b a w27 ⟨hkb, ha, hB, hb4, hb6⟩
    have hbk := blkF (lenI i) (nbI i) b hF.1 hF.2.1
    refine wp_seq_k fun K28 hK29 => ?_
    refine wp_seq_k fun K30 hK31 => ?_
    refine region ?_
    refine sv ha (r_move ha rfl) rfl rfl rfl ?_; clear ha a; intro a ha
    refine sv ha (r_lss ha ((2 * lenI i * b : Nat) : Int) 256 (decide (2 * lenI i * b < 256)) rfl rfl (decide_eq_decide.2 (by omega))) rfl rfl rfl ?_; clear ha a; intro a ha
    refine hK31 _ _ ?_; clear hK31 K30
    refine cond_if ha rfl (fun hc32 => ?_) (fun hc32 => ?_)
    · skip
      replace hc32 := of_decide_eq_true hc32
      refine wp_skip ?_
      refine hK29 _ _ ?_; clear hK29 K28
      refine wp_seq_k fun K33 hK34 => ?_
      refine wp_block ?_
      refine wp_seq_k fun K35 hK36 => ?_
      refine region ?_
      refine sv ha (r_move ha rfl) rfl rfl rfl ?_; clear ha a; intro a ha
      refine sc ha (r_call ha [ei ((kI i - b : Nat) : Int)] rfl Tryd.call33) rfl rfl rfl (c_zeta ((kI i - b : Nat) : Int) _ (glob_keep hG hB)) ?_
      clear ha a
      rintro e w37 ⟨rfl, hBc⟩
      have hg := grown_call hBc; clear hBc
      replace hB := keepB0 hg hB
      replace hb4 := keepO0 hg hb4
      replace hb6 := keepO0 hg hb6
      clear hg
      refine ⟨_, rfl, ?_⟩; intro a ha
      refine sv ha (r_assign ha rfl) rfl rfl rfl ?_; clear ha a; intro a ha
      refine hK36 _ _ ?_; clear hK36 K35
      refine wp_seq_k fun K38 hK39 => ?_
      refine region ?_
      refine sv ha (r_move ha rfl) rfl rfl rfl ?_; clear ha a; intro a ha
      refine sv ha (rn_sub ha (kI i - b) 1 rfl rfl (by omega) (by omega)) rfl rfl rfl ?_; clear ha a; intro a ha
      refine sv ha (r_assign ha rfl) rfl rfl rfl ?_; clear ha a; intro a ha
      refine hK39 _ _ ?_; clear hK39 K38
      refine wp_seq_k fun K40 hK41 => ?_
      refine region ?_
      refine sv ha (r_move ha rfl) rfl rfl rfl ?_; clear ha a; intro a ha
      refine sv ha (r_assign ha rfl) rfl rfl rfl ?_; clear ha a; intro a ha
      refine hK41 _ _ ?_; clear hK41 K40
      refine wp_block ?_
      refine loopG (fun (t : Nat) a w => (t ≤ (lenI i)) ∧ Has 61 [(0, .agg ((p).map ei).toArray), (1, .pointer (some ⟨b4, 0, none⟩)), (2, .pointer (some ⟨b6, 0, none⟩)), (9, .agg ((p).map ei).toArray), (10, .agg ((cl p).map ei).toArray), (4, en (lenI i)), (11, en (lenI i)), (12, .bool (decide (lenI i ≤ 128))), (5, en (2 * lenI i * b)), (3, en ((kI i - b) - 1)), (15, en (2 * lenI i * b)), (16, .bool (decide (2 * lenI i * b < 256))), (21, en (kI i - b)), (22, en (zz ((kI i - b : Nat) : Int) 7)), (6, en (zz ((kI i - b : Nat) : Int) 7)), (23, en (kI i - b)), (24, en ((kI i - b) - 1)), (25, en (2 * lenI i * b)), (7, en (2 * lenI i * b + t))] a ∧ Below w0.heap.size w0 w ∧ w.heap[b4]? = some (.cells ((ivB ((zz ((kI i - b : Nat) : Int) 7 : Nat) : Int) (lenI i) (2 * lenI i * b) (ivS i (ivL p i) b) t).map ei).toArray 34 (0, 0)) ∧ w.heap[b6]? = some (.cells ((List.replicate 256 (0 : Int)).map ei).toArray 34 (0, 0))) (fun t => (lenI i) - t) 0 ⟨(by omega), ha.to [0, 1, 2, 9, 10, 4, 11, 12, 5, 3, 15, 16, 21, 22, 6, 23, 24, 25, 7] rfl, hB, hb4, hb6⟩ ?_
      clear ha a hB hb4 hb6
      intro t a w42 ⟨hkt, ha, hB, hb4, hb6⟩
      refine wp_seq_k fun K43 hK44 => ?_
      refine wp_seq_k fun K45 hK46 => ?_
      refine region ?_
      refine sv ha (r_move ha rfl) rfl rfl rfl ?_; clear ha a; intro a ha
      refine sv ha (r_move ha rfl) rfl rfl rfl ?_; clear ha a; intro a ha
      refine sv ha (r_move ha rfl) rfl rfl rfl ?_; clear ha a; intro a ha
      refine sv ha (rn_add ha (2 * lenI i * b) (lenI i) rfl rfl (by omega)) rfl rfl rfl ?_; clear ha a; intro a ha
      refine sv ha (r_lss ha ((2 * lenI i * b + t : Nat) : Int) (((2 * lenI i * b) + (lenI i) : Nat) : Int) (decide (2 * lenI i * b + t < (2 * lenI i * b) + (lenI i))) rfl rfl (decide_eq_decide.2 (by omega))) rfl rfl rfl ?_; clear ha a; intro a ha
      refine hK46 _ _ ?_; clear hK46 K45
      refine cond_if ha rfl (fun hc47 => ?_) (fun hc47 => ?_)
      · skip
        replace hc47 := of_decide_eq_true hc47
        refine wp_skip ?_
        refine hK44 _ _ ?_; clear hK44 K43
        refine wp_seq_k fun K48 hK49 => ?_
        refine wp_block ?_
        refine wp_seq_k fun K50 hK51 => ?_
        refine region ?_
        refine sv ha (r_move ha rfl) rfl rfl rfl ?_; clear ha a; intro a ha
        refine sv ha (r_indexArr (i := 2 * lenI i * b + t) ha (2 * lenI i * b + t) Tryd.runUnderlying34 Tryd.sizeOf3 rfl rfl (by omega) (by omega)) rfl rfl rfl ?_; clear ha a; intro a ha
        refine sv ha (r_load ha rfl Tryd.isAgg3 (cell_of hb4 (get_map ei (ivB ((zz ((kI i - b : Nat) : Int) 7 : Nat) : Int) (lenI i) (2 * lenI i * b) (ivS i (ivL p i) b) t) 0 (2 * lenI i * b + t) (by rw [ivB_len, ivS_len, ivL_len, hp]; omega)))) rfl rfl rfl ?_; clear ha a; intro a ha
        refine sv ha (r_assign ha rfl) rfl rfl rfl ?_; clear ha a; intro a ha
        refine hK51 _ _ ?_; clear hK51 K50
        refine wp_seq_k fun K52 hK53 => ?_
        refine region ?_
        refine sv ha (r_move ha rfl) rfl rfl rfl ?_; clear ha a; intro a ha
        refine sv ha (r_move ha rfl) rfl rfl rfl ?_; clear ha a; intro a ha
        refine sv ha (r_move ha rfl) rfl rfl rfl ?_; clear ha a; intro a ha
        refine sv ha (r_move ha rfl) rfl rfl rfl ?_; clear ha a; intro a ha
        refine sv ha (rn_add ha (2 * lenI i * b + t) (lenI i) rfl rfl (by omega)) rfl rfl rfl ?_; clear ha a; intro a ha
        refine sv ha (r_indexArr (i := (2 * lenI i * b + t) + (lenI i)) ha ((2 * lenI i * b + t) + (lenI i)) Tryd.runUnderlying34 Tryd.sizeOf3 rfl rfl (by omega) (by omega)) rfl rfl rfl ?_; clear ha a; intro a ha
        refine sv ha (r_load ha rfl Tryd.isAgg3 (cell_of hb4 (get_map ei (ivB ((zz ((kI i - b : Nat) : Int) 7 : Nat) : Int) (lenI i) (2 * lenI i * b) (ivS i (ivL p i) b) t) 0 ((2 * lenI i * b + t) + (lenI i)) (by rw [ivB_len, ivS_len, ivL_len, hp]; omega)))) rfl rfl rfl ?_; clear ha a; intro a ha
        refine sc ha (r_call ha [ei ((ivB ((zz ((kI i - b : Nat) : Int) 7 : Nat) : Int) (lenI i) (2 * lenI i * b) (ivS i (ivL p i) b) t).getD (2 * lenI i * b + t) 0), ei ((ivB ((zz ((kI i - b : Nat) : Int) 7 : Nat) : Int) (lenI i) (2 * lenI i * b) (ivS i (ivL p i) b) t).getD ((2 * lenI i * b + t) + (lenI i)) 0)] rfl Tryd.call21) rfl rfl rfl (c_add ((ivB ((zz ((kI i - b : Nat) : Int) 7 : Nat) : Int) (lenI i) (2 * lenI i * b) (ivS i (ivL p i) b) t).getD (2 * lenI i * b + t) 0) ((ivB ((zz ((kI i - b : Nat) : Int) 7 : Nat) : Int) (lenI i) (2 * lenI i * b) (ivS i (ivL p i) b) t).getD ((2 * lenI i * b + t) + (lenI i)) 0) _ ) ?_
        clear ha a
        rintro e w54 ⟨rfl, hBc⟩
        have hg := grown_call hBc; clear hBc
        replace hB := keepB0 hg hB
        replace hb4 := keepO0 hg hb4
        replace hb6 := keepO0 hg hb6
        clear hg
        refine ⟨_, rfl, ?_⟩; intro a ha
        refine sv ha (r_indexArr (i := 2 * lenI i * b + t) ha (2 * lenI i * b + t) Tryd.runUnderlying34 Tryd.sizeOf3 rfl rfl (by omega) (by omega)) rfl rfl rfl ?_; clear ha a; intro a ha
        refine sstore ha (v := ei ((zadd ((ivB ((zz ((kI i - b : Nat) : Int) 7 : Nat) : Int) (lenI i) (2 * lenI i * b) (ivS i (ivL p i) b) t).getD (2 * lenI i * b + t) 0) ((ivB ((zz ((kI i - b : Nat) : Int) 7 : Nat) : Int) (lenI i) (2 * lenI i * b) (ivS i (ivL p i) b) t).getD ((2 * lenI i * b + t) + (lenI i)) 0) : Nat) : Int)) rfl rfl rfl rfl Tryd.sizeOf3 hb4 (by rw [List.length_map, ivB_len, ivS_len, ivL_len, hp]; omega) ?_
        clear ha a; intro a w55 ha hg hb4'
        rw [set_map] at hb4'
        clear hb4; have hb4 := hb4'; clear hb4'
        replace hB := keepB1 hg (by omega) hB
        replace hb6 := keepO1 hg (by omega) hb6
        clear hg
        refine hK53 _ _ ?_; clear hK53 K52
        refine region ?_
        refine sv ha (r_move ha rfl) rfl rfl rfl ?_; clear ha a; intro a ha
        refine sv ha (r_move ha rfl) rfl rfl rfl ?_; clear ha a; intro a ha
        refine sv ha (rn_add ha (2 * lenI i * b + t) (lenI i) rfl rfl (by omega)) rfl rfl rfl ?_; clear ha a; intro a ha
        refine sv ha (r_move ha rfl) rfl rfl rfl ?_; clear ha a; intro a ha
        refine sv ha (r_move ha rfl) rfl rfl rfl ?_; clear ha a; intro a ha
        refine sv ha (r_move ha rfl) rfl rfl rfl ?_; clear ha a; intro a ha
        refine sv ha (rn_add ha (2 * lenI i * b + t) (lenI i) rfl rfl (by omega)) rfl rfl rfl ?_; clear ha a; intro a ha
        refine sv ha (r_indexArr (i := (2 * lenI i * b + t) + (lenI i)) ha ((2 * lenI i * b + t) + (lenI i)) Tryd.runUnderlying34 Tryd.sizeOf3 rfl rfl (by omega) (by omega)) rfl rfl rfl ?_; clear ha a; intro a ha
        refine sv ha (r_load ha rfl Tryd.isAgg3 (cell_of hb4 (get_map ei ((ivB ((zz ((kI i - b : Nat) : Int) 7 : Nat) : Int) (lenI i) (2 * lenI i * b) (ivS i (ivL p i) b) t).set (2 * lenI i * b + t) ((zadd ((ivB ((zz ((kI i - b : Nat) : Int) 7 : Nat) : Int) (lenI i) (2 * lenI i * b) (ivS i (ivL p i) b) t).getD (2 * lenI i * b + t) 0) ((ivB ((zz ((kI i - b : Nat) : Int) 7 : Nat) : Int) (lenI i) (2 * lenI i * b) (ivS i (ivL p i) b) t).getD ((2 * lenI i * b + t) + (lenI i)) 0) : Nat) : Int)) 0 ((2 * lenI i * b + t) + (lenI i)) (by rw [List.length_set, ivB_len, ivS_len, ivL_len, hp]; omega)))) rfl rfl rfl ?_; clear ha a; intro a ha
        refine sv ha (r_move ha rfl) rfl rfl rfl ?_; clear ha a; intro a ha
        refine sc ha (r_call ha [ei (((ivB ((zz ((kI i - b : Nat) : Int) 7 : Nat) : Int) (lenI i) (2 * lenI i * b) (ivS i (ivL p i) b) t).set (2 * lenI i * b + t) ((zadd ((ivB ((zz ((kI i - b : Nat) : Int) 7 : Nat) : Int) (lenI i) (2 * lenI i * b) (ivS i (ivL p i) b) t).getD (2 * lenI i * b + t) 0) ((ivB ((zz ((kI i - b : Nat) : Int) 7 : Nat) : Int) (lenI i) (2 * lenI i * b) (ivS i (ivL p i) b) t).getD ((2 * lenI i * b + t) + (lenI i)) 0) : Nat) : Int)).getD ((2 * lenI i * b + t) + (lenI i)) 0), ei ((ivB ((zz ((kI i - b : Nat) : Int) 7 : Nat) : Int) (lenI i) (2 * lenI i * b) (ivS i (ivL p i) b) t).getD (2 * lenI i * b + t) 0)] rfl Tryd.call22) rfl rfl rfl (c_sub (((ivB ((zz ((kI i - b : Nat) : Int) 7 : Nat) : Int) (lenI i) (2 * lenI i * b) (ivS i (ivL p i) b) t).set (2 * lenI i * b + t) ((zadd ((ivB ((zz ((kI i - b : Nat) : Int) 7 : Nat) : Int) (lenI i) (2 * lenI i * b) (ivS i (ivL p i) b) t).getD (2 * lenI i * b + t) 0) ((ivB ((zz ((kI i - b : Nat) : Int) 7 : Nat) : Int) (lenI i) (2 * lenI i * b) (ivS i (ivL p i) b) t).getD ((2 * lenI i * b + t) + (lenI i)) 0) : Nat) : Int)).getD ((2 * lenI i * b + t) + (lenI i)) 0) ((ivB ((zz ((kI i - b : Nat) : Int) 7 : Nat) : Int) (lenI i) (2 * lenI i * b) (ivS i (ivL p i) b) t).getD (2 * lenI i * b + t) 0) _ ) ?_
        clear ha a
        rintro e w56 ⟨rfl, hBc⟩
        have hg := grown_call hBc; clear hBc
        replace hB := keepB0 hg hB
        replace hb4 := keepO0 hg hb4
        replace hb6 := keepO0 hg hb6
        clear hg
        refine ⟨_, rfl, ?_⟩; intro a ha
        refine sc ha (r_call ha [ei ((zz ((kI i - b : Nat) : Int) 7 : Nat) : Int), ei ((zsub (((ivB ((zz ((kI i - b : Nat) : Int) 7 : Nat) : Int) (lenI i) (2 * lenI i * b) (ivS i (ivL p i) b) t).set (2 * lenI i * b + t) ((zadd ((ivB ((zz ((kI i - b : Nat) : Int) 7 : Nat) : Int) (lenI i) (2 * lenI i * b) (ivS i (ivL p i) b) t).getD (2 * lenI i * b + t) 0) ((ivB ((zz ((kI i - b : Nat) : Int) 7 : Nat) : Int) (lenI i) (2 * lenI i * b) (ivS i (ivL p i) b) t).getD ((2 * lenI i * b + t) + (lenI i)) 0) : Nat) : Int)).getD ((2 * lenI i * b + t) + (lenI i)) 0) ((ivB ((zz ((kI i - b : Nat) : Int) 7 : Nat) : Int) (lenI i) (2 * lenI i * b) (ivS i (ivL p i) b) t).getD (2 * lenI i * b + t) 0) : Nat) : Int)] rfl Tryd.call23) rfl rfl rfl (c_mul ((zz ((kI i - b : Nat) : Int) 7 : Nat) : Int) ((zsub (((ivB ((zz ((kI i - b : Nat) : Int) 7 : Nat) : Int) (lenI i) (2 * lenI i * b) (ivS i (ivL p i) b) t).set (2 * lenI i * b + t) ((zadd ((ivB ((zz ((kI i - b : Nat) : Int) 7 : Nat) : Int) (lenI i) (2 * lenI i * b) (ivS i (ivL p i) b) t).getD (2 * lenI i * b + t) 0) ((ivB ((zz ((kI i - b : Nat) : Int) 7 : Nat) : Int) (lenI i) (2 * lenI i * b) (ivS i (ivL p i) b) t).getD ((2 * lenI i * b + t) + (lenI i)) 0) : Nat) : Int)).getD ((2 * lenI i * b + t) + (lenI i)) 0) ((ivB ((zz ((kI i - b : Nat) : Int) 7 : Nat) : Int) (lenI i) (2 * lenI i * b) (ivS i (ivL p i) b) t).getD (2 * lenI i * b + t) 0) : Nat) : Int) _ ) ?_
        clear ha a
        rintro e w57 ⟨rfl, hBc⟩
        have hg := grown_call hBc; clear hBc
        replace hB := keepB0 hg hB
        replace hb4 := keepO0 hg hb4
        replace hb6 := keepO0 hg hb6
        clear hg
        refine ⟨_, rfl, ?_⟩; intro a ha
        refine sv ha (r_indexArr (i := (2 * lenI i * b + t) + (lenI i)) ha ((2 * lenI i * b + t) + (lenI i)) Tryd.runUnderlying34 Tryd.sizeOf3 rfl rfl (by omega) (by omega)) rfl rfl rfl ?_; clear ha a; intro a ha
        refine sstore ha (v := ei ((zmul ((zz ((kI i - b : Nat) : Int) 7 : Nat) : Int) ((zsub (((ivB ((zz ((kI i - b : Nat) : Int) 7 : Nat) : Int) (lenI i) (2 * lenI i * b) (ivS i (ivL p i) b) t).set (2 * lenI i * b + t) ((zadd ((ivB ((zz ((kI i - b : Nat) : Int) 7 : Nat) : Int) (lenI i) (2 * lenI i * b) (ivS i (ivL p i) b) t).getD (2 * lenI i * b + t) 0) ((ivB ((zz ((kI i - b : Nat) : Int) 7 : Nat) : Int) (lenI i) (2 * lenI i * b) (ivS i (ivL p i) b) t).getD ((2 * lenI i * b + t) + (lenI i)) 0) : Nat) : Int)).getD ((2 * lenI i * b + t) + (lenI i)) 0) ((ivB ((zz ((kI i - b : Nat) : Int) 7 : Nat) : Int) (lenI i) (2 * lenI i * b) (ivS i (ivL p i) b) t).getD (2 * lenI i * b + t) 0) : Nat) : Int) : Nat) : Int)) rfl rfl rfl rfl Tryd.sizeOf3 hb4 (by rw [List.length_map, List.length_set, ivB_len, ivS_len, ivL_len, hp]; omega) ?_
        clear ha a; intro a w58 ha hg hb4'
        rw [set_map] at hb4'
        clear hb4; have hb4 := hb4'; clear hb4'
        replace hB := keepB1 hg (by omega) hB
        replace hb6 := keepO1 hg (by omega) hb6
        clear hg
        refine hK49 _ _ ?_; clear hK49 K48
        refine region ?_
        refine sv ha (r_move ha rfl) rfl rfl rfl ?_; clear ha a; intro a ha
        refine sv ha (rn_add ha (2 * lenI i * b + t) 1 rfl rfl (by omega)) rfl rfl rfl ?_; clear ha a; intro a ha
        refine sv ha (r_assign ha rfl) rfl rfl rfl ?_; clear ha a; intro a ha
        exact ⟨t + 1, by omega, (by omega), ha.to [0, 1, 2, 9, 10, 4, 11, 12, 5, 3, 15, 16, 21, 22, 6, 23, 24, 25, 7] rfl, hB, hb4, hb6⟩
      · skip
        replace hc47 := of_decide_eq_false hc47
        refine wp_exit ?_
        obtain rfl : t = (lenI i) := by omega
        refine hK34 _ _ ?_; clear hK44 K43 hK34 K33
        refine region ?_
        refine sv ha (r_move ha rfl) rfl rfl rfl ?_; clear ha a; intro a ha
        refine sv ha (r_move ha rfl) rfl rfl rfl ?_; clear ha a; intro a ha
        refine sv ha (rn_mul ha 2 (lenI i) rfl rfl (by omega)) rfl rfl rfl ?_; clear ha a; intro a ha
        refine sv ha (rn_add ha (2 * lenI i * b) (2 * (lenI i)) rfl rfl (by omega)) rfl rfl rfl ?_; clear ha a; intro a ha
        refine sv ha (r_assign ha rfl) rfl rfl rfl ?_; clear ha a; intro a ha
        exact ⟨b + 1, by omega, (by omega), ha.to [0, 1, 2, 9, 10, 4, 11, 12, 5, 3] rfl, hB, hb4, hb6⟩
    · skip
      replace hc32 := of_decide_eq_false hc32
      refine wp_exit ?_
      obtain rfl : b = (nbI i) := by omega
      refine hK24 _ _ ?_; clear hK29 K28 hK24 K23
      refine region ?_
      refine sv ha (r_move ha rfl) rfl rfl rfl ?_; clear ha a; intro a ha
      refine sv ha (rn_mul ha (lenI i) 2 rfl rfl (by omega)) rfl rfl rfl ?_; clear ha a; intro a ha
      refine sv ha (r_assign ha rfl) rfl rfl rfl ?_; clear ha a; intro a ha
      exact ⟨i + 1, by omega, (by omega), ha.to [0, 1, 2, 9, 10, 3, 4] rfl, hB, hb4, hb6⟩
  · skip
    replace hc22 := of_decide_eq_false hc22
    refine wp_exit ?_
    obtain rfl : i = 7 := by omega
    refine hK14 _ _ ?_; clear hK19 K18 hK14 K13
    refine wp_seq_k fun K59 hK60 => ?_
    refine region ?_
    refine sv ha (r_loadR ha rfl Tryd.isAgg34 Tryd.sizeOf34 (C := (ivL p 7).map ei) (by rw [List.length_map, ivL_len, hp]) (cells_all hb4)) rfl rfl rfl ?_; clear ha a; intro a ha
    refine sv ha (r_loadR ha rfl Tryd.isAgg34 Tryd.sizeOf34 (C := (ivL p 7).map ei) (by rw [List.length_map, ivL_len, hp]) (cells_all hb4)) rfl rfl rfl ?_; clear ha a; intro a ha
    refine sc ha (r_call ha [.agg (((ivL p 7)).map ei).toArray, .agg (((ivL p 7)).map ei).toArray, .func (.func 58) #[] #[]] rfl Tryd.call53) rfl rfl rfl (c_eachInverse (ivL p 7) (ivL p 7) _ (by rw [ivL_len, hp]) (by rw [ivL_len, hp])) ?_
    clear ha a
    rintro e w61 ⟨rfl, hBc⟩
    have hg := grown_call hBc; clear hBc
    replace hB := keepB0 hg hB
    replace hb4 := keepO0 hg hb4
    replace hb6 := keepO0 hg hb6
    clear hg
    refine ⟨_, rfl, ?_⟩; intro a ha
    refine sstoreW ha rfl rfl (one_ei _) Tryd.sizeOf34 (by rw [List.length_map, eaA_len, ivL_len, hp]) hb6 (by rw [List.length_map, List.length_replicate]) ?_
    clear ha a; intro a w62 ha hg hb6'
    clear hb6; have hb6 := hb6'; clear hb6'
    replace hB := keepB1 hg (by omega) hB
    replace hb4 := keepO1 hg (by omega) hb4
    clear hg
    refine hK60 _ _ ?_; clear hK60 K59
    refine wp_ret ?_
    repeat (first | (with_reducible refine t_ret ?_) | (with_reducible refine x_ret ?_))
    exact retC _ ha Tryd.results44 rfl hb6 Tryd.underlying34 rfl (by rw [List.length_map, eaA_len, ivL_len, hp]; kernel_rfl) ⟨rfl, hB⟩

theorem c_times (p q : List Int) (w0 : World) (hp : p.length = 256) (hq : q.length = 256) (hG : Glob w0) :
    Calls Tryd.prog 46 #[.agg ((p).map ei).toArray, .agg ((q).map ei).toArray] w0 fun e w' => e = .returned (.agg ((tms p q).map ei).toArray) ∧ Below w0.heap.size w0 w' := by
  refine enter (args := [_, _]) Tryd.func46 rfl Tryd.ntmps46 rfl ?_
  intro a ha
  have hB := Below.refl w0.heap.size w0
  refine wp_seq_k fun K1 hK2 => ?_
  refine region ?_
  refine sbox ha rfl rfl ?_
  clear ha a; intro a w3 b4 ha hg hb4 hge4 hlt4
  have hz4 : w0.heap.size ≤ b4 := Nat.le_trans hB.size hge4
  replace hB := keepB0 hg hB
  clear hg hge4 hlt4
  refine sbox ha rfl rfl ?_
  clear ha a; intro a w5 b6 ha hg hb6 hge6 hlt6
  have hz6 : w0.heap.size ≤ b6 := Nat.le_trans hB.size hge6
  have hq4_6 : b4 < b6 := Nat.lt_of_lt_of_le (lt_of_block hb4) hge6
  replace hB := keepB0 hg hB
  replace hb4 := keepO0 hg hb4
  clear hg hge6 hlt6
  refine salloc ha zero_34Z3 rfl ?_
  clear ha a; intro a w7 b8 ha hg hb8 hge8 hlt8
  have hz8 : w0.heap.size ≤ b8 := Nat.le_trans hB.size hge8
  have hq4_8 : b4 < b8 := Nat.lt_of_lt_of_le (lt_of_block hb4) hge8
  have hq6_8 : b6 < b8 := Nat.lt_of_lt_of_le (lt_of_block hb6) hge8
  replace hB := keepB0 hg hB
  replace hb4 := keepO0 hg hb4
  replace hb6 := keepO0 hg hb6
  clear hg hge8 hlt8
  refine hK2 _ _ ?_; clear hK2 K1
  refine wp_seq_k fun K9 hK10 => ?_
  refine regionD (S := fun w => Below w0.heap.size w0 w ∧ w.heap[b4]? = some (.cells ((p).map ei).toArray 34 (0, 0)) ∧ w.heap[b6]? = some (.cells ((q).map ei).toArray 34 (0, 0)) ∧ w.heap[b8]? = some (.cells ((List.replicate 256 (0 : Int)).map ei).toArray 34 (0, 0)) ∧ True) [4, 5] [0, 2] [0, 2, 1, 3, 4, 5] mixed (by kernel_rfl) (fun w hg => ⟨keepB0 hg hB, keepO0 hg hb4, keepO0 hg hb6, keepO0 hg hb8, trivial⟩) ?_
  intro w11 hg
  replace hB := keepB0 hg hB
  replace hb4 := keepO0 hg hb4
  replace hb6 := keepO0 hg hb6
  replace hb8 := keepO0 hg hb8
  clear hg
  refine cv ha rfl rfl (fun w ⟨hB, hb4, hb6, hb8, _⟩ => r_loadR ha rfl Tryd.isAgg34 Tryd.sizeOf34 (C := (p).map ei) (by rw [List.length_map, hp]) (cells_all hb4)) rfl rfl rfl ?_; clear ha a; intro a ha
  refine cv ha rfl rfl (fun w ⟨hB, hb4, hb6, hb8, _⟩ => r_loadR ha rfl Tryd.isAgg34 Tryd.sizeOf34 (C := (q).map ei) (by rw [List.length_map, hq]) (cells_all hb6)) rfl rfl rfl ?_; clear ha a; intro a ha
  refine cc ha rfl rfl (r_call ha [.agg ((p).map ei).toArray] rfl Tryd.call40) rfl rfl rfl (c_clean p _ (by rw [hp])) ?_
  clear ha a
  rintro e w12 ⟨rfl, hBc⟩
  have hg := grown_call hBc; clear hBc
  replace hB := keepB0 hg hB
  replace hb4 := keepO0 hg hb4
  replace hb6 := keepO0 hg hb6
  replace hb8 := keepO0 hg hb8
  clear hg
  refine ⟨fun _ => ⟨hB, hb4, hb6, hb8, trivial⟩, _, rfl, ?_⟩; intro a ha
  refine cc ha rfl rfl (r_call ha [.agg ((q).map ei).toArray] rfl Tryd.call40) rfl rfl rfl (c_clean q _ (by rw [hq])) ?_
  clear ha a
  rintro e w13 ⟨rfl, hBc⟩
  have hg := grown_call hBc; clear hBc
  replace hB := keepB0 hg hB
  replace hb4 := keepO0 hg hb4
  replace hb6 := keepO0 hg hb6
  replace hb8 := keepO0 hg hb8
  clear hg
  refine ⟨fun _ => ⟨hB, hb4, hb6, hb8, trivial⟩, _, rfl, ?_⟩; intro a ha
  refine cstoreW ha rfl rfl rfl rfl (one_ei _) Tryd.sizeOf34 (by rw [List.length_map, (cl_red _ (by rw [hp])).len]) hb4 (by rw [List.length_map, hp]) rfl ?_
  clear ha a; intro a w14 ha hg hb4'
  clear hb4; have hb4 := hb4'; clear hb4'
  replace hB := keepB1 hg (by omega) hB
  replace hb6 := keepO1 hg (by omega) hb6
  replace hb8 := keepO1 hg (by omega) hb8
  clear hg
  refine cstoreW ha rfl rfl rfl rfl (one_ei _) Tryd.sizeOf34 (by rw [List.length_map, (cl_red _ (by rw [hq])).len]) hb6 (by rw [List.length_map, hq]) rfl ?_
  clear ha a; intro a w15 ha hg hb6'
  clear hb6; have hb6 := hb6'; clear hb6'
  replace hB := keepB1 hg (by omega) hB
  replace hb4 := keepO1 hg (by omega) hb4
  replace hb8 := keepO1 hg (by omega) hb8
  clear hg
  refine cfin (hK10 _ _ ?_); clear hK10 K9
  refine wp_seq_k fun K16 hK17 => ?_
  refine region ?_
  refine salloc ha zero_34Z3 rfl ?_
  clear ha a; intro a w18 b19 ha hg hb19 hge19 hlt19
  have hz19 : w0.heap.size ≤ b19 := Nat.le_trans hB.size hge19
  have hq4_19 : b4 < b19 := Nat.lt_of_lt_of_le (lt_of_block hb4) hge19
  have hq6_19 : b6 < b19 := Nat.lt_of_lt_of_le (lt_of_block hb6) hge19
  have hq8_19 : b8 < b19 := Nat.lt_of_lt_of_le (lt_of_block hb8) hge19
  replace hB := keepB0 hg hB
  replace hb4 := keepO0 hg hb4
  replace hb6 := keepO0 hg hb6
  replace hb8 := keepO0 hg hb8
  clear hg hge19 hlt19
  refine hK17 _ _ ?_; clear hK17 K16
  refine wp_seq_k fun K20 hK21 => ?_
  refine wp_seq_k fun K22 hK23 => ?_
  refine region ?_
  refine sv ha (r_move ha rfl) rfl rfl rfl ?_; clear ha a; intro a ha
  refine hK23 _ _ ?_; clear hK23 K22
  refine wp_block ?_
  refine loopG (fun (i : Nat) a w => (i ≤ 128) ∧ Has 68 [(0, .agg ((p).map ei).toArray), (1, .agg ((q).map ei).toArray), (2, .pointer (some ⟨b4, 0, none⟩)), (3, .pointer (some ⟨b6, 0, none⟩)), (4, .pointer (some ⟨b8, 0, none⟩)), (12, .agg ((p).map ei).toArray), (14, .agg ((q).map ei).toArray), (13, .agg ((cl p).map ei).toArray), (15, .agg ((cl q).map ei).toArray), (5, .pointer (some ⟨b19, 0, none⟩)), (16, en i)] a ∧ Below w0.heap.size w0 w ∧ w.heap[b4]? = some (.cells ((cl p).map ei).toArray 34 (0, 0)) ∧ w.heap[b6]? = some (.cells ((cl q).map ei).toArray 34 (0, 0)) ∧ w.heap[b8]? = some (.cells ((List.replicate 256 (0 : Int)).map ei).toArray 34 (0, 0)) ∧ w.heap[b19]? = some (.cells ((tmA (cl p) (cl q) i).map ei).toArray 34 (0, 0))) (fun i => 128 - i) 0 ⟨(by omega), ha.to [0, 1, 2, 3, 4, 12, 14, 13, 15, 5, 16] rfl, hB, hb4, hb6, hb8, hb19⟩ ?_
  clear ha a hB hb4 hb6 hb8 hb19
  intro i a w24 ⟨hki, ha, hB, hb4, hb6, hb8, hb19⟩
  refine wp_seq_k fun K25 hK26 => ?_
  refine region ?_
  refine sv ha (r_lss ha ((i : Nat) : Int) 128 (decide (i < 128)) rfl rfl (decide_eq_decide.2 (by omega))) rfl rfl rfl ?_; clear ha a; intro a ha
  refine hK26 _ _ ?_; clear hK26 K25
  refine wp_seq_k fun K27 hK28 => ?_
  refine cond_if ha rfl (fun hc29 => ?_) (fun hc29 => ?_)
  · skip
    replace hc29 := of_decide_eq_true hc29
    refine wp_skip ?_
    refine hK28 _ _ ?_; clear hK28 K27
    refine wp_seq_k fun K30 hK31 => ?_
    refine wp_block ?_
    refine wp_seq_k fun K32 hK33 => ?_
    refine region ?_
    refine sv ha (r_move ha rfl) rfl rfl rfl ?_; clear ha a; intro a ha
    refine sv ha (r_assign ha rfl) rfl rfl rfl ?_; clear ha a; intro a ha
    refine hK33 _ _ ?_; clear hK33 K32
    refine wp_seq_k fun K34 hK35 => ?_
    refine region ?_
    refine sv ha (r_move ha rfl) rfl rfl rfl ?_; clear ha a; intro a ha
    refine sc ha (r_call ha [ei ((i : Nat) : Int)] rfl Tryd.call33) rfl rfl rfl (c_zeta ((i : Nat) : Int) _ (glob_keep hG hB)) ?_
    clear ha a
    rintro e w36 ⟨rfl, hBc⟩
    have hg := grown_call hBc; clear hBc
    replace hB := keepB0 hg hB
    replace hb4 := keepO0 hg hb4
    replace hb6 := keepO0 hg hb6
    replace hb8 := keepO0 hg hb8
    replace hb19 := keepO0 hg hb19
    clear hg
    refine ⟨_, rfl, ?_⟩; intro a ha
    refine sv ha (r_move ha rfl) rfl rfl rfl ?_; clear ha a; intro a ha
    refine sc ha (r_call ha [ei ((i : Nat) : Int)] rfl Tryd.call33) rfl rfl rfl (c_zeta ((i : Nat) : Int) _ (glob_keep hG hB)) ?_
    clear ha a
    rintro e w37 ⟨rfl, hBc⟩
    have hg := grown_call hBc; clear hBc
    replace hB := keepB0 hg hB
    replace hb4 := keepO0 hg hb4
    replace hb6 := keepO0 hg hb6
    replace hb8 := keepO0 hg hb8
    replace hb19 := keepO0 hg hb19
    clear hg
    refine ⟨_, rfl, ?_⟩; intro a ha
    refine sc ha (r_call ha [ei ((zz ((i : Nat) : Int) 7 : Nat) : Int), ei ((zz ((i : Nat) : Int) 7 : Nat) : Int)] rfl Tryd.call23) rfl rfl rfl (c_mul ((zz ((i : Nat) : Int) 7 : Nat) : Int) ((zz ((i : Nat) : Int) 7 : Nat) : Int) _ ) ?_
    clear ha a
    rintro e w38 ⟨rfl, hBc⟩
    have hg := grown_call hBc; clear hBc
    replace hB := keepB0 hg hB
    replace hb4 := keepO0 hg hb4
    replace hb6 := keepO0 hg hb6
    replace hb8 := keepO0 hg hb8
    replace hb19 := keepO0 hg hb19
    clear hg
    refine ⟨_, rfl, ?_⟩; intro a ha
    refine sc ha (r_call ha [ei ((zmul ((zz ((i : Nat) : Int) 7 : Nat) : Int) ((zz ((i : Nat) : Int) 7 : Nat) : Int) : Nat) : Int), ei 17] rfl Tryd.call23) rfl rfl rfl (c_mul ((zmul ((zz ((i : Nat) : Int) 7 : Nat) : Int) ((zz ((i : Nat) : Int) 7 : Nat) : Int) : Nat) : Int) 17 _ ) ?_
    clear ha a
    rintro e w39 ⟨rfl, hBc⟩
    have hg := grown_call hBc; clear hBc
    replace hB := keepB0 hg hB
    replace hb4 := keepO0 hg hb4
    replace hb6 := keepO0 hg hb6
    replace hb8 := keepO0 hg hb8
    replace hb19 := keepO0 hg hb19
    clear hg
    refine ⟨_, rfl, ?_⟩; intro a ha
    refine sv ha (r_assign ha rfl) rfl rfl rfl ?_; clear ha a; intro a ha
    refine hK35 _ _ ?_; clear hK35 K34
    refine wp_seq_k fun K40 hK41 => ?_
    refine regionD (S := fun w => Below w0.heap.size w0 w ∧ w.heap[b4]? = some (.cells ((cl p).map ei).toArray 34 (0, 0)) ∧ w.heap[b6]? = some (.cells ((cl q).map ei).toArray 34 (0, 0)) ∧ w.heap[b8]? = some (.cells ((List.replicate 256 (0 : Int)).map ei).toArray 34 (0, 0)) ∧ w.heap[b19]? = some (.cells ((tmA (cl p) (cl q) i).map ei).toArray 34 (0, 0)) ∧ True) [] [0, 1, 2, 3, 4, 5, 6, 7, 8, 9, 10, 11, 12, 13, 14, 15, 16, 17, 18, 19, 20, 21] [0, 1, 2, 3, 4, 5, 6, 7, 8, 9, 10, 11, 12, 13, 14, 15, 16, 17, 18, 19, 20, 21] mixed (by kernel_rfl) (fun w hg => ⟨keepB0 hg hB, keepO0 hg hb4, keepO0 hg hb6, keepO0 hg hb8, keepO0 hg hb19, trivial⟩) ?_
    intro w42 hg
    replace hB := keepB0 hg hB
    replace hb4 := keepO0 hg hb4
    replace hb6 := keepO0 hg hb6
    replace hb8 := keepO0 hg hb8
    replace hb19 := keepO0 hg hb19
    clear hg
    refine cv ha rfl rfl (fun w _ => r_move ha rfl) rfl rfl rfl ?_; clear ha a; intro a ha
    refine cv ha rfl rfl (fun w _ => rn_mul ha 2 i rfl rfl (by omega)) rfl rfl rfl ?_; clear ha a; intro a ha
    refine cv ha rfl rfl (fun w _ => r_indexArr (i := 2 * i) ha (2 * i) Tryd.runUnderlying34 Tryd.sizeOf3 rfl rfl (by omega) (by omega)) rfl rfl rfl ?_; clear ha a; intro a ha
    refine cv ha rfl rfl (fun w ⟨hB, hb4, hb6, hb8, hb19, _⟩ => r_load ha rfl Tryd.isAgg3 (cell_of hb4 (get_map ei (cl p) 0 (2 * i) (by rw [(cl_red _ (by rw [hp])).len]; omega)))) rfl rfl rfl ?_; clear ha a; intro a ha
    refine cv ha rfl rfl (fun w _ => r_move ha rfl) rfl rfl rfl ?_; clear ha a; intro a ha
    refine cv ha rfl rfl (fun w _ => rn_mul ha 2 i rfl rfl (by omega)) rfl rfl rfl ?_; clear ha a; intro a ha
    refine cv ha rfl rfl (fun w _ => rn_add ha (2 * i) 1 rfl rfl (by omega)) rfl rfl rfl ?_; clear ha a; intro a ha
    refine cv ha rfl rfl (fun w _ => r_indexArr (i := (2 * i) + 1) ha ((2 * i) + 1) Tryd.runUnderlying34 Tryd.sizeOf3 rfl rfl (by omega) (by omega)) rfl rfl rfl ?_; clear ha a; intro a ha
    refine cv ha rfl rfl (fun w ⟨hB, hb4, hb6, hb8, hb19, _⟩ => r_load ha rfl Tryd.isAgg3 (cell_of hb4 (get_map ei (cl p) 0 ((2 * i) + 1) (by rw [(cl_red _ (by rw [hp])).len]; omega)))) rfl rfl rfl ?_; clear ha a; intro a ha
    refine cv ha rfl rfl (fun w _ => r_move ha rfl) rfl rfl rfl ?_; clear ha a; intro a ha
    refine cv ha rfl rfl (fun w _ => rn_mul ha 2 i rfl rfl (by omega)) rfl rfl rfl ?_; clear ha a; intro a ha
    refine cv ha rfl rfl (fun w _ => r_indexArr (i := 2 * i) ha (2 * i) Tryd.runUnderlying34 Tryd.sizeOf3 rfl rfl (by omega) (by omega)) rfl rfl rfl ?_; clear ha a; intro a ha
    refine cv ha rfl rfl (fun w ⟨hB, hb4, hb6, hb8, hb19, _⟩ => r_load ha rfl Tryd.isAgg3 (cell_of hb6 (get_map ei (cl q) 0 (2 * i) (by rw [(cl_red _ (by rw [hq])).len]; omega)))) rfl rfl rfl ?_; clear ha a; intro a ha
    refine cv ha rfl rfl (fun w _ => r_move ha rfl) rfl rfl rfl ?_; clear ha a; intro a ha
    refine cv ha rfl rfl (fun w _ => rn_mul ha 2 i rfl rfl (by omega)) rfl rfl rfl ?_; clear ha a; intro a ha
    refine cv ha rfl rfl (fun w _ => rn_add ha (2 * i) 1 rfl rfl (by omega)) rfl rfl rfl ?_; clear ha a; intro a ha
    refine cv ha rfl rfl (fun w _ => r_indexArr (i := (2 * i) + 1) ha ((2 * i) + 1) Tryd.runUnderlying34 Tryd.sizeOf3 rfl rfl (by omega) (by omega)) rfl rfl rfl ?_; clear ha a; intro a ha
    refine cv ha rfl rfl (fun w ⟨hB, hb4, hb6, hb8, hb19, _⟩ => r_load ha rfl Tryd.isAgg3 (cell_of hb6 (get_map ei (cl q) 0 ((2 * i) + 1) (by rw [(cl_red _ (by rw [hq])).len]; omega)))) rfl rfl rfl ?_; clear ha a; intro a ha
    refine cv ha rfl rfl (fun w _ => r_assign ha rfl) rfl rfl rfl ?_; clear ha a; intro a ha
    refine cv ha rfl rfl (fun w _ => r_assign ha rfl) rfl rfl rfl ?_; clear ha a; intro a ha
    refine cv ha rfl rfl (fun w _ => r_assign ha rfl) rfl rfl rfl ?_; clear ha a; intro a ha
    refine cv ha rfl rfl (fun w _ => r_assign ha rfl) rfl rfl rfl ?_; clear ha a; intro a ha
    refine cfin (hK41 _ _ ?_); clear hK41 K40
    refine wp_seq_k fun K43 hK44 => ?_
    refine region ?_
    refine sv ha (r_move ha rfl) rfl rfl rfl ?_; clear ha a; intro a ha
    refine sv ha (rn_mul ha 2 i rfl rfl (by omega)) rfl rfl rfl ?_; clear ha a; intro a ha
    refine sv ha (r_move ha rfl) rfl rfl rfl ?_; clear ha a; intro a ha
    refine sv ha (r_move ha rfl) rfl rfl rfl ?_; clear ha a; intro a ha
    refine sc ha (r_call ha [ei ((cl p).getD (2 * i) 0), ei ((cl q).getD (2 * i) 0)] rfl Tryd.call23) rfl rfl rfl (c_mul ((cl p).getD (2 * i) 0) ((cl q).getD (2 * i) 0) _ ) ?_
    clear ha a
    rintro e w45 ⟨rfl, hBc⟩
    have hg := grown_call hBc; clear hBc
    replace hB := keepB0 hg hB
    replace hb4 := keepO0 hg hb4
    replace hb6 := keepO0 hg hb6
    replace hb8 := keepO0 hg hb8
    replace hb19 := keepO0 hg hb19
    clear hg
    refine ⟨_, rfl, ?_⟩; intro a ha
    refine sv ha (r_move ha rfl) rfl rfl rfl ?_; clear ha a; intro a ha
    refine sv ha (r_move ha rfl) rfl rfl rfl ?_; clear ha a; intro a ha
    refine sc ha (r_call ha [ei ((cl p).getD ((2 * i) + 1) 0), ei ((cl q).getD ((2 * i) + 1) 0)] rfl Tryd.call23) rfl rfl rfl (c_mul ((cl p).getD ((2 * i) + 1) 0) ((cl q).getD ((2 * i) + 1) 0) _ ) ?_
    clear ha a
    rintro e w46 ⟨rfl, hBc⟩
    have hg := grown_call hBc; clear hBc
    replace hB := keepB0 hg hB
    replace hb4 := keepO0 hg hb4
    replace hb6 := keepO0 hg hb6
    replace hb8 := keepO0 hg hb8
    replace hb19 := keepO0 hg hb19
    clear hg
    refine ⟨_, rfl, ?_⟩; intro a ha
    refine sv ha (r_move ha rfl) rfl rfl rfl ?_; clear ha a; intro a ha
    refine sc ha (r_call ha [ei ((zmul ((cl p).getD ((2 * i) + 1) 0) ((cl q).getD ((2 * i) + 1) 0) : Nat) : Int), ei ((zmul ((zmul ((zz ((i : Nat) : Int) 7 : Nat) : Int) ((zz ((i : Nat) : Int) 7 : Nat) : Int) : Nat) : Int) 17 : Nat) : Int)] rfl Tryd.call23) rfl rfl rfl (c_mul ((zmul ((cl p).getD ((2 * i) + 1) 0) ((cl q).getD ((2 * i) + 1) 0) : Nat) : Int) ((zmul ((zmul ((zz ((i : Nat) : Int) 7 : Nat) : Int) ((zz ((i : Nat) : Int) 7 : Nat) : Int) : Nat) : Int) 17 : Nat) : Int) _ ) ?_
    clear ha a
    rintro e w47 ⟨rfl, hBc⟩
    have hg := grown_call hBc; clear hBc
    replace hB := keepB0 hg hB
    replace hb4 := keepO0 hg hb4
    replace hb6 := keepO0 hg hb6
    replace hb8 := keepO0 hg hb8
    replace hb19 := keepO0 hg hb19
    clear hg
    refine ⟨_, rfl, ?_⟩; intro a ha
    refine sc ha (r_call ha [ei ((zmul ((cl p).getD (2 * i) 0) ((cl q).getD (2 * i) 0) : Nat) : Int), ei ((zmul ((zmul ((cl p).getD ((2 * i) + 1) 0) ((cl q).getD ((2 * i) + 1) 0) : Nat) : Int) ((zmul ((zmul ((zz ((i : Nat) : Int) 7 : Nat) : Int) ((zz ((i : Nat) : Int) 7 : Nat) : Int) : Nat) : Int) 17 : Nat) : Int) : Nat) : Int)] rfl Tryd.call21) rfl rfl rfl (c_add ((zmul ((cl p).getD (2 * i) 0) ((cl q).getD (2 * i) 0) : Nat) : Int) ((zmul ((zmul ((cl p).getD ((2 * i) + 1) 0) ((cl q).getD ((2 * i) + 1) 0) : Nat) : Int) ((zmul ((zmul ((zz ((i : Nat) : Int) 7 : Nat) : Int) ((zz ((i : Nat) : Int) 7 : Nat) : Int) : Nat) : Int) 17 : Nat) : Int) : Nat) : Int) _ ) ?_
    clear ha a
    rintro e w48 ⟨rfl, hBc⟩
    have hg := grown_call hBc; clear hBc
    replace hB := keepB0 hg hB
    replace hb4 := keepO0 hg hb4
    replace hb6 := keepO0 hg hb6
    replace hb8 := keepO0 hg hb8
    replace hb19 := keepO0 hg hb19
    clear hg
    refine ⟨_, rfl, ?_⟩; intro a ha
    refine sv ha (r_indexArr (i := 2 * i) ha (2 * i) Tryd.runUnderlying34 Tryd.sizeOf3 rfl rfl (by omega) (by omega)) rfl rfl rfl ?_; clear ha a; intro a ha
    refine sstore ha (v := ei ((zadd ((zmul ((cl p).getD (2 * i) 0) ((cl q).getD (2 * i) 0) : Nat) : Int) ((zmul ((zmul ((cl p).getD ((2 * i) + 1) 0) ((cl q).getD ((2 * i) + 1) 0) : Nat) : Int) ((zmul ((zmul ((zz ((i : Nat) : Int) 7 : Nat) : Int) ((zz ((i : Nat) : Int) 7 : Nat) : Int) : Nat) : Int) 17 : Nat) : Int) : Nat) : Int) : Nat) : Int)) rfl rfl rfl rfl Tryd.sizeOf3 hb19 (by rw [List.length_map, (tm_red _ _ _).len]; omega) ?_
    clear ha a; intro a w49 ha hg hb19'
    rw [set_map] at hb19'
    clear hb19; have hb19 := hb19'; clear hb19'
    replace hB := keepB1 hg (by omega) hB
    replace hb4 := keepO1 hg (by omega) hb4
    replace hb6 := keepO1 hg (by omega) hb6
    replace hb8 := keepO1 hg (by omega) hb8
    clear hg
    refine hK44 _ _ ?_; clear hK44 K43
    refine region ?_
    refine sv ha (r_move ha rfl) rfl rfl rfl ?_; clear ha a; intro a ha
    refine sv ha (rn_mul ha 2 i rfl rfl (by omega)) rfl rfl rfl ?_; clear ha a; intro a ha
    refine sv ha (rn_add ha (2 * i) 1 rfl rfl (by omega)) rfl rfl rfl ?_; clear ha a; intro a ha
    refine sv ha (r_move ha rfl) rfl rfl rfl ?_; clear ha a; intro a ha
    refine sv ha (r_move ha rfl) rfl rfl rfl ?_; clear ha a; intro a ha
    refine sc ha (r_call ha [ei ((cl p).getD (2 * i) 0), ei ((cl q).getD ((2 * i) + 1) 0)] rfl Tryd.call23) rfl rfl rfl (c_mul ((cl p).getD (2 * i) 0) ((cl q).getD ((2 * i) + 1) 0) _ ) ?_
    clear ha a
    rintro e w50 ⟨rfl, hBc⟩
    have hg := grown_call hBc; clear hBc
    replace hB := keepB0 hg hB
    replace hb4 := keepO0 hg hb4
    replace hb6 := keepO0 hg hb6
    replace hb8 := keepO0 hg hb8
    replace hb19 := keepO0 hg hb19
    clear hg
    refine ⟨_, rfl, ?_⟩; intro a ha
    refine sv ha (r_move ha rfl) rfl rfl rfl ?_; clear ha a; intro a ha
    refine sv ha (r_move ha rfl) rfl rfl rfl ?_; clear ha a; intro a ha
    refine sc ha (r_call ha [ei ((cl p).getD ((2 * i) + 1) 0), ei ((cl q).getD (2 * i) 0)] rfl Tryd.call23) rfl rfl rfl (c_mul ((cl p).getD ((2 * i) + 1) 0) ((cl q).getD (2 * i) 0) _ ) ?_
    clear ha a
    rintro e w51 ⟨rfl, hBc⟩
    have hg := grown_call hBc; clear hBc
    replace hB := keepB0 hg hB
    replace hb4 := keepO0 hg hb4
    replace hb6 := keepO0 hg hb6
    replace hb8 := keepO0 hg hb8
    replace hb19 := keepO0 hg hb19
    clear hg
    refine ⟨_, rfl, ?_⟩; intro a ha
    refine sc ha (r_call ha [ei ((zmul ((cl p).getD (2 * i) 0) ((cl q).getD ((2 * i) + 1) 0) : Nat) : Int), ei ((zmul ((cl p).getD ((2 * i) + 1) 0) ((cl q).getD (2 * i) 0) : Nat) : Int)] rfl Tryd.call21) rfl rfl rfl (c_add ((zmul ((cl p).getD (2 * i) 0) ((cl q).getD ((2 * i) + 1) 0) : Nat) : Int) ((zmul ((cl p).getD ((2 * i) + 1) 0) ((cl q).getD (2 * i) 0) : Nat) : Int) _ ) ?_
    clear ha a
    rintro e w52 ⟨rfl, hBc⟩
    have hg := grown_call hBc; clear hBc
    replace hB := keepB0 hg hB
    replace hb4 := keepO0 hg hb4
    replace hb6 := keepO0 hg hb6
    replace hb8 := keepO0 hg hb8
    replace hb19 := keepO0 hg hb19
    clear hg
    refine ⟨_, rfl, ?_⟩; intro a ha
    refine sv ha (r_indexArr (i := (2 * i) + 1) ha ((2 * i) + 1) Tryd.runUnderlying34 Tryd.sizeOf3 rfl rfl (by omega) (by omega)) rfl rfl rfl ?_; clear ha a; intro a ha
    refine sstore ha (v := ei ((zadd ((zmul ((cl p).getD (2 * i) 0) ((cl q).getD ((2 * i) + 1) 0) : Nat) : Int) ((zmul ((cl p).getD ((2 * i) + 1) 0) ((cl q).getD (2 * i) 0) : Nat) : Int) : Nat) : Int)) rfl rfl rfl rfl Tryd.sizeOf3 hb19 (by rw [List.length_map, List.length_set, (tm_red _ _ _).len]; omega) ?_
    clear ha a; intro a w53 ha hg hb19'
    rw [set_map] at hb19'
    clear hb19; have hb19 := hb19'; clear hb19'
    replace hB := keepB1 hg (by omega) hB
    replace hb4 := keepO1 hg (by omega) hb4
    replace hb6 := keepO1 hg (by omega) hb6
    replace hb8 := keepO1 hg (by omega) hb8
    clear hg
    refine hK31 _ _ ?_; clear hK31 K30
    refine region ?_
    refine sv ha (rn_add ha i 1 rfl rfl (by omega)) rfl rfl rfl ?_; clear ha a; intro a ha
    refine sv ha (r_move ha rfl) rfl rfl rfl ?_; clear ha a; intro a ha
    exact ⟨i + 1, by omega, (by omega), ha.to [0, 1, 2, 3, 4, 12, 14, 13, 15, 5, 16] rfl, hB, hb4, hb6, hb8, hb19⟩
  · skip
    replace hc29 := of_decide_eq_false hc29
    refine wp_exit ?_
    obtain rfl : i = 128 := by omega
    refine hK21 _ _ ?_; clear hK28 K27 hK21 K20
    refine wp_seq_k fun K54 hK55 => ?_
    refine region ?_
    refine sv ha (r_loadR ha rfl Tryd.isAgg34 Tryd.sizeOf34 (C := (tmA (cl p) (cl q) 128).map ei) (by rw [List.length_map, (tm_red _ _ _).len]) (cells_all hb19)) rfl rfl rfl ?_; clear ha a; intro a ha
    refine sstoreW ha rfl rfl (one_ei _) Tryd.sizeOf34 (by rw [List.length_map, (tm_red _ _ _).len]) hb8 (by rw [List.length_map, List.length_replicate]) ?_
    clear ha a; intro a w56 ha hg hb8'
    clear hb8; have hb8 := hb8'; clear hb8'
    replace hB := keepB1 hg (by omega) hB
    replace hb4 := keepO1 hg (by omega) hb4
    replace hb6 := keepO1 hg (by omega) hb6
    replace hb19 := keepO1 hg (by omega) hb19
    clear hg
    refine hK55 _ _ ?_; clear hK55 K54
    refine wp_ret ?_
    repeat (first | (with_reducible refine t_ret ?_) | (with_reducible refine x_ret ?_))
    exact retC _ ha Tryd.results46 rfl hb8 Tryd.underlying34 rfl (by rw [List.length_map, (tm_red _ _ _).len]; kernel_rfl) ⟨rfl, hB⟩

theorem c_prod (p q : List Int) (w0 : World) (hp : p.length = 256) (hq : q.length = 256) (hG : Glob w0) :
    Calls Tryd.prog 48 #[.agg ((p).map ei).toArray, .agg ((q).map ei).toArray] w0 fun e w' => e = .returned (.agg ((prd p q).map ei).toArray) ∧ Below w0.heap.size w0 w' := by
  refine enter (args := [_, _]) Tryd.func48 rfl Tryd.ntmps48 rfl ?_
  intro a ha
  have hB := Below.refl w0.heap.size w0
  refine wp_seq_k fun K1 hK2 => ?_
  refine region ?_
  refine sbox ha rfl rfl ?_
  clear ha a; intro a w3 b4 ha hg hb4 hge4 hlt4
  have hz4 : w0.heap.size ≤ b4 := Nat.le_trans hB.size hge4
  replace hB := keepB0 hg hB
  clear hg hge4 hlt4
  refine sbox ha rfl rfl ?_
  clear ha a; intro a w5 b6 ha hg hb6 hge6 hlt6
  have hz6 : w0.heap.size ≤ b6 := Nat.le_trans hB.size hge6
  have hq4_6 : b4 < b6 := Nat.lt_of_lt_of_le (lt_of_block hb4) hge6
  replace hB := keepB0 hg hB
  replace hb4 := keepO0 hg hb4
  clear hg hge6 hlt6
  refine salloc ha zero_34Z3 rfl ?_
  clear ha a; intro a w7 b8 ha hg hb8 hge8 hlt8
  have hz8 : w0.heap.size ≤ b8 := Nat.le_trans hB.size hge8
  have hq4_8 : b4 < b8 := Nat.lt_of_lt_of_le (lt_of_block hb4) hge8
  have hq6_8 : b6 < b8 := Nat.lt_of_lt_of_le (lt_of_block hb6) hge8
  replace hB := keepB0 hg hB
  replace hb4 := keepO0 hg hb4
  replace hb6 := keepO0 hg hb6
  clear hg hge8 hlt8
  refine hK2 _ _ ?_; clear hK2 K1
  refine wp_seq_k fun K9 hK10 => ?_
  refine regionD (S := fun w => Below w0.heap.size w0 w ∧ w.heap[b4]? = some (.cells ((p).map ei).toArray 34 (0, 0)) ∧ w.heap[b6]? = some (.cells ((q).map ei).toArray 34 (0, 0)) ∧ w.heap[b8]? = some (.cells ((List.replicate 256 (0 : Int)).map ei).toArray 34 (0, 0)) ∧ True) [6] [0, 2] [0, 2, 1, 3, 4, 5, 6] mixed (by kernel_rfl) (fun w hg => ⟨keepB0 hg hB, keepO0 hg hb4, keepO0 hg hb6, keepO0 hg hb8, trivial⟩) ?_
  intro w11 hg
  replace hB := keepB0 hg hB
  replace hb4 := keepO0 hg hb4
  replace hb6 := keepO0 hg hb6
  replace hb8 := keepO0 hg hb8
  clear hg
  refine cv ha rfl rfl (fun w ⟨hB, hb4, hb6, hb8, _⟩ => r_loadR ha rfl Tryd.isAgg34 Tryd.sizeOf34 (C := (p).map ei) (by rw [List.length_map, hp]) (cells_all hb4)) rfl rfl rfl ?_; clear ha a; intro a ha
  refine cv ha rfl rfl (fun w ⟨hB, hb4, hb6, hb8, _⟩ => r_loadR ha rfl Tryd.isAgg34 Tryd.sizeOf34 (C := (q).map ei) (by rw [List.length_map, hq]) (cells_all hb6)) rfl rfl rfl ?_; clear ha a; intro a ha
  refine cc ha rfl rfl (r_call ha [.agg ((p).map ei).toArray] rfl Tryd.call42) rfl rfl rfl (c_fwd p _ (by rw [hp]) (glob_keep hG hB)) ?_
  clear ha a
  rintro e w12 ⟨rfl, hBc⟩
  have hg := grown_call hBc; clear hBc
  replace hB := keepB0 hg hB
  replace hb4 := keepO0 hg hb4
  replace hb6 := keepO0 hg hb6
  replace hb8 := keepO0 hg hb8
  clear hg
  refine ⟨fun _ => ⟨hB, hb4, hb6, hb8, trivial⟩, _, rfl, ?_⟩; intro a ha
  refine cc ha rfl rfl (r_call ha [.agg ((q).map ei).toArray] rfl Tryd.call42) rfl rfl rfl (c_fwd q _ (by rw [hq]) (glob_keep hG hB)) ?_
  clear ha a
  rintro e w13 ⟨rfl, hBc⟩
  have hg := grown_call hBc; clear hBc
  replace hB := keepB0 hg hB
  replace hb4 := keepO0 hg hb4
  replace hb6 := keepO0 hg hb6
  replace hb8 := keepO0 hg hb8
  clear hg
  refine ⟨fun _ => ⟨hB, hb4, hb6, hb8, trivial⟩, _, rfl, ?_⟩; intro a ha
  refine cc ha rfl rfl (r_call ha [.agg (((fwd p)).map ei).toArray, .agg (((fwd q)).map ei).toArray] rfl Tryd.call46) rfl rfl rfl (c_times (fwd p) (fwd q) _ (by rw [(fwd_red _ (by rw [hp])).len]) (by rw [(fwd_red _ (by rw [hq])).len]) (glob_keep hG hB)) ?_
  clear ha a
  rintro e w14 ⟨rfl, hBc⟩
  have hg := grown_call hBc; clear hBc
  replace hB := keepB0 hg hB
  replace hb4 := keepO0 hg hb4
  replace hb6 := keepO0 hg hb6
  replace hb8 := keepO0 hg hb8
  clear hg
  refine ⟨fun _ => ⟨hB, hb4, hb6, hb8, trivial⟩, _, rfl, ?_⟩; intro a ha
  refine cc ha rfl rfl (r_call ha [.agg (((tms (fwd p) (fwd q))).map ei).toArray] rfl Tryd.call44) rfl rfl rfl (c_inv (tms (fwd p) (fwd q)) _ (by rw [(tms_red _ _).len]) (glob_keep hG hB)) ?_
  clear ha a
  rintro e w15 ⟨rfl, hBc⟩
  have hg := grown_call hBc; clear hBc
  replace hB := keepB0 hg hB
  replace hb4 := keepO0 hg hb4
  replace hb6 := keepO0 hg hb6
  replace hb8 := keepO0 hg hb8
  clear hg
  refine ⟨fun _ => ⟨hB, hb4, hb6, hb8, trivial⟩, _, rfl, ?_⟩; intro a ha
  refine cstoreW ha rfl rfl rfl rfl (one_ei _) Tryd.sizeOf34 (by rw [List.length_map, (inv_red _ (by rw [(tms_red _ _).len])).len]) hb8 (by rw [List.length_map, List.length_replicate]) rfl ?_
  clear ha a; intro a w16 ha hg hb8'
  clear hb8; have hb8 := hb8'; clear hb8'
  replace hB := keepB1 hg (by omega) hB
  replace hb4 := keepO1 hg (by omega) hb4
  replace hb6 := keepO1 hg (by omega) hb6
  clear hg
  refine cfin (hK10 _ _ ?_); clear hK10 K9
  refine wp_ret ?_
  repeat (first | (with_reducible refine t_ret ?_) | (with_reducible refine x_ret ?_))
  exact retC _ ha Tryd.results48 rfl hb8 Tryd.underlying34 rfl (by rw [List.length_map, (inv_red _ (by rw [(tms_red _ _).len])).len]; kernel_rfl) ⟨rfl, hB⟩
end Go.Proofs.YtdiddkcoihpnhaaDoor
