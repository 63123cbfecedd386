/- WALKS written by gen.py (own program) out of specs. -/
import Derived.Test.YtaignhikdfpbbaaDoorQ1
namespace Go.Proofs.YtaignhikdfpbbaaDoor
open Go.RowKit Go.Rx
set_option maxRecDepth 100000
set_option maxHeartbeats 4000000
set_option linter.unusedVariables false
set_option linter.unusedSimpArgs false

theorem zero_84Q2 : ∀ w, (zeroValue 84).run Tryd.prog w = .ok (.agg ((List.replicate 25 (0 : UInt64)).map e64).toArray) w := fun _ => by kernel_rfl
theorem c_lay (p : List UInt64) (v : Value) (b : List UInt8) (w0 : World) (hl : p.length = 25) (hs : Sl w0 v (b.map e8)) (hb : b.length ≤ 200) :
    Calls Tryd.prog 99 #[.agg ((p).map e64).toArray, v] w0 fun e w' => e = .returned (.agg ((lay p b).map e64).toArray) ∧ Below w0.heap.size w0 w' := by
  refine enter (args := [_, _]) Tryd.func99 rfl Tryd.ntmps99 rfl ?_
  intro a ha
  have hB := Below.refl w0.heap.size w0
  refine wp_seq_k fun K1 hK2 => ?_
  refine region ?_
  refine sbox ha rfl rfl ?_
  clear ha a; intro a w3 b4 ha hg hb4 hge4 hlt4
  have hz4 : w0.heap.size ≤ b4 := Nat.le_trans hB.size hge4
  replace hB := keepB0 hg hB
  clear hg hge4 hlt4
  refine salloc ha zero_84Q2 rfl ?_
  clear ha a; intro a w5 b6 ha hg hb6 hge6 hlt6
  have hz6 : w0.heap.size ≤ b6 := Nat.le_trans hB.size hge6
  have hq4_6 : b4 < b6 := Nat.lt_of_lt_of_le (lt_of_block hb4) hge6
  replace hB := keepB0 hg hB
  replace hb4 := keepO0 hg hb4
  clear hg hge6 hlt6
  refine hK2 _ _ ?_; clear hK2 K1
  refine wp_seq_k fun K7 hK8 => ?_
  refine wp_seq_k fun K9 hK10 => ?_
  refine region ?_
  refine sv ha (r_move ha rfl) rfl rfl rfl ?_; clear ha a; intro a ha
  refine sv ha (r_lenS ha Tryd.runUnderlying22 (hs.below hB) rfl (by rw [List.length_map])) rfl rfl rfl ?_; clear ha a; intro a ha
  refine sv ha (rn_add ha b.length 7 rfl rfl (by omega)) rfl rfl rfl ?_; clear ha a; intro a ha
  refine sv ha (rn_quo ha (b.length + 7) 8 rfl rfl (by omega) (by omega)) rfl rfl rfl ?_; clear ha a; intro a ha
  refine sv ha (r_move ha rfl) rfl rfl rfl ?_; clear ha a; intro a ha
  refine hK10 _ _ ?_; clear hK10 K9
  refine wp_block ?_
  refine loopG (fun (k : Nat) a w => (k ≤ ((b.length + 7) / 8)) ∧ Has 31 [(0, .agg ((p).map e64).toArray), (1, v), (2, .pointer (some ⟨b4, 0, none⟩)), (4, .pointer (some ⟨b6, 0, none⟩)), (6, v), (7, en b.length), (8, en (b.length + 7)), (9, en ((b.length + 7) / 8)), (10, en k)] a ∧ Below w0.heap.size w0 w ∧ w.heap[b4]? = some (.cells ((layA p b k).map e64).toArray 84 (0, 0)) ∧ w.heap[b6]? = some (.cells ((List.replicate 25 (0 : UInt64)).map e64).toArray 84 (0, 0))) (fun k => ((b.length + 7) / 8) - k) 0 ⟨(by omega), ha.to [0, 1, 2, 4, 6, 7, 8, 9, 10] rfl, hB, hb4, hb6⟩ ?_
  clear ha a hB hb4 hb6
  intro k a w11 ⟨hkk, ha, hB, hb4, hb6⟩
  refine wp_seq_k fun K12 hK13 => ?_
  refine region ?_
  refine sv ha (r_lss ha ((k : Nat) : Int) (((b.length + 7) / 8 : Nat) : Int) (decide (k < (b.length + 7) / 8)) rfl rfl (decide_eq_decide.2 (by omega))) rfl rfl rfl ?_; clear ha a; intro a ha
  refine hK13 _ _ ?_; clear hK13 K12
  refine wp_seq_k fun K14 hK15 => ?_
  refine cond_if ha rfl (fun hc16 => ?_) (fun hc16 => ?_)
  · skip
    replace hc16 := of_decide_eq_true hc16
    refine wp_skip ?_
    refine hK15 _ _ ?_; clear hK15 K14
    refine wp_seq_k fun K17 hK18 => ?_
    refine wp_block ?_
    refine wp_seq_k fun K19 hK20 => ?_
    refine region ?_
    refine sv ha (r_move ha rfl) rfl rfl rfl ?_; clear ha a; intro a ha
    refine sv ha (r_assign ha rfl) rfl rfl rfl ?_; clear ha a; intro a ha
    refine hK20 _ _ ?_; clear hK20 K19
    refine regionD (S := fun w => Below w0.heap.size w0 w ∧ w.heap[b4]? = some (.cells ((layA p b k).map e64).toArray 84 (0, 0)) ∧ w.heap[b6]? = some (.cells ((List.replicate 25 (0 : UInt64)).map e64).toArray 84 (0, 0)) ∧ True) [16] [0, 1, 2, 3, 4, 5, 6, 7, 8, 9, 10, 11, 12, 14, 15] [0, 1, 2, 3, 4, 5, 6, 7, 8, 9, 10, 11, 12, 13, 14, 15, 16] mixed (by kernel_rfl) (fun w hg => ⟨keepB0 hg hB, keepO0 hg hb4, keepO0 hg hb6, trivial⟩) ?_
    intro w21 hg
    replace hB := keepB0 hg hB
    replace hb4 := keepO0 hg hb4
    replace hb6 := keepO0 hg hb6
    clear hg
    refine cv ha rfl rfl (fun w _ => r_move ha rfl) rfl rfl rfl ?_; clear ha a; intro a ha
    refine cv ha rfl rfl (fun w _ => r_indexArr (i := k) ha k Tryd.runUnderlying84 Tryd.sizeOf83 rfl rfl (by omega) (by omega)) rfl rfl rfl ?_; clear ha a; intro a ha
    refine cv ha rfl rfl (fun w ⟨hB, hb4, hb6, _⟩ => r_load ha rfl Tryd.isAgg83 (cell_of hb4 (get_map e64 (layA p b k) 0 k (by rw [layA_len, hl]; omega)))) rfl rfl rfl ?_; clear ha a; intro a ha
    refine cv ha rfl rfl (fun w _ => r_move ha rfl) rfl rfl rfl ?_; clear ha a; intro a ha
    refine cv ha rfl rfl (fun w _ => r_move ha rfl) rfl rfl rfl ?_; clear ha a; intro a ha
    refine cv ha rfl rfl (fun w _ => rn_mul ha 8 k rfl rfl (by omega)) rfl rfl rfl ?_; clear ha a; intro a ha
    refine cv ha rfl rfl (fun w _ => r_move ha rfl) rfl rfl rfl ?_; clear ha a; intro a ha
    refine cv ha rfl rfl (fun w _ => rn_mul ha 8 k rfl rfl (by omega)) rfl rfl rfl ?_; clear ha a; intro a ha
    refine cv ha rfl rfl (fun w _ => rn_add ha (8 * k) 8 rfl rfl (by omega)) rfl rfl rfl ?_; clear ha a; intro a ha
    refine cv ha rfl rfl (fun w _ => r_move ha rfl) rfl rfl rfl ?_; clear ha a; intro a ha
    refine cv ha rfl rfl (fun w ⟨hB, hb4, hb6, _⟩ => r_lenS ha Tryd.runUnderlying22 (hs.below hB) rfl (by rw [List.length_map])) rfl rfl rfl ?_; clear ha a; intro a ha
    refine cv ha rfl rfl (fun w _ => rn_min ha ((8 * k) + 8) b.length rfl rfl) rfl rfl rfl ?_; clear ha a; intro a ha
    refine cv ha rfl rfl (fun w ⟨hB, hb4, hb6, _⟩ => r_resl (C := (b).map e8) ha (8 * k) (min ((8 * k) + 8) b.length) Tryd.runUnderlying22 Tryd.sizeOf5 (hs.below hB) rfl rfl rfl (by omega) (by rw [List.length_map]; exact (by omega))) rfl rfl rfl ?_; clear ha a; intro a ha
    refine cc ha rfl rfl (r_call ha [(rsl v (8 * k) (min ((8 * k) + 8) b.length))] rfl Tryd.call109) rfl rfl rfl (c_load (rsl v (8 * k) (min ((8 * k) + 8) b.length)) ((b.drop (8 * k)).take ((min ((8 * k) + 8) b.length) - (8 * k))) _ (Sl.cutM (lo := 8 * k) (hi := min ((8 * k) + 8) b.length) (hs.below hB) (by omega) (by omega))) ?_
    clear ha a
    rintro e w22 ⟨rfl, hBc⟩
    have hg := grown_call hBc; clear hBc
    replace hB := keepB0 hg hB
    replace hb4 := keepO0 hg hb4
    replace hb6 := keepO0 hg hb6
    clear hg
    refine ⟨fun _ => ⟨hB, hb4, hb6, trivial⟩, _, rfl, ?_⟩; intro a ha
    refine cv ha rfl rfl (fun w _ => ru_xor ha ((layA p b k).getD k 0) (ld8 ((b.drop (8 * k)).take ((min ((8 * k) + 8) b.length) - (8 * k)))) rfl rfl) rfl rfl rfl ?_; clear ha a; intro a ha
    refine cv ha rfl rfl (fun w _ => r_indexArr (i := k) ha k Tryd.runUnderlying84 Tryd.sizeOf83 rfl rfl (by omega) (by omega)) rfl rfl rfl ?_; clear ha a; intro a ha
    refine cstore ha rfl rfl (v := e64 (((layA p b k).getD k 0) ^^^ (ld8 ((b.drop (8 * k)).take ((min ((8 * k) + 8) b.length) - (8 * k)))))) rfl rfl rfl rfl Tryd.sizeOf83 hb4 (by rw [List.length_map, layA_len, hl]; omega) rfl ?_
    clear ha a; intro a w23 ha hg hb4'
    rw [set_map] at hb4'
    clear hb4; have hb4 := hb4'; clear hb4'
    replace hB := keepB1 hg (by omega) hB
    replace hb6 := keepO1 hg (by omega) hb6
    clear hg
    refine cfin (hK18 _ _ ?_); clear hK18 K17
    refine region ?_
    refine sv ha (rn_add ha k 1 rfl rfl (by omega)) rfl rfl rfl ?_; clear ha a; intro a ha
    refine sv ha (r_move ha rfl) rfl rfl rfl ?_; clear ha a; intro a ha
    exact ⟨k + 1, by omega, (by omega), ha.to [0, 1, 2, 4, 6, 7, 8, 9, 10] rfl, hB, hb4, hb6⟩
  · skip
    replace hc16 := of_decide_eq_false hc16
    refine wp_exit ?_
    obtain rfl : k = ((b.length + 7) / 8) := by omega
    refine hK8 _ _ ?_; clear hK15 K14 hK8 K7
    refine wp_seq_k fun K24 hK25 => ?_
    refine region ?_
    refine sv ha (r_loadR ha rfl Tryd.isAgg84 Tryd.sizeOf84 (C := (layA p b ((b.length + 7) / 8)).map e64) (by rw [List.length_map, layA_len, hl]) (cells_all hb4)) rfl rfl rfl ?_; clear ha a; intro a ha
    refine sstoreW ha rfl rfl (one_e64 _) Tryd.sizeOf84 (by rw [List.length_map, layA_len, hl]) hb6 (by rw [List.length_map, List.length_replicate]) ?_
    clear ha a; intro a w26 ha hg hb6'
    clear hb6; have hb6 := hb6'; clear hb6'
    replace hB := keepB1 hg (by omega) hB
    replace hb4 := keepO1 hg (by omega) hb4
    clear hg
    refine hK25 _ _ ?_; clear hK25 K24
    refine wp_ret ?_
    repeat (first | (with_reducible refine t_ret ?_) | (with_reducible refine x_ret ?_))
    exact retC _ ha Tryd.results99 rfl hb6 Tryd.underlying84 rfl (by rw [List.length_map, layA_len, hl]; kernel_rfl) ⟨rfl, hB⟩

theorem c_take (p : List UInt64) (n : Nat) (w0 : World) (hl : p.length = 25) (hn : n ≤ 200) :
    Calls Tryd.prog 66 #[.agg ((p).map e64).toArray, en n] w0 fun e w' => ∃ u0 : Value, e = .returned (u0) ∧ Below w0.heap.size w0 w' ∧ Sl w' u0 ((tk p n).map e8) ∧ (∀ j, u0.ownBlock = some j → w0.heap.size ≤ j) := by
  refine enter (args := [_, _]) Tryd.func66 rfl Tryd.ntmps66 rfl ?_
  intro a ha
  have hB := Below.refl w0.heap.size w0
  refine wp_seq_k fun K1 hK2 => ?_
  refine region ?_
  refine sbox ha rfl rfl ?_
  clear ha a; intro a w3 b4 ha hg hb4 hge4 hlt4
  have hz4 : w0.heap.size ≤ b4 := Nat.le_trans hB.size hge4
  replace hB := keepB0 hg hB
  clear hg hge4 hlt4
  refine sv ha (r_assign ha rfl) rfl rfl rfl ?_; clear ha a; intro a ha
  refine hK2 _ _ ?_; clear hK2 K1
  refine wp_seq_k fun K5 hK6 => ?_
  refine region ?_
  refine sv ha (r_assign ha rfl) rfl rfl rfl ?_; clear ha a; intro a ha
  refine hK6 _ _ ?_; clear hK6 K5
  refine wp_seq_k fun K7 hK8 => ?_
  refine wp_seq_k fun K9 hK10 => ?_
  refine region ?_
  refine sv ha (r_loadR ha rfl Tryd.isAgg84 Tryd.sizeOf84 (C := (p).map e64) (by rw [List.length_map, hl]) (cells_all hb4)) rfl rfl rfl ?_; clear ha a; intro a ha
  refine sv ha (r_move ha rfl) rfl rfl rfl ?_; clear ha a; intro a ha
  refine hK10 _ _ ?_; clear hK10 K9
  refine wp_block ?_
  refine loopG (fun (k : Nat) a w => ∃ vo : Value, (k ≤ 25) ∧ (∀ j, vo.ownBlock = some j → j ≠ b4) ∧ Has 20 [(0, .agg ((p).map e64).toArray), (1, en n), (2, .pointer (some ⟨b4, 0, none⟩)), (4, .slice none 0 0), (8, .agg ((p).map e64).toArray), (9, en k), (5, vo)] a ∧ Below w0.heap.size w0 w ∧ w.heap[b4]? = some (.cells ((p).map e64).toArray 84 (0, 0)) ∧ w.ownsRow w0.heap.size 5 1 vo (tkA p k).length ((tkA p k).map e8)) (fun k => 25 - k) 0 ⟨.slice none 0 0, (by omega), (fun j hj => (nil_own j hj).elim), ha.to [0, 1, 2, 4, 8, 9, 5] rfl, hB, hb4, (own_castl (l := ([] : List UInt8)) (World.ownsRow_nil _ _ _ _) rfl)⟩ ?_
  clear ha a hB hb4
  intro k a w11 ⟨vo, hkk, hnb_vo_b4, ha, hB, hb4, hovo⟩
  have htk := tkA_len p k
  refine wp_seq_k fun K12 hK13 => ?_
  refine region ?_
  refine sv ha (r_lss ha ((k : Nat) : Int) 25 (decide (k < 25)) rfl rfl (decide_eq_decide.2 (by omega))) rfl rfl rfl ?_; clear ha a; intro a ha
  refine hK13 _ _ ?_; clear hK13 K12
  refine wp_seq_k fun K14 hK15 => ?_
  refine cond_if ha rfl (fun hc16 => ?_) (fun hc16 => ?_)
  · skip
    replace hc16 := of_decide_eq_true hc16
    refine wp_skip ?_
    refine hK15 _ _ ?_; clear hK15 K14
    refine wp_seq_k fun K17 hK18 => ?_
    refine wp_block ?_
    refine wp_seq_k fun K19 hK20 => ?_
    refine region ?_
    refine sv ha (r_index (C := (p).map e64) ha k rfl rfl Tryd.runUnderlying84 Tryd.sizeOf83 Tryd.isAgg83 (by omega) (get_map e64 p 0 k (by rw [hl]; omega))) rfl rfl rfl ?_; clear ha a; intro a ha
    refine sv ha (r_assign ha rfl) rfl rfl rfl ?_; clear ha a; intro a ha
    refine hK20 _ _ ?_; clear hK20 K19
    refine region ?_
    refine sv ha (r_move ha rfl) rfl rfl rfl ?_; clear ha a; intro a ha
    refine sv ha (r_move ha rfl) rfl rfl rfl ?_; clear ha a; intro a ha
    refine sc ha (r_call ha [e64 (p.getD k 0), en 8] rfl Tryd.call92) rfl rfl rfl (c_store (p.getD k 0) _ ) ?_
    clear ha a
    rintro e w21 ⟨b22, rfl, hBc, hb22, hge22⟩
    have hg := grown_call hBc; clear hBc
    have hz22 : w0.heap.size ≤ b22 := Nat.le_trans hB.size hge22
    have hne_hovo_b22 : ∀ j, Value.ownBlock vo = some j → j ≠ b22 := fun j hj => by have := (hovo.lt j hj).2; omega
    have hq4_22 : b4 < b22 := Nat.lt_of_lt_of_le (lt_of_block hb4) hge22
    replace hB := keepB0 hg hB
    replace hb4 := keepO0 hg hb4
    replace hovo := keepW0 hg hovo
    clear hg hge22
    refine ⟨_, rfl, ?_⟩; intro a ha
    refine sapp (C := ((tkA p k)).map e8) (D := (st8 (p.getD k 0)).map e8) ha rfl rfl Tryd.underlying22 rfl rfl rfl rfl hovo (Sl.ofBlockM hb22 (by rw [st8_len]) (by omega)) (one_e8 _) (by simp only [List.length_map, st8_len]; show _ * 1 ≤ _; omega) (by simp only [List.length_map, st8_len]; omega) hB.size rfl ?_
    clear ha a; intro a w24 v23 ha hg ho23 hnl23 hpl23
    rw [← List.map_append, List.length_map, st8_len] at ho23
    rw [List.length_map, st8_len] at hnl23
    have hne_23_b4 : ∀ j, v23.ownBlock = some j → j ≠ b4 := fun j hj => (hpl23 j hj).elim (fun h => hnb_vo_b4 j h) (fun h => by have := lt_of_block hb4; omega)
    have hne_23_b22 : ∀ j, v23.ownBlock = some j → j ≠ b22 := fun j hj => (hpl23 j hj).elim (fun h => hne_hovo_b22 j h) (fun h => by have := lt_of_block hb22; omega)
    replace hB := keepBR hg (own_row hovo) hB
    replace hb4 := keepOR hg (ne_of_ap hnb_vo_b4) hb4
    replace hb22 := keepOR hg (ne_of_ap hne_hovo_b22) hb22
    clear hg
    refine sv ha (r_assign ha rfl) rfl rfl rfl ?_; clear ha a; intro a ha
    refine hK18 _ _ ?_; clear hK18 K17
    refine region ?_
    refine sv ha (rn_add ha k 1 rfl rfl (by omega)) rfl rfl rfl ?_; clear ha a; intro a ha
    refine sv ha (r_move ha rfl) rfl rfl rfl ?_; clear ha a; intro a ha
    exact ⟨k + 1, by omega, v23, (by omega), hne_23_b4, ha.to [0, 1, 2, 4, 8, 9, 5] rfl, hB, hb4, (own_castl (own_len ho23) rfl)⟩
  · skip
    replace hc16 := of_decide_eq_false hc16
    refine wp_exit ?_
    obtain rfl : k = 25 := by omega
    refine hK8 _ _ ?_; clear hK15 K14 hK8 K7
    refine wp_seq_k fun K25 hK26 => ?_
    refine region ?_
    refine sv ha (r_move ha rfl) rfl rfl rfl ?_; clear ha a; intro a ha
    refine sv ha (r_move ha rfl) rfl rfl rfl ?_; clear ha a; intro a ha
    refine sv ha (r_resl (C := (tkA p 25).map e8) ha 0 n Tryd.runUnderlying22 Tryd.sizeOf5 (Sl.ofOwns hovo) rfl rfl rfl (by omega) (by rw [List.length_map]; exact (by have := tkA_len p 25; omega))) rfl rfl rfl ?_; clear ha a; intro a ha
    refine sv ha (r_assign ha rfl) rfl rfl rfl ?_; clear ha a; intro a ha
    refine hK26 _ _ ?_; clear hK26 K25
    refine wp_ret ?_
    repeat (first | (with_reducible refine t_ret ?_) | (with_reducible refine x_ret ?_))
    exact ret1 ha Tryd.results66 rfl ⟨_, rfl, hB, (Sl.castM (l := ((tkA p 25).drop 0).take (n - 0)) (Sl.cutM (lo := 0) (hi := n) (Sl.ofOwns hovo) (by omega) (by have := tkA_len p 25; omega)) rfl), (fun j hj => (own_row hovo) j (own_rsl _ _ j hj))⟩

theorem c_absN (r : Nat) (s : UInt8) (v : Value) (b : List UInt8) (w0 : World) (hr : 1 ≤ r ∧ r ≤ 200) (hs : Sl w0 v (b.map e8)) (hG : Glob w0) :
    Calls Tryd.prog 83 #[en r, e8 s, v] w0 fun e w' => e = .returned (.agg ((absR r s noughts b).map e64).toArray) ∧ Below w0.heap.size w0 w' := by
  refine enter (args := [_, _, _]) Tryd.func83 rfl Tryd.ntmps83 rfl ?_
  intro a ha
  have hB := Below.refl w0.heap.size w0
  refine wp_seq_k fun K1 hK2 => ?_
  refine region ?_
  refine salloc ha zero_84Q2 rfl ?_
  clear ha a; intro a w3 b4 ha hg hb4 hge4 hlt4
  have hz4 : w0.heap.size ≤ b4 := Nat.le_trans hB.size hge4
  replace hB := keepB0 hg hB
  clear hg hge4 hlt4
  refine hK2 _ _ ?_; clear hK2 K1
  refine wp_seq_k fun K5 hK6 => ?_
  refine region ?_
  refine salloc ha zero_84Q2 rfl ?_
  clear ha a; intro a w7 b8 ha hg hb8 hge8 hlt8
  have hz8 : w0.heap.size ≤ b8 := Nat.le_trans hB.size hge8
  have hq4_8 : b4 < b8 := Nat.lt_of_lt_of_le (lt_of_block hb4) hge8
  replace hB := keepB0 hg hB
  replace hb4 := keepO0 hg hb4
  clear hg hge8 hlt8
  refine hK6 _ _ ?_; clear hK6 K5
  refine wp_seq_k fun K9 hK10 => ?_
  refine wp_seq_k fun K11 hK12 => ?_
  refine region ?_
  refine sv ha (r_move ha rfl) rfl rfl rfl ?_; clear ha a; intro a ha
  refine sv ha (r_lss ha ((r : Nat) : Int) 1 false rfl rfl (decide_eq_false (by omega))) rfl rfl rfl ?_; clear ha a; intro a ha
  refine sv ha (r_move ha rfl) rfl rfl rfl ?_; clear ha a; intro a ha
  refine svg ha (r_move ha rfl) rfl rfl rfl rfl rfl ?_; clear ha a; intro a ha
  refine svg ha (r_gtr ha ((r : Nat) : Int) 200 false rfl rfl (decide_eq_false (by omega))) rfl rfl rfl rfl rfl ?_; clear ha a; intro a ha
  refine sv ha (r_pick ha false rfl rfl) rfl rfl rfl ?_; clear ha a; intro a ha
  refine hK12 _ _ ?_; clear hK12 K11
  refine cond_f ha rfl ?_
  refine wp_skip ?_
  refine hK10 _ _ ?_; clear hK10 K9
  refine wp_seq_k fun K13 hK14 => ?_
  refine wp_block ?_
  refine loopG (fun (g : List UInt64 × List UInt8) a w => ∃ vb : Value, (g.1.length = 25) ∧ (absR r s noughts b = absR r s g.1 g.2) ∧ (∀ j, vb.ownBlock = some j → j < w0.heap.size) ∧ Has 53 [(0, en r), (1, e8 s), (6, .pointer (some ⟨b4, 0, none⟩)), (7, .pointer (some ⟨b8, 0, none⟩)), (9, en r), (10, .bool false), (11, .bool false), (12, en r), (13, .bool false), (14, .bool false), (2, vb)] a ∧ Below w0.heap.size w0 w ∧ w.heap[b4]? = some (.cells ((List.replicate 25 (0 : UInt64)).map e64).toArray 84 (0, 0)) ∧ w.heap[b8]? = some (.cells ((g.1).map e64).toArray 84 (0, 0)) ∧ Sl w vb ((g.2).map e8)) (fun g => g.2.length) (noughts, b) ⟨v, List.length_replicate, rfl, (fun j hj => hs.lt j hj), ha.to [0, 1, 6, 7, 9, 10, 11, 12, 13, 14, 2] rfl, hB, hb4, hb8, (Sl.castM (l := b) (hs.below hB) rfl)⟩ ?_
  clear ha a hB hb4 hb8
  intro g a w15 ⟨vb, hga, hgb, hal_vb, ha, hB, hb4, hb8, hsb⟩
  refine wp_seq_k fun K16 hK17 => ?_
  refine wp_seq_k fun K18 hK19 => ?_
  refine region ?_
  refine sv ha (r_move ha rfl) rfl rfl rfl ?_; clear ha a; intro a ha
  refine sv ha (r_lenS ha Tryd.runUnderlying22 hsb rfl (by rw [List.length_map])) rfl rfl rfl ?_; clear ha a; intro a ha
  refine sv ha (r_move ha rfl) rfl rfl rfl ?_; clear ha a; intro a ha
  refine sv ha (r_geq ha ((g.2.length : Nat) : Int) ((r : Nat) : Int) (decide (g.2.length ≥ r)) rfl rfl (decide_eq_decide.2 (by omega))) rfl rfl rfl ?_; clear ha a; intro a ha
  refine hK19 _ _ ?_; clear hK19 K18
  refine cond_if ha rfl (fun hc20 => ?_) (fun hc20 => ?_)
  · skip
    replace hc20 := of_decide_eq_true hc20
    refine wp_skip ?_
    refine hK17 _ _ ?_; clear hK17 K16
    refine wp_block ?_
    refine wp_seq_k fun K21 hK22 => ?_
    refine regionD (S := fun w => Below w0.heap.size w0 w ∧ w.heap[b4]? = some (.cells ((List.replicate 25 (0 : UInt64)).map e64).toArray 84 (0, 0)) ∧ w.heap[b8]? = some (.cells ((g.1).map e64).toArray 84 (0, 0)) ∧ Sl w vb ((g.2).map e8) ∧ True) [6] [0, 1, 2, 3] [0, 1, 2, 3, 4, 5, 6] mixed (by kernel_rfl) (fun w hg => ⟨keepB0 hg hB, keepO0 hg hb4, keepO0 hg hb8, keepS0 hg hsb, trivial⟩) ?_
    intro w23 hg
    replace hB := keepB0 hg hB
    replace hb4 := keepO0 hg hb4
    replace hb8 := keepO0 hg hb8
    replace hsb := keepS0 hg hsb
    clear hg
    refine cv ha rfl rfl (fun w ⟨hB, hb4, hb8, hsb, _⟩ => r_loadR ha rfl Tryd.isAgg84 Tryd.sizeOf84 (C := (g.1).map e64) (by rw [List.length_map, hga]) (cells_all hb8)) rfl rfl rfl ?_; clear ha a; intro a ha
    refine cv ha rfl rfl (fun w _ => r_move ha rfl) rfl rfl rfl ?_; clear ha a; intro a ha
    refine cv ha rfl rfl (fun w _ => r_move ha rfl) rfl rfl rfl ?_; clear ha a; intro a ha
    refine cv ha rfl rfl (fun w ⟨hB, hb4, hb8, hsb, _⟩ => r_resl (C := (g.2).map e8) ha 0 r Tryd.runUnderlying22 Tryd.sizeOf5 hsb rfl rfl rfl (by omega) (by rw [List.length_map]; exact (by omega))) rfl rfl rfl ?_; clear ha a; intro a ha
    refine cc ha rfl rfl (r_call ha [.agg ((g.1).map e64).toArray, (rsl vb 0 r)] rfl Tryd.call99) rfl rfl rfl (c_lay g.1 (rsl vb 0 r) (g.2.take r) _ (by rw [hga]) (Sl.castM (Sl.cutM (lo := 0) (hi := r) hsb (by omega) (by omega)) rfl) (by rw [List.length_take]; omega)) ?_
    clear ha a
    rintro e w24 ⟨rfl, hBc⟩
    have hg := grown_call hBc; clear hBc
    replace hB := keepB0 hg hB
    replace hb4 := keepO0 hg hb4
    replace hb8 := keepO0 hg hb8
    replace hsb := keepS0 hg hsb
    clear hg
    refine ⟨fun _ => ⟨hB, hb4, hb8, hsb, trivial⟩, _, rfl, ?_⟩; intro a ha
    refine cc ha rfl rfl (r_call ha [.agg (((lay g.1 (g.2.take r))).map e64).toArray] rfl Tryd.call65) rfl rfl rfl (c_kf (lay g.1 (g.2.take r)) _ (by rw [lay_len, hga]) (glob_keep hG hB)) ?_
    clear ha a
    rintro e w25 ⟨rfl, hBc⟩
    have hg := grown_call hBc; clear hBc
    replace hB := keepB0 hg hB
    replace hb4 := keepO0 hg hb4
    replace hb8 := keepO0 hg hb8
    replace hsb := keepS0 hg hsb
    clear hg
    refine ⟨fun _ => ⟨hB, hb4, hb8, hsb, trivial⟩, _, rfl, ?_⟩; intro a ha
    refine cstoreW ha rfl rfl rfl rfl (one_e64 _) Tryd.sizeOf84 (by rw [List.length_map, kf_len _ (by rw [lay_len, hga])]) hb8 (by rw [List.length_map, hga]) rfl ?_
    clear ha a; intro a w26 ha hg hb8'
    clear hb8; have hb8 := hb8'; clear hb8'
    replace hB := keepB1 hg (by omega) hB
    replace hb4 := keepO1 hg (by omega) hb4
    replace hsb := keepS1 hg (ne_of_ap (fun j hj => by have h1 := hal_vb j hj; have h2 := hz8; omega)) hsb
    clear hg
    refine cfin (hK22 _ _ ?_); clear hK22 K21
    refine region ?_
    refine sv ha (r_move ha rfl) rfl rfl rfl ?_; clear ha a; intro a ha
    refine sv ha (r_move ha rfl) rfl rfl rfl ?_; clear ha a; intro a ha
    refine sv ha (r_resl (C := (g.2).map e8) ha r g.2.length Tryd.runUnderlying22 Tryd.sizeOf5 hsb rfl rfl (show g.2.length = _ by rw [List.length_map]) (by omega) (by rw [List.length_map]; exact (by omega))) rfl rfl rfl ?_; clear ha a; intro a ha
    refine sv ha (r_assign ha rfl) rfl rfl rfl ?_; clear ha a; intro a ha
    have hkl : (kf (lay g.1 (g.2.take r))).length = 25 := kf_len _ (by rw [lay_len, hga])
    have hstep := absR_step r s g.1 g.2 (by omega) (by omega)
    generalize kf (lay g.1 (g.2.take r)) = a2 at *
    exact ⟨(a2, g.2.drop r), (by show (g.2.drop r).length < g.2.length; rw [List.length_drop]; omega), rsl vb r g.2.length, hkl, (hgb.trans hstep), (fun j hj => hal_vb j (own_rsl _ _ j hj)), ha.to [0, 1, 6, 7, 9, 10, 11, 12, 13, 14, 2] rfl, hB, hb4, hb8, (Sl.castM (l := (g.2.drop r).take (g.2.length - r)) (Sl.cutM (lo := r) (hi := g.2.length) hsb (by omega) (by omega)) (List.take_of_length_le (by rw [List.length_drop]; exact Nat.le_refl _)))⟩
  · skip
    replace hc20 := of_decide_eq_false hc20
    refine wp_exit ?_
    refine hK14 _ _ ?_; clear hK17 K16 hK14 K13
    refine wp_seq_k fun K27 hK28 => ?_
    refine region ?_
    refine sv ha (r_move ha rfl) rfl rfl rfl ?_; clear ha a; intro a ha
    refine smake (k := r) ha rfl rfl Tryd.underlying22 rfl rfl rfl rfl (show 1 * _ ≤ _ by omega) (by omega) rfl ?_
    clear ha a; intro a w29 b30 ha hg hb30 hge30 hlt30
    have hz30 : w0.heap.size ≤ b30 := Nat.le_trans hB.size hge30
    have hne_hsb_b30 : ∀ j, Value.ownBlock vb = some j → j ≠ b30 := fun j hj => by have := hsb.lt j hj; omega
    have hq4_30 : b4 < b30 := Nat.lt_of_lt_of_le (lt_of_block hb4) hge30
    have hq8_30 : b8 < b30 := Nat.lt_of_lt_of_le (lt_of_block hb8) hge30
    replace hB := keepB0 hg hB
    replace hb4 := keepO0 hg hb4
    replace hb8 := keepO0 hg hb8
    replace hsb := keepS0 hg hsb
    clear hg hge30 hlt30
    rw [show (List.replicate r (Value.int .u8 0)) = (List.replicate r (0 : UInt8)).map e8 by rw [List.map_replicate]; rfl] at hb30
    refine sv ha (r_assign ha rfl) rfl rfl rfl ?_; clear ha a; intro a ha
    refine hK28 _ _ ?_; clear hK28 K27
    refine wp_seq_k fun K31 hK32 => ?_
    refine region ?_
    refine sv ha (r_move ha rfl) rfl rfl rfl ?_; clear ha a; intro a ha
    refine sv ha (r_move ha rfl) rfl rfl rfl ?_; clear ha a; intro a ha
    refine scopy (d := 33) (C := (g.2).map e8) (p := (g.2.take r).map e8) ha rfl rfl hsb Tryd.underlying22 rfl hb30 (by rw [List.map_take]) (by simp only [List.length_map, List.length_take, List.length_replicate]; omega) (one_e8 _) ?_ rfl rfl rfl
    clear ha a; intro a w33 ha hg hb30'
    rw [copy_map] at hb30'
    clear hb30; have hb30 : w33.heap[b30]? = some (.cells ((padB r g.2).map e8).toArray 5 (0, 0)) := hb30'; clear hb30'
    replace hB := keepB1 hg (by omega) hB
    replace hb4 := keepO1 hg (by omega) hb4
    replace hb8 := keepO1 hg (by omega) hb8
    replace hsb := keepS1 hg (ne_of_ap hne_hsb_b30) hsb
    clear hg
    refine hK32 _ _ ?_; clear hK32 K31
    refine wp_seq_k fun K34 hK35 => ?_
    refine region ?_
    refine sv ha (r_move ha rfl) rfl rfl rfl ?_; clear ha a; intro a ha
    refine sv ha (r_move ha rfl) rfl rfl rfl ?_; clear ha a; intro a ha
    refine sv ha (r_lenS ha Tryd.runUnderlying22 hsb rfl (by rw [List.length_map])) rfl rfl rfl ?_; clear ha a; intro a ha
    refine sv ha (r_indexB ha g.2.length Tryd.runUnderlying22 Tryd.sizeOf5 rfl rfl (by omega)) rfl rfl rfl ?_; clear ha a; intro a ha
    refine sv ha (r_load ha rfl Tryd.isAgg5 (cell_of hb30 (get_map e8 (padB r g.2) 0 g.2.length (by rw [padB_len]; omega)))) rfl rfl rfl ?_; clear ha a; intro a ha
    refine sv ha (r_move ha rfl) rfl rfl rfl ?_; clear ha a; intro a ha
    refine sv ha (rb_xor ha ((padB r g.2).getD g.2.length 0) s rfl rfl) rfl rfl rfl ?_; clear ha a; intro a ha
    refine sv ha (r_indexB ha g.2.length Tryd.runUnderlying22 Tryd.sizeOf5 rfl rfl (by omega)) rfl rfl rfl ?_; clear ha a; intro a ha
    refine sstore ha (v := e8 (((padB r g.2).getD g.2.length 0) ^^^ s)) rfl rfl rfl rfl Tryd.sizeOf5 hb30 (by rw [List.length_map, padB_len]; omega) ?_
    clear ha a; intro a w36 ha hg hb30'
    rw [set_map] at hb30'
    clear hb30; have hb30 := hb30'; clear hb30'
    replace hB := keepB1 hg (by omega) hB
    replace hb4 := keepO1 hg (by omega) hb4
    replace hb8 := keepO1 hg (by omega) hb8
    replace hsb := keepS1 hg (ne_of_ap hne_hsb_b30) hsb
    clear hg
    refine hK35 _ _ ?_; clear hK35 K34
    refine wp_seq_k fun K37 hK38 => ?_
    refine region ?_
    refine sv ha (r_move ha rfl) rfl rfl rfl ?_; clear ha a; intro a ha
    refine sv ha (r_move ha rfl) rfl rfl rfl ?_; clear ha a; intro a ha
    refine sv ha (rn_sub ha r 1 rfl rfl (by omega) (by omega)) rfl rfl rfl ?_; clear ha a; intro a ha
    refine sv ha (r_indexB ha (r - 1) Tryd.runUnderlying22 Tryd.sizeOf5 rfl rfl (by omega)) rfl rfl rfl ?_; clear ha a; intro a ha
    refine sv ha (r_load ha rfl Tryd.isAgg5 (cell_of hb30 (get_map e8 ((padB r g.2).set g.2.length (((padB r g.2).getD g.2.length 0) ^^^ s)) 0 (r - 1) (by rw [List.length_set, padB_len]; omega)))) rfl rfl rfl ?_; clear ha a; intro a ha
    refine sv ha (rb_xor ha (((padB r g.2).set g.2.length (((padB r g.2).getD g.2.length 0) ^^^ s)).getD (r - 1) 0) (128 : UInt8) rfl rfl) rfl rfl rfl ?_; clear ha a; intro a ha
    refine sv ha (r_indexB ha (r - 1) Tryd.runUnderlying22 Tryd.sizeOf5 rfl rfl (by omega)) rfl rfl rfl ?_; clear ha a; intro a ha
    refine sstore ha (v := e8 ((((padB r g.2).set g.2.length (((padB r g.2).getD g.2.length 0) ^^^ s)).getD (r - 1) 0) ^^^ (128 : UInt8))) rfl rfl rfl rfl Tryd.sizeOf5 hb30 (by rw [List.length_map, List.length_set, padB_len]; omega) ?_
    clear ha a; intro a w39 ha hg hb30'
    rw [set_map] at hb30'
    clear hb30; have hb30 := hb30'; clear hb30'
    have hb30 : w39.heap[b30]? = some (.cells ((lastB r s g.2).map e8).toArray 5 (0, 0)) := hb30
    replace hB := keepB1 hg (by omega) hB
    replace hb4 := keepO1 hg (by omega) hb4
    replace hb8 := keepO1 hg (by omega) hb8
    replace hsb := keepS1 hg (ne_of_ap hne_hsb_b30) hsb
    clear hg
    refine hK38 _ _ ?_; clear hK38 K37
    refine wp_seq_k fun K40 hK41 => ?_
    refine region ?_
    refine sv ha (r_loadR ha rfl Tryd.isAgg84 Tryd.sizeOf84 (C := (g.1).map e64) (by rw [List.length_map, hga]) (cells_all hb8)) rfl rfl rfl ?_; clear ha a; intro a ha
    refine sv ha (r_move ha rfl) rfl rfl rfl ?_; clear ha a; intro a ha
    refine sc ha (r_call ha [.agg ((g.1).map e64).toArray, (.slice (some ⟨b30, 0, none⟩) r r)] rfl Tryd.call99) rfl rfl rfl (c_lay g.1 (.slice (some ⟨b30, 0, none⟩) r r) (lastB r s g.2) _ (by rw [hga]) (Sl.ofBlockM hb30 (by rw [lastB_len]) (Nat.le_refl _)) (by rw [lastB_len]; omega)) ?_
    clear ha a
    rintro e w42 ⟨rfl, hBc⟩
    have hg := grown_call hBc; clear hBc
    replace hB := keepB0 hg hB
    replace hb4 := keepO0 hg hb4
    replace hb8 := keepO0 hg hb8
    replace hb30 := keepO0 hg hb30
    replace hsb := keepS0 hg hsb
    clear hg
    refine ⟨_, rfl, ?_⟩; intro a ha
    refine sc ha (r_call ha [.agg (((lay g.1 (lastB r s g.2))).map e64).toArray] rfl Tryd.call65) rfl rfl rfl (c_kf (lay g.1 (lastB r s g.2)) _ (by rw [lay_len, hga]) (glob_keep hG hB)) ?_
    clear ha a
    rintro e w43 ⟨rfl, hBc⟩
    have hg := grown_call hBc; clear hBc
    replace hB := keepB0 hg hB
    replace hb4 := keepO0 hg hb4
    replace hb8 := keepO0 hg hb8
    replace hb30 := keepO0 hg hb30
    replace hsb := keepS0 hg hsb
    clear hg
    refine ⟨_, rfl, ?_⟩; intro a ha
    refine sstoreW ha rfl rfl (one_e64 _) Tryd.sizeOf84 (by rw [List.length_map, kf_len _ (by rw [lay_len, hga])]) hb4 (by rw [List.length_map, List.length_replicate]) ?_
    clear ha a; intro a w44 ha hg hb4'
    clear hb4; have hb4 := hb4'; clear hb4'
    replace hB := keepB1 hg (by omega) hB
    replace hb8 := keepO1 hg (by omega) hb8
    replace hb30 := keepO1 hg (by omega) hb30
    replace hsb := keepS1 hg (ne_of_ap (fun j hj => by have h1 := hal_vb j hj; have h2 := hz4; omega)) hsb
    clear hg
    refine hK41 _ _ ?_; clear hK41 K40
    refine wp_ret ?_
    repeat (first | (with_reducible refine t_ret ?_) | (with_reducible refine x_ret ?_))
    exact retC _ ha Tryd.results83 rfl hb4 Tryd.underlying84 rfl (by rw [List.length_map, kf_len _ (by rw [lay_len, hga])]; kernel_rfl) ⟨(by rw [hgb, absR_end _ _ _ _ (by omega) (by omega)]), hB⟩

theorem c_absO (rate : Int) (s : UInt8) (v : Value) (b : List UInt8) (w0 : World) (hr : rate < 1 ∨ 200 < rate) (hs : Sl w0 v (b.map e8)) (hG : Glob w0) :
    Calls Tryd.prog 83 #[ei rate, e8 s, v] w0 fun e w' => e = .returned (.agg ((noughts).map e64).toArray) ∧ Below w0.heap.size w0 w' := by
  refine enter (args := [_, _, _]) Tryd.func83 rfl Tryd.ntmps83 rfl ?_
  intro a ha
  have hB := Below.refl w0.heap.size w0
  refine wp_seq_k fun K1 hK2 => ?_
  refine region ?_
  refine salloc ha zero_84Q2 rfl ?_
  clear ha a; intro a w3 b4 ha hg hb4 hge4 hlt4
  have hz4 : w0.heap.size ≤ b4 := Nat.le_trans hB.size hge4
  replace hB := keepB0 hg hB
  clear hg hge4 hlt4
  refine hK2 _ _ ?_; clear hK2 K1
  refine wp_seq_k fun K5 hK6 => ?_
  refine region ?_
  refine salloc ha zero_84Q2 rfl ?_
  clear ha a; intro a w7 b8 ha hg hb8 hge8 hlt8
  have hz8 : w0.heap.size ≤ b8 := Nat.le_trans hB.size hge8
  have hq4_8 : b4 < b8 := Nat.lt_of_lt_of_le (lt_of_block hb4) hge8
  replace hB := keepB0 hg hB
  replace hb4 := keepO0 hg hb4
  clear hg hge8 hlt8
  refine hK6 _ _ ?_; clear hK6 K5
  refine wp_seq_k fun K9 hK10 => ?_
  refine wp_seq_k fun K11 hK12 => ?_
  refine region ?_
  refine sv ha (r_move ha rfl) rfl rfl rfl ?_; clear ha a; intro a ha
  refine sv ha (r_lss ha rate 1 (decide (rate < 1)) rfl rfl (decide_eq_decide.2 (by omega))) rfl rfl rfl ?_; clear ha a; intro a ha
  refine sv ha (r_move ha rfl) rfl rfl rfl ?_; clear ha a; intro a ha
  cases hq13 : (decide (rate < 1))
  all_goals rw [hq13] at ha
  case false =>
    replace hq13 := of_decide_eq_false hq13
    refine svg ha (r_move ha rfl) rfl rfl rfl rfl rfl ?_; clear ha a; intro a ha
    refine svg ha (r_gtr ha rate 200 true rfl rfl (decide_eq_true (by omega))) rfl rfl rfl rfl rfl ?_; clear ha a; intro a ha
    refine sv ha (r_pick ha false rfl rfl) rfl rfl rfl ?_; clear ha a; intro a ha
    refine hK12 _ _ ?_; clear hK12 K11
    refine cond_t ha rfl ?_
    refine wp_seq_k fun K14 hK15 => ?_
    refine region ?_
    refine sv ha (r_loadR ha rfl Tryd.isAgg84 Tryd.sizeOf84 (C := (List.replicate 25 (0 : UInt64)).map e64) (by rw [List.length_map, List.length_replicate]) (cells_all hb8)) rfl rfl rfl ?_; clear ha a; intro a ha
    refine sstoreW ha rfl rfl (one_e64 _) Tryd.sizeOf84 (by rw [List.length_map, List.length_replicate]) hb4 (by rw [List.length_map, List.length_replicate]) ?_
    clear ha a; intro a w16 ha hg hb4'
    clear hb4; have hb4 := hb4'; clear hb4'
    replace hB := keepB1 hg (by omega) hB
    replace hb8 := keepO1 hg (by omega) hb8
    clear hg
    refine hK15 _ _ ?_; clear hK15 K14
    refine wp_ret ?_
    repeat (first | (with_reducible refine t_ret ?_) | (with_reducible refine x_ret ?_))
    exact retC _ ha Tryd.results83 rfl hb4 Tryd.underlying84 rfl (by rw [List.length_map, List.length_replicate]; kernel_rfl) ⟨rfl, hB⟩
  case true =>
    replace hq13 := of_decide_eq_true hq13
    refine sno ha rfl rfl rfl rfl rfl rfl ?_; clear ha a; intro a ha
    refine sno ha rfl rfl rfl rfl rfl rfl ?_; clear ha a; intro a ha
    refine sv ha (r_pick ha true rfl rfl) rfl rfl rfl ?_; clear ha a; intro a ha
    refine hK12 _ _ ?_; clear hK12 K11
    refine cond_t ha rfl ?_
    refine wp_seq_k fun K17 hK18 => ?_
    refine region ?_
    refine sv ha (r_loadR ha rfl Tryd.isAgg84 Tryd.sizeOf84 (C := (List.replicate 25 (0 : UInt64)).map e64) (by rw [List.length_map, List.length_replicate]) (cells_all hb8)) rfl rfl rfl ?_; clear ha a; intro a ha
    refine sstoreW ha rfl rfl (one_e64 _) Tryd.sizeOf84 (by rw [List.length_map, List.length_replicate]) hb4 (by rw [List.length_map, List.length_replicate]) ?_
    clear ha a; intro a w19 ha hg hb4'
    clear hb4; have hb4 := hb4'; clear hb4'
    replace hB := keepB1 hg (by omega) hB
    replace hb8 := keepO1 hg (by omega) hb8
    clear hg
    refine hK18 _ _ ?_; clear hK18 K17
    refine wp_ret ?_
    repeat (first | (with_reducible refine t_ret ?_) | (with_reducible refine x_ret ?_))
    exact retC _ ha Tryd.results83 rfl hb4 Tryd.underlying84 rfl (by rw [List.length_map, List.length_replicate]; kernel_rfl) ⟨rfl, hB⟩

theorem c_absZ (rate : Int) (s : UInt8) (v : Value) (b : List UInt8) (w0 : World) (hs : Sl w0 v (b.map e8)) (hG : Glob w0) :
    Calls Tryd.prog 83 #[ei rate, e8 s, v] w0 fun e w' => e = .returned (.agg ((absZ rate s b).map e64).toArray) ∧ Below w0.heap.size w0 w' := by
  by_cases h : 1 ≤ rate ∧ rate ≤ 200
  · obtain ⟨n, rfl⟩ := Int.eq_ofNat_of_zero_le (show 0 ≤ rate by omega)
    refine (c_absN n s v b w0 (by omega) hs hG).mono fun e w h' => ?_
    rw [absZ, if_pos h]; exact h'
  · refine (c_absO rate s v b w0 (by omega) hs hG).mono fun e w h' => ?_
    rw [absZ, if_neg h]; exact h'

theorem c_sum512 (v : Value) (b : List UInt8) (w0 : World) (hs : Sl w0 v (b.map e8)) (hG : Glob w0) :
    Calls Tryd.prog 50 #[v] w0 fun e w' => ∃ u0 : Value, e = .returned (u0) ∧ Below w0.heap.size w0 w' ∧ Sl w' u0 ((sum512 b).map e8) ∧ (∀ j, u0.ownBlock = some j → w0.heap.size ≤ j) := by
  refine enter (args := [_]) Tryd.func50 rfl Tryd.ntmps50 rfl ?_
  intro a ha
  have hB := Below.refl w0.heap.size w0
  refine wp_seq_k fun K1 hK2 => ?_
  refine region ?_
  refine sv ha (r_assign ha rfl) rfl rfl rfl ?_; clear ha a; intro a ha
  refine hK2 _ _ ?_; clear hK2 K1
  refine wp_seq_k fun K3 hK4 => ?_
  refine region ?_
  refine sv ha (r_move ha rfl) rfl rfl rfl ?_; clear ha a; intro a ha
  refine sc ha (r_call ha [en 72, e8 (6 : UInt8), v] rfl Tryd.call83) rfl rfl rfl (c_absN 72 (6 : UInt8) v b _ (by omega) (hs.below hB) (glob_keep hG hB)) ?_
  clear ha a
  rintro e w5 ⟨rfl, hBc⟩
  have hg := grown_call hBc; clear hBc
  replace hB := keepB0 hg hB
  clear hg
  refine ⟨_, rfl, ?_⟩; intro a ha
  refine sc ha (r_call ha [.agg (((absR 72 (6 : UInt8) noughts b)).map e64).toArray, en 64] rfl Tryd.call66) rfl rfl rfl (c_take (absR 72 (6 : UInt8) noughts b) 64 _ (by rw [absR_len]) (by omega)) ?_
  clear ha a
  rintro e w6 ⟨u7, rfl, hBc, hs7, hd7⟩
  have hg := grown_call hBc; clear hBc
  replace hd7 : ∀ j, u7.ownBlock = some j → w0.heap.size ≤ j := fun j hj => Nat.le_trans hB.size (hd7 j hj)
  replace hB := keepB0 hg hB
  clear hg
  refine ⟨_, rfl, ?_⟩; intro a ha
  refine sv ha (r_assign ha rfl) rfl rfl rfl ?_; clear ha a; intro a ha
  refine hK4 _ _ ?_; clear hK4 K3
  refine wp_ret ?_
  repeat (first | (with_reducible refine t_ret ?_) | (with_reducible refine x_ret ?_))
  exact ret1 ha Tryd.results50 rfl ⟨_, rfl, hB, (Sl.castM (l := tk (absR 72 (6 : UInt8) noughts b) 64) hs7 rfl), hd7⟩

theorem zero_86Q2 : ∀ w, (zeroValue 86).run Tryd.prog w = .ok (.agg ((List.replicate 25 (0 : UInt64)).map e64 ++ [en 0, .slice none 0 0]).toArray) w := fun _ => by kernel_rfl
theorem c_start (r : Nat) (v : Value) (b : List UInt8) (w0 : World) (hr : 1 ≤ r ∧ r ≤ 200) (hs : Sl w0 v (b.map e8)) (hG : Glob w0) :
    Calls Tryd.prog 64 #[en r, v] w0 fun e w' => ∃ (bk : Nat) (uk : Value), e = .returned (.pointer (some ⟨bk, 0, none⟩)) ∧ Below w0.heap.size w0 w' ∧ w'.heap[bk]? = some (.cells ((absR r 31 noughts b).map e64 ++ [en r, uk]).toArray 86 (0, 0)) ∧ w0.heap.size ≤ bk ∧ Sl w' uk ((tk (absR r 31 noughts b) r).map e8) ∧ (∀ j, uk.ownBlock = some j → w0.heap.size ≤ j) ∧ (∀ j, uk.ownBlock = some j → j ≠ bk) := by
  refine enter (args := [_, _]) Tryd.func64 rfl Tryd.ntmps64 rfl ?_
  intro a ha
  have hB := Below.refl w0.heap.size w0
  refine wp_seq_k fun K1 hK2 => ?_
  refine region ?_
  refine sv ha (r_assign ha rfl) rfl rfl rfl ?_; clear ha a; intro a ha
  refine hK2 _ _ ?_; clear hK2 K1
  refine wp_seq_k fun K3 hK4 => ?_
  refine region ?_
  refine sv ha (r_move ha rfl) rfl rfl rfl ?_; clear ha a; intro a ha
  refine sv ha (r_move ha rfl) rfl rfl rfl ?_; clear ha a; intro a ha
  refine sc ha (r_call ha [en r, e8 (31 : UInt8), v] rfl Tryd.call83) rfl rfl rfl (c_absN r (31 : UInt8) v b _ (by omega) (hs.below hB) (glob_keep hG hB)) ?_
  clear ha a
  rintro e w5 ⟨rfl, hBc⟩
  have hg := grown_call hBc; clear hBc
  replace hB := keepB0 hg hB
  clear hg
  refine ⟨_, rfl, ?_⟩; intro a ha
  refine salloc ha zero_84Q2 rfl ?_
  clear ha a; intro a w6 b7 ha hg hb7 hge7 hlt7
  have hz7 : w0.heap.size ≤ b7 := Nat.le_trans hB.size hge7
  replace hB := keepB0 hg hB
  clear hg hge7 hlt7
  refine sstoreW ha rfl rfl (one_e64 _) Tryd.sizeOf84 (by rw [List.length_map, absR_len]) hb7 (by rw [List.length_map, List.length_replicate]) ?_
  clear ha a; intro a w8 ha hg hb7'
  clear hb7; have hb7 := hb7'; clear hb7'
  replace hB := keepB1 hg (by omega) hB
  clear hg
  refine hK4 _ _ ?_; clear hK4 K3
  refine wp_seq_k fun K9 hK10 => ?_
  refine regionD (S := fun w => Below w0.heap.size w0 w ∧ w.heap[b7]? = some (.cells ((absR r (31 : UInt8) noughts b).map e64).toArray 84 (0, 0)) ∧ True) [] [0, 1, 2, 3, 5, 7] [0, 1, 2, 3, 4, 5, 6, 7] mixed (by kernel_rfl) (fun w hg => ⟨keepB0 hg hB, keepO0 hg hb7, trivial⟩) ?_
  intro w11 hg
  replace hB := keepB0 hg hB
  replace hb7 := keepO0 hg hb7
  clear hg
  refine cv ha rfl rfl (fun w ⟨hB, hb7, _⟩ => r_loadR ha rfl Tryd.isAgg84 Tryd.sizeOf84 (C := (absR r (31 : UInt8) noughts b).map e64) (by rw [List.length_map, absR_len]) (cells_all hb7)) rfl rfl rfl ?_; clear ha a; intro a ha
  refine cv ha rfl rfl (fun w _ => r_move ha rfl) rfl rfl rfl ?_; clear ha a; intro a ha
  refine cv ha rfl rfl (fun w ⟨hB, hb7, _⟩ => r_loadR ha rfl Tryd.isAgg84 Tryd.sizeOf84 (C := (absR r (31 : UInt8) noughts b).map e64) (by rw [List.length_map, absR_len]) (cells_all hb7)) rfl rfl rfl ?_; clear ha a; intro a ha
  refine cv ha rfl rfl (fun w _ => r_move ha rfl) rfl rfl rfl ?_; clear ha a; intro a ha
  refine ccx ha rfl rfl (r_call ha [.agg (((absR r (31 : UInt8) noughts b)).map e64).toArray, en r] rfl Tryd.call66) rfl rfl rfl (c_take (absR r (31 : UInt8) noughts b) r _ (by rw [absR_len]) (by omega)) ?_
  clear ha a
  rintro e w12 ⟨u13, rfl, hBc, hs13, hd13⟩
  have hg := grown_call hBc; clear hBc
  have hnb_hs13_b7 : ∀ j, u13.ownBlock = some j → j ≠ b7 := fun j hj => by have h1 := hd13 j hj; have h2 := lt_of_block hb7; omega
  replace hd13 : ∀ j, u13.ownBlock = some j → w0.heap.size ≤ j := fun j hj => Nat.le_trans hB.size (hd13 j hj)
  replace hB := keepB0 hg hB
  replace hb7 := keepO0 hg hb7
  clear hg
  refine ⟨fun w => (Sl w u13 ((tk (absR r (31 : UInt8) noughts b) r).map e8)) ∧ Below w0.heap.size w0 w ∧ w.heap[b7]? = some (.cells ((absR r (31 : UInt8) noughts b).map e64).toArray 84 (0, 0)) ∧ True, fun w h => h.2, fun _ => ⟨hs13, hB, hb7, trivial⟩, _, rfl, ?_⟩; intro a ha
  refine cv ha rfl rfl (fun w ⟨hs13, hB, hb7, _⟩ => r_buildSt (C := (absR r (31 : UInt8) noughts b).map e64 ++ [en r, u13]) ha [(0, .tmp 9), (1, .tmp 10), (2, .tmp 13)] [(0, .agg ((absR r (31 : UInt8) noughts b).map e64).toArray), (1, en r), (2, u13)] rfl zero_86Q2 Tryd.runUnderlying86 (places := #[(0, 25), (25, 1), (26, 1)]) (fun _ => by kernel_rfl) (fillX (absR r (31 : UInt8) noughts b) (by rw [absR_len]) r hs13)) rfl rfl rfl ?_; clear ha a; intro a ha
  refine cbox ha rfl rfl rfl rfl (fun w hg => ⟨keepS0 hg hs13, keepB0 hg hB, keepO0 hg hb7, trivial⟩) ?_
  clear ha a; intro a w14 b15 ha hg hb15 hge15 hlt15
  have hz15 : w0.heap.size ≤ b15 := Nat.le_trans hB.size hge15
  have hne_hs13_b15 : ∀ j, Value.ownBlock u13 = some j → j ≠ b15 := fun j hj => by have := hs13.lt j hj; omega
  have hq7_15 : b7 < b15 := Nat.lt_of_lt_of_le (lt_of_block hb7) hge15
  replace hB := keepB0 hg hB
  replace hb7 := keepO0 hg hb7
  replace hs13 := keepS0 hg hs13
  clear hg hge15 hlt15
  refine cv ha rfl rfl (fun w _ => r_assign ha rfl) rfl rfl rfl ?_; clear ha a; intro a ha
  refine cfin (hK10 _ _ ?_); clear hK10 K9
  refine wp_ret ?_
  repeat (first | (with_reducible refine t_ret ?_) | (with_reducible refine x_ret ?_))
  exact ret1 ha Tryd.results64 rfl ⟨_, _, rfl, hB, hb15, hz15, hs13, hd13, hne_hs13_b15⟩

theorem c_shake128 (v : Value) (b : List UInt8) (w0 : World) (hs : Sl w0 v (b.map e8)) (hG : Glob w0) :
    Calls Tryd.prog 30 #[v] w0 fun e w' => ∃ (bk : Nat) (uk : Value), e = .returned (.pointer (some ⟨bk, 0, none⟩)) ∧ Below w0.heap.size w0 w' ∧ w'.heap[bk]? = some (.cells ((absR 168 31 noughts b).map e64 ++ [en 168, uk]).toArray 86 (0, 0)) ∧ w0.heap.size ≤ bk ∧ Sl w' uk ((tk (absR 168 31 noughts b) 168).map e8) ∧ (∀ j, uk.ownBlock = some j → w0.heap.size ≤ j) ∧ (∀ j, uk.ownBlock = some j → j ≠ bk) := by
  refine enter (args := [_]) Tryd.func30 rfl Tryd.ntmps30 rfl ?_
  intro a ha
  have hB := Below.refl w0.heap.size w0
  refine wp_seq_k fun K1 hK2 => ?_
  refine region ?_
  refine sv ha (r_assign ha rfl) rfl rfl rfl ?_; clear ha a; intro a ha
  refine hK2 _ _ ?_; clear hK2 K1
  refine wp_seq_k fun K3 hK4 => ?_
  refine region ?_
  refine sv ha (r_move ha rfl) rfl rfl rfl ?_; clear ha a; intro a ha
  refine sc ha (r_call ha [en 168, v] rfl Tryd.call64) rfl rfl rfl (c_start 168 v b _ (by omega) (hs.below hB) (glob_keep hG hB)) ?_
  clear ha a
  rintro e w5 ⟨b6, u6, rfl, hBc, hb6, hge6, hs6, hd6, hnx6⟩
  have hg := grown_call hBc; clear hBc
  have hz6 : w0.heap.size ≤ b6 := Nat.le_trans hB.size hge6
  replace hd6 : ∀ j, u6.ownBlock = some j → w0.heap.size ≤ j := fun j hj => Nat.le_trans hB.size (hd6 j hj)
  replace hB := keepB0 hg hB
  clear hg hge6
  refine ⟨_, rfl, ?_⟩; intro a ha
  refine sv ha (r_assign ha rfl) rfl rfl rfl ?_; clear ha a; intro a ha
  refine hK4 _ _ ?_; clear hK4 K3
  refine wp_ret ?_
  repeat (first | (with_reducible refine t_ret ?_) | (with_reducible refine x_ret ?_))
  exact ret1 ha Tryd.results30 rfl ⟨_, _, rfl, hB, hb6, hz6, hs6, hd6, hnx6⟩

theorem c_shake256 (v : Value) (b : List UInt8) (w0 : World) (hs : Sl w0 v (b.map e8)) (hG : Glob w0) :
    Calls Tryd.prog 38 #[v] w0 fun e w' => ∃ (bk : Nat) (uk : Value), e = .returned (.pointer (some ⟨bk, 0, none⟩)) ∧ Below w0.heap.size w0 w' ∧ w'.heap[bk]? = some (.cells ((absR 136 31 noughts b).map e64 ++ [en 136, uk]).toArray 86 (0, 0)) ∧ w0.heap.size ≤ bk ∧ Sl w' uk ((tk (absR 136 31 noughts b) 136).map e8) ∧ (∀ j, uk.ownBlock = some j → w0.heap.size ≤ j) ∧ (∀ j, uk.ownBlock = some j → j ≠ bk) := by
  refine enter (args := [_]) Tryd.func38 rfl Tryd.ntmps38 rfl ?_
  intro a ha
  have hB := Below.refl w0.heap.size w0
  refine wp_seq_k fun K1 hK2 => ?_
  refine region ?_
  refine sv ha (r_assign ha rfl) rfl rfl rfl ?_; clear ha a; intro a ha
  refine hK2 _ _ ?_; clear hK2 K1
  refine wp_seq_k fun K3 hK4 => ?_
  refine region ?_
  refine sv ha (r_move ha rfl) rfl rfl rfl ?_; clear ha a; intro a ha
  refine sc ha (r_call ha [en 136, v] rfl Tryd.call64) rfl rfl rfl (c_start 136 v b _ (by omega) (hs.below hB) (glob_keep hG hB)) ?_
  clear ha a
  rintro e w5 ⟨b6, u6, rfl, hBc, hb6, hge6, hs6, hd6, hnx6⟩
  have hg := grown_call hBc; clear hBc
  have hz6 : w0.heap.size ≤ b6 := Nat.le_trans hB.size hge6
  replace hd6 : ∀ j, u6.ownBlock = some j → w0.heap.size ≤ j := fun j hj => Nat.le_trans hB.size (hd6 j hj)
  replace hB := keepB0 hg hB
  clear hg hge6
  refine ⟨_, rfl, ?_⟩; intro a ha
  refine sv ha (r_assign ha rfl) rfl rfl rfl ?_; clear ha a; intro a ha
  refine hK4 _ _ ?_; clear hK4 K3
  refine wp_ret ?_
  repeat (first | (with_reducible refine t_ret ?_) | (with_reducible refine x_ret ?_))
  exact ret1 ha Tryd.results38 rfl ⟨_, _, rfl, hB, hb6, hz6, hs6, hd6, hnx6⟩

theorem c_readN (n : Int) (w0 : World) :
    Calls Tryd.prog 31 #[.pointer none, ei n] w0 fun e w' => ∃ u0 : Value, e = .returned (u0) ∧ Below w0.heap.size w0 w' ∧ Sl w' u0 ((([] : List UInt8)).map e8) ∧ (∀ j, u0.ownBlock = some j → w0.heap.size ≤ j) := by
  refine enter (args := [_, _]) Tryd.func31 rfl Tryd.ntmps31 rfl ?_
  intro a ha
  have hB := Below.refl w0.heap.size w0
  refine wp_seq_k fun K1 hK2 => ?_
  refine region ?_
  refine sv ha (r_assign ha rfl) rfl rfl rfl ?_; clear ha a; intro a ha
  refine hK2 _ _ ?_; clear hK2 K1
  refine wp_seq_k fun K3 hK4 => ?_
  refine wp_seq_k fun K5 hK6 => ?_
  refine region ?_
  refine sv ha (r_move ha rfl) rfl rfl rfl ?_; clear ha a; intro a ha
  refine sv ha (r_eqlP ha true Tryd.runUnderlying50 rfl rfl rfl) rfl rfl rfl ?_; clear ha a; intro a ha
  refine hK6 _ _ ?_; clear hK6 K5
  refine cond_t ha rfl ?_
  refine wp_seq_k fun K7 hK8 => ?_
  refine region ?_
  refine sv ha (r_assign ha rfl) rfl rfl rfl ?_; clear ha a; intro a ha
  refine hK8 _ _ ?_; clear hK8 K7
  refine wp_ret ?_
  repeat (first | (with_reducible refine t_ret ?_) | (with_reducible refine x_ret ?_))
  exact ret1 ha Tryd.results31 rfl ⟨_, rfl, hB, (Sl.castM (l := ([] : List UInt8)) (Sl.nil _) rfl), (fun j hj => (nil_own j hj).elim)⟩
end Go.Proofs.YtaignhikdfpbbaaDoor
