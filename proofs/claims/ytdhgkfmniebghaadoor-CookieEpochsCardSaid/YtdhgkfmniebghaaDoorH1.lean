/- WALKS written by gen.py (own program) out of specs. -/
import Derived.Test.YtdhgkfmniebghaaDoorQ6
import Derived.Test.YtdhgkfmniebghaaDoorHk
namespace Go.Proofs.YtdhgkfmniebghaaDoor
open Go.RowKit Go.Rx
set_option maxRecDepth 100000
set_option maxHeartbeats 4000000
set_option linter.unusedVariables false
set_option linter.unusedSimpArgs false

theorem c_with (p : List UInt8) (c : UInt8) (w0 : World) (hl : p.length = 136) :
    Calls Tryd.prog 54 #[.agg ((p).map e8).toArray, e8 c] w0 fun e w' => ∃ u0 : Value, e = .returned (u0) ∧ Below w0.heap.size w0 w' ∧ Sl w' u0 ((wi p c).map e8) ∧ (∀ j, u0.ownBlock = some j → w0.heap.size ≤ j) := by
  refine enter (args := [_, _]) Tryd.func54 rfl Tryd.ntmps54 rfl ?_
  intro a ha
  have hB := Below.refl w0.heap.size w0
  refine wp_seq_k fun K1 hK2 => ?_
  refine region ?_
  refine sbox ha rfl rfl ?_
  clear ha a; intro a w3 b4 ha hg hb4 hge4 hlt4
  have hz4 : w0.heap.size ≤ b4 := Nat.le_trans hB.size hge4
  replace hB := keepB0 hg hB
  clear hg hge4 hlt4
  refine sv ha (r_assign ha rfl) rfl rfl rfl ?_; clear ha a; intro a ha
  refine hK2 _ _ ?_; clear hK2 K1
  refine wp_seq_k fun K5 hK6 => ?_
  refine wp_seq_k fun K7 hK8 => ?_
  refine region ?_
  refine sv ha (r_move ha rfl) rfl rfl rfl ?_; clear ha a; intro a ha
  refine hK8 _ _ ?_; clear hK8 K7
  refine wp_block ?_
  refine loopG (fun (k : Nat) a w => (k ≤ 136) ∧ Has 17 [(0, .agg ((p).map e8).toArray), (1, e8 c), (2, .pointer (some ⟨b4, 0, none⟩)), (4, .slice none 0 0), (6, en k)] a ∧ Below w0.heap.size w0 w ∧ w.heap[b4]? = some (.cells ((wiA p c k).map e8).toArray 67 (0, 0))) (fun k => 136 - k) 0 ⟨(by omega), ha.to [0, 1, 2, 4, 6] rfl, hB, hb4⟩ ?_
  clear ha a hB hb4
  intro k a w9 ⟨hkk, ha, hB, hb4⟩
  refine wp_seq_k fun K10 hK11 => ?_
  refine region ?_
  refine sv ha (r_lss ha ((k : Nat) : Int) 136 (decide (k < 136)) rfl rfl (decide_eq_decide.2 (by omega))) rfl rfl rfl ?_; clear ha a; intro a ha
  refine hK11 _ _ ?_; clear hK11 K10
  refine wp_seq_k fun K12 hK13 => ?_
  refine cond_if ha rfl (fun hc14 => ?_) (fun hc14 => ?_)
  · skip
    replace hc14 := of_decide_eq_true hc14
    refine wp_skip ?_
    refine hK13 _ _ ?_; clear hK13 K12
    refine wp_seq_k fun K15 hK16 => ?_
    refine wp_block ?_
    refine wp_seq_k fun K17 hK18 => ?_
    refine region ?_
    refine sv ha (r_move ha rfl) rfl rfl rfl ?_; clear ha a; intro a ha
    refine sv ha (r_assign ha rfl) rfl rfl rfl ?_; clear ha a; intro a ha
    refine hK18 _ _ ?_; clear hK18 K17
    refine region ?_
    refine sv ha (r_move ha rfl) rfl rfl rfl ?_; clear ha a; intro a ha
    refine sv ha (r_indexArr (i := k) ha k Tryd.runUnderlying67 Tryd.sizeOf5 rfl rfl (by omega) (by omega)) rfl rfl rfl ?_; clear ha a; intro a ha
    refine sv ha (r_load ha rfl Tryd.isAgg5 (cell_of hb4 (get_map e8 (wiA p c k) 0 k (by rw [wiA_len, hl]; omega)))) rfl rfl rfl ?_; clear ha a; intro a ha
    refine sv ha (r_move ha rfl) rfl rfl rfl ?_; clear ha a; intro a ha
    refine sv ha (rb_xor ha ((wiA p c k).getD k 0) c rfl rfl) rfl rfl rfl ?_; clear ha a; intro a ha
    refine sv ha (r_indexArr (i := k) ha k Tryd.runUnderlying67 Tryd.sizeOf5 rfl rfl (by omega) (by omega)) rfl rfl rfl ?_; clear ha a; intro a ha
    refine sstore ha (v := e8 (((wiA p c k).getD k 0) ^^^ c)) rfl rfl rfl rfl Tryd.sizeOf5 hb4 (by rw [List.length_map, wiA_len, hl]; omega) ?_
    clear ha a; intro a w19 ha hg hb4'
    rw [set_map] at hb4'
    clear hb4; have hb4 := hb4'; clear hb4'
    replace hB := keepB1 hg (by omega) hB
    clear hg
    refine hK16 _ _ ?_; clear hK16 K15
    refine region ?_
    refine sv ha (rn_add ha k 1 rfl rfl (by omega)) rfl rfl rfl ?_; clear ha a; intro a ha
    refine sv ha (r_move ha rfl) rfl rfl rfl ?_; clear ha a; intro a ha
    exact ⟨k + 1, by omega, (by omega), ha.to [0, 1, 2, 4, 6] rfl, hB, hb4⟩
  · skip
    replace hc14 := of_decide_eq_false hc14
    refine wp_exit ?_
    obtain rfl : k = 136 := by omega
    refine hK6 _ _ ?_; clear hK13 K12 hK6 K5
    refine wp_seq_k fun K20 hK21 => ?_
    refine region ?_
    refine sv ha (r_sliceA ha Tryd.runUnderlying67 Tryd.sizeOf5 rfl) rfl rfl rfl ?_; clear ha a; intro a ha
    refine sv ha (r_assign ha rfl) rfl rfl rfl ?_; clear ha a; intro a ha
    refine hK21 _ _ ?_; clear hK21 K20
    refine wp_ret ?_
    repeat (first | (with_reducible refine t_ret ?_) | (with_reducible refine x_ret ?_))
    exact ret1 ha Tryd.results54 rfl ⟨_, rfl, hB, (Sl.castM (l := wiA p c 136) (Sl.ofBlockM hb4 (by rw [wiA_len, hl]) (by omega)) rfl), (fun j hj => by cases hj; exact hz4)⟩

theorem zero_67H1 : ∀ w, (zeroValue 67).run Tryd.prog w = .ok (.agg ((List.replicate 136 (0 : UInt8)).map e8).toArray) w := fun _ => by kernel_rfl
theorem c_macS (v : Value) (key : List UInt8) (u : Value) (b : List UInt8) (w0 : World) (hs : Sl w0 v (key.map e8)) (hsu : Sl w0 u (b.map e8)) (hb : b.length ≤ 50000) (hk : ¬ key.length > 136) (hG : Glob w0) :
    Calls Tryd.prog 31 #[v, u] w0 fun e w' => ∃ u0 : Value, e = .returned (u0) ∧ Below w0.heap.size w0 w' ∧ Sl w' u0 ((mac key b).map e8) ∧ (∀ j, u0.ownBlock = some j → w0.heap.size ≤ j) := by
  refine enter (args := [_, _]) Tryd.func31 rfl Tryd.ntmps31 rfl ?_
  intro a ha
  have hB := Below.refl w0.heap.size w0
  refine wp_seq_k fun K1 hK2 => ?_
  refine region ?_
  refine sv ha (r_assign ha rfl) rfl rfl rfl ?_; clear ha a; intro a ha
  refine hK2 _ _ ?_; clear hK2 K1
  refine wp_seq_k fun K3 hK4 => ?_
  refine wp_seq_k fun K5 hK6 => ?_
  refine region ?_
  refine sv ha (r_move ha rfl) rfl rfl rfl ?_; clear ha a; intro a ha
  refine sv ha (r_lenS ha Tryd.runUnderlying22 (hs.below hB) rfl (by rw [List.length_map])) rfl rfl rfl ?_; clear ha a; intro a ha
  refine sv ha (r_gtr ha ((key.length : Nat) : Int) 136 false rfl rfl (decide_eq_false (by omega))) rfl rfl rfl ?_; clear ha a; intro a ha
  refine hK6 _ _ ?_; clear hK6 K5
  refine cond_f ha rfl ?_
  refine wp_skip ?_
  refine hK4 _ _ ?_; clear hK4 K3
  refine wp_seq_k fun K7 hK8 => ?_
  refine region ?_
  refine salloc ha zero_67H1 rfl ?_
  clear ha a; intro a w9 b10 ha hg hb10 hge10 hlt10
  have hz10 : w0.heap.size ≤ b10 := Nat.le_trans hB.size hge10
  replace hB := keepB0 hg hB
  clear hg hge10 hlt10
  refine hK8 _ _ ?_; clear hK8 K7
  refine wp_seq_k fun K11 hK12 => ?_
  refine region ?_
  refine sv ha (r_sliceA ha Tryd.runUnderlying67 Tryd.sizeOf5 rfl) rfl rfl rfl ?_; clear ha a; intro a ha
  refine sv ha (r_move ha rfl) rfl rfl rfl ?_; clear ha a; intro a ha
  refine scopy (d := 14) (C := (key).map e8) (p := (key.take 136).map e8) ha rfl rfl (hs.below hB) Tryd.underlying22 rfl hb10 (by rw [List.map_take]) (by simp only [List.length_map, List.length_take, List.length_replicate]; omega) (one_e8 _) ?_ rfl rfl rfl
  clear ha a; intro a w13 ha hg hb10'
  rw [copy_map] at hb10'
  clear hb10; have hb10 : w13.heap[b10]? = some (.cells ((padB 136 key).map e8).toArray 67 (0, 0)) := hb10'; clear hb10'
  replace hB := keepB1 hg (by omega) hB
  clear hg
  refine hK12 _ _ ?_; clear hK12 K11
  refine wp_seq_k fun K14 hK15 => ?_
  refine region ?_
  refine sv ha (r_loadR ha rfl Tryd.isAgg67 Tryd.sizeOf67 (C := (padB 136 key).map e8) (by rw [List.length_map, padB_len]) (cells_all hb10)) rfl rfl rfl ?_; clear ha a; intro a ha
  refine sc ha (r_call ha [.agg (((padB 136 key)).map e8).toArray, e8 (54 : UInt8)] rfl Tryd.call54) rfl rfl rfl (c_with (padB 136 key) (54 : UInt8) _ (by rw [padB_len])) ?_
  clear ha a
  rintro e w16 ⟨u17, rfl, hBc, hs17, hd17⟩
  have hg := grown_call hBc; clear hBc
  have hnb_hs17_b10 : ∀ j, u17.ownBlock = some j → j ≠ b10 := fun j hj => by have h1 := hd17 j hj; have h2 := lt_of_block hb10; omega
  replace hd17 : ∀ j, u17.ownBlock = some j → w0.heap.size ≤ j := fun j hj => Nat.le_trans hB.size (hd17 j hj)
  replace hB := keepB0 hg hB
  replace hb10 := keepO0 hg hb10
  clear hg
  refine ⟨_, rfl, ?_⟩; intro a ha
  refine sv ha (r_move ha rfl) rfl rfl rfl ?_; clear ha a; intro a ha
  refine sbuildS ha [(0, u17), (1, u)] [u17, u] rfl Tryd.runUnderlying76 Tryd.sizeOf22 Tryd.zeroValue22 rfl rfl rfl (fill2 (Sl.one hs17) (Sl.one (hsu.below hB))) rfl ?_
  clear ha a; intro a w18 b19 ha hg hb19 hge19 hlt19
  have hz19 : w0.heap.size ≤ b19 := Nat.le_trans hB.size hge19
  have hne_hs17_b19 : ∀ j, Value.ownBlock u17 = some j → j ≠ b19 := fun j hj => by have := hs17.lt j hj; omega
  have hq10_19 : b10 < b19 := Nat.lt_of_lt_of_le (lt_of_block hb10) hge19
  replace hB := keepB0 hg hB
  replace hb10 := keepO0 hg hb10
  replace hs17 := keepS0 hg hs17
  clear hg hge19 hlt19
  refine sc ha (r_call ha [(.slice (some ⟨b19, 0, none⟩) 2 2)] rfl Tryd.call53) rfl rfl rfl (c_join (.slice (some ⟨b19, 0, none⟩) 2 2) ([u17, u]) ([wi (padB 136 key) (54 : UInt8), b]) _ (Sl.ofBlock (D := [u17, u]) (C := [u17, u]) hb19 rfl (Nat.le_refl _)) (.cons hs17 (.cons (hsu.below hB) .nil)) (by simp only [List.flatten_cons, List.flatten_nil, List.append_nil, List.length_append, wi_len, padB_len, sum256_len]; omega) (show 2 ≤ 1000 by omega)) ?_
  clear ha a
  rintro e w20 ⟨u21, rfl, hBc, hs21, hd21⟩
  have hg := grown_call hBc; clear hBc
  have hnb_hs21_b10 : ∀ j, u21.ownBlock = some j → j ≠ b10 := fun j hj => by have h1 := hd21 j hj; have h2 := lt_of_block hb10; omega
  have hnb_hs21_b19 : ∀ j, u21.ownBlock = some j → j ≠ b19 := fun j hj => by have h1 := hd21 j hj; have h2 := lt_of_block hb19; omega
  have hds_hs21_hs17 : ∀ j, u21.ownBlock = some j → u17.ownBlock ≠ some j := fun j h1 h2 => by have h3 := hd21 j h1; have h4 := (fun j hj => hs17.lt j hj) j h2; omega
  replace hd21 : ∀ j, u21.ownBlock = some j → w0.heap.size ≤ j := fun j hj => Nat.le_trans hB.size (hd21 j hj)
  replace hB := keepB0 hg hB
  replace hb10 := keepO0 hg hb10
  replace hb19 := keepO0 hg hb19
  replace hs17 := keepS0 hg hs17
  clear hg
  refine ⟨_, rfl, ?_⟩; intro a ha
  refine sc ha (r_call ha [u21] rfl Tryd.call21) rfl rfl rfl (c_sum256 u21 (([wi (padB 136 key) (54 : UInt8), b]).flatten) _ hs21 (glob_keep hG hB)) ?_
  clear ha a
  rintro e w22 ⟨u23, rfl, hBc, hs23, hd23⟩
  have hg := grown_call hBc; clear hBc
  have hnb_hs23_b10 : ∀ j, u23.ownBlock = some j → j ≠ b10 := fun j hj => by have h1 := hd23 j hj; have h2 := lt_of_block hb10; omega
  have hnb_hs23_b19 : ∀ j, u23.ownBlock = some j → j ≠ b19 := fun j hj => by have h1 := hd23 j hj; have h2 := lt_of_block hb19; omega
  have hds_hs23_hs17 : ∀ j, u23.ownBlock = some j → u17.ownBlock ≠ some j := fun j h1 h2 => by have h3 := hd23 j h1; have h4 := (fun j hj => hs17.lt j hj) j h2; omega
  have hds_hs23_hs21 : ∀ j, u23.ownBlock = some j → u21.ownBlock ≠ some j := fun j h1 h2 => by have h3 := hd23 j h1; have h4 := (fun j hj => hs21.lt j hj) j h2; omega
  replace hd23 : ∀ j, u23.ownBlock = some j → w0.heap.size ≤ j := fun j hj => Nat.le_trans hB.size (hd23 j hj)
  replace hB := keepB0 hg hB
  replace hb10 := keepO0 hg hb10
  replace hb19 := keepO0 hg hb19
  replace hs17 := keepS0 hg hs17
  replace hs21 := keepS0 hg hs21
  clear hg
  refine ⟨_, rfl, ?_⟩; intro a ha
  refine sv ha (r_assign ha rfl) rfl rfl rfl ?_; clear ha a; intro a ha
  refine hK15 _ _ ?_; clear hK15 K14
  refine wp_seq_k fun K24 hK25 => ?_
  refine region ?_
  refine sv ha (r_loadR ha rfl Tryd.isAgg67 Tryd.sizeOf67 (C := (padB 136 key).map e8) (by rw [List.length_map, padB_len]) (cells_all hb10)) rfl rfl rfl ?_; clear ha a; intro a ha
  refine sc ha (r_call ha [.agg (((padB 136 key)).map e8).toArray, e8 (92 : UInt8)] rfl Tryd.call54) rfl rfl rfl (c_with (padB 136 key) (92 : UInt8) _ (by rw [padB_len])) ?_
  clear ha a
  rintro e w26 ⟨u27, rfl, hBc, hs27, hd27⟩
  have hg := grown_call hBc; clear hBc
  have hnb_hs27_b10 : ∀ j, u27.ownBlock = some j → j ≠ b10 := fun j hj => by have h1 := hd27 j hj; have h2 := lt_of_block hb10; omega
  have hnb_hs27_b19 : ∀ j, u27.ownBlock = some j → j ≠ b19 := fun j hj => by have h1 := hd27 j hj; have h2 := lt_of_block hb19; omega
  have hds_hs27_hs17 : ∀ j, u27.ownBlock = some j → u17.ownBlock ≠ some j := fun j h1 h2 => by have h3 := hd27 j h1; have h4 := (fun j hj => hs17.lt j hj) j h2; omega
  have hds_hs27_hs21 : ∀ j, u27.ownBlock = some j → u21.ownBlock ≠ some j := fun j h1 h2 => by have h3 := hd27 j h1; have h4 := (fun j hj => hs21.lt j hj) j h2; omega
  have hds_hs27_hs23 : ∀ j, u27.ownBlock = some j → u23.ownBlock ≠ some j := fun j h1 h2 => by have h3 := hd27 j h1; have h4 := (fun j hj => hs23.lt j hj) j h2; omega
  replace hd27 : ∀ j, u27.ownBlock = some j → w0.heap.size ≤ j := fun j hj => Nat.le_trans hB.size (hd27 j hj)
  replace hB := keepB0 hg hB
  replace hb10 := keepO0 hg hb10
  replace hb19 := keepO0 hg hb19
  replace hs17 := keepS0 hg hs17
  replace hs21 := keepS0 hg hs21
  replace hs23 := keepS0 hg hs23
  clear hg
  refine ⟨_, rfl, ?_⟩; intro a ha
  refine sv ha (r_move ha rfl) rfl rfl rfl ?_; clear ha a; intro a ha
  refine sbuildS ha [(0, u27), (1, u23)] [u27, u23] rfl Tryd.runUnderlying76 Tryd.sizeOf22 Tryd.zeroValue22 rfl rfl rfl (fill2 (Sl.one hs27) (Sl.one hs23)) rfl ?_
  clear ha a; intro a w28 b29 ha hg hb29 hge29 hlt29
  have hz29 : w0.heap.size ≤ b29 := Nat.le_trans hB.size hge29
  have hne_hs17_b29 : ∀ j, Value.ownBlock u17 = some j → j ≠ b29 := fun j hj => by have := hs17.lt j hj; omega
  have hne_hs21_b29 : ∀ j, Value.ownBlock u21 = some j → j ≠ b29 := fun j hj => by have := hs21.lt j hj; omega
  have hne_hs23_b29 : ∀ j, Value.ownBlock u23 = some j → j ≠ b29 := fun j hj => by have := hs23.lt j hj; omega
  have hne_hs27_b29 : ∀ j, Value.ownBlock u27 = some j → j ≠ b29 := fun j hj => by have := hs27.lt j hj; omega
  have hq10_29 : b10 < b29 := Nat.lt_of_lt_of_le (lt_of_block hb10) hge29
  have hq19_29 : b19 < b29 := Nat.lt_of_lt_of_le (lt_of_block hb19) hge29
  replace hB := keepB0 hg hB
  replace hb10 := keepO0 hg hb10
  replace hb19 := keepO0 hg hb19
  replace hs17 := keepS0 hg hs17
  replace hs21 := keepS0 hg hs21
  replace hs23 := keepS0 hg hs23
  replace hs27 := keepS0 hg hs27
  clear hg hge29 hlt29
  refine sc ha (r_call ha [(.slice (some ⟨b29, 0, none⟩) 2 2)] rfl Tryd.call53) rfl rfl rfl (c_join (.slice (some ⟨b29, 0, none⟩) 2 2) ([u27, u23]) ([wi (padB 136 key) (92 : UInt8), sum256 (([wi (padB 136 key) (54 : UInt8), b]).flatten)]) _ (Sl.ofBlock (D := [u27, u23]) (C := [u27, u23]) hb29 rfl (Nat.le_refl _)) (.cons hs27 (.cons hs23 .nil)) (by simp only [List.flatten_cons, List.flatten_nil, List.append_nil, List.length_append, wi_len, padB_len, sum256_len]; omega) (show 2 ≤ 1000 by omega)) ?_
  clear ha a
  rintro e w30 ⟨u31, rfl, hBc, hs31, hd31⟩
  have hg := grown_call hBc; clear hBc
  have hnb_hs31_b10 : ∀ j, u31.ownBlock = some j → j ≠ b10 := fun j hj => by have h1 := hd31 j hj; have h2 := lt_of_block hb10; omega
  have hnb_hs31_b19 : ∀ j, u31.ownBlock = some j → j ≠ b19 := fun j hj => by have h1 := hd31 j hj; have h2 := lt_of_block hb19; omega
  have hnb_hs31_b29 : ∀ j, u31.ownBlock = some j → j ≠ b29 := fun j hj => by have h1 := hd31 j hj; have h2 := lt_of_block hb29; omega
  have hds_hs31_hs17 : ∀ j, u31.ownBlock = some j → u17.ownBlock ≠ some j := fun j h1 h2 => by have h3 := hd31 j h1; have h4 := (fun j hj => hs17.lt j hj) j h2; omega
  have hds_hs31_hs21 : ∀ j, u31.ownBlock = some j → u21.ownBlock ≠ some j := fun j h1 h2 => by have h3 := hd31 j h1; have h4 := (fun j hj => hs21.lt j hj) j h2; omega
  have hds_hs31_hs23 : ∀ j, u31.ownBlock = some j → u23.ownBlock ≠ some j := fun j h1 h2 => by have h3 := hd31 j h1; have h4 := (fun j hj => hs23.lt j hj) j h2; omega
  have hds_hs31_hs27 : ∀ j, u31.ownBlock = some j → u27.ownBlock ≠ some j := fun j h1 h2 => by have h3 := hd31 j h1; have h4 := (fun j hj => hs27.lt j hj) j h2; omega
  replace hd31 : ∀ j, u31.ownBlock = some j → w0.heap.size ≤ j := fun j hj => Nat.le_trans hB.size (hd31 j hj)
  replace hB := keepB0 hg hB
  replace hb10 := keepO0 hg hb10
  replace hb19 := keepO0 hg hb19
  replace hb29 := keepO0 hg hb29
  replace hs17 := keepS0 hg hs17
  replace hs21 := keepS0 hg hs21
  replace hs23 := keepS0 hg hs23
  replace hs27 := keepS0 hg hs27
  clear hg
  refine ⟨_, rfl, ?_⟩; intro a ha
  refine sc ha (r_call ha [u31] rfl Tryd.call21) rfl rfl rfl (c_sum256 u31 (([wi (padB 136 key) (92 : UInt8), sum256 (([wi (padB 136 key) (54 : UInt8), b]).flatten)]).flatten) _ hs31 (glob_keep hG hB)) ?_
  clear ha a
  rintro e w32 ⟨u33, rfl, hBc, hs33, hd33⟩
  have hg := grown_call hBc; clear hBc
  have hnb_hs33_b10 : ∀ j, u33.ownBlock = some j → j ≠ b10 := fun j hj => by have h1 := hd33 j hj; have h2 := lt_of_block hb10; omega
  have hnb_hs33_b19 : ∀ j, u33.ownBlock = some j → j ≠ b19 := fun j hj => by have h1 := hd33 j hj; have h2 := lt_of_block hb19; omega
  have hnb_hs33_b29 : ∀ j, u33.ownBlock = some j → j ≠ b29 := fun j hj => by have h1 := hd33 j hj; have h2 := lt_of_block hb29; omega
  have hds_hs33_hs17 : ∀ j, u33.ownBlock = some j → u17.ownBlock ≠ some j := fun j h1 h2 => by have h3 := hd33 j h1; have h4 := (fun j hj => hs17.lt j hj) j h2; omega
  have hds_hs33_hs21 : ∀ j, u33.ownBlock = some j → u21.ownBlock ≠ some j := fun j h1 h2 => by have h3 := hd33 j h1; have h4 := (fun j hj => hs21.lt j hj) j h2; omega
  have hds_hs33_hs23 : ∀ j, u33.ownBlock = some j → u23.ownBlock ≠ some j := fun j h1 h2 => by have h3 := hd33 j h1; have h4 := (fun j hj => hs23.lt j hj) j h2; omega
  have hds_hs33_hs27 : ∀ j, u33.ownBlock = some j → u27.ownBlock ≠ some j := fun j h1 h2 => by have h3 := hd33 j h1; have h4 := (fun j hj => hs27.lt j hj) j h2; omega
  have hds_hs33_hs31 : ∀ j, u33.ownBlock = some j → u31.ownBlock ≠ some j := fun j h1 h2 => by have h3 := hd33 j h1; have h4 := (fun j hj => hs31.lt j hj) j h2; omega
  replace hd33 : ∀ j, u33.ownBlock = some j → w0.heap.size ≤ j := fun j hj => Nat.le_trans hB.size (hd33 j hj)
  replace hB := keepB0 hg hB
  replace hb10 := keepO0 hg hb10
  replace hb19 := keepO0 hg hb19
  replace hb29 := keepO0 hg hb29
  replace hs17 := keepS0 hg hs17
  replace hs21 := keepS0 hg hs21
  replace hs23 := keepS0 hg hs23
  replace hs27 := keepS0 hg hs27
  replace hs31 := keepS0 hg hs31
  clear hg
  refine ⟨_, rfl, ?_⟩; intro a ha
  refine sv ha (r_assign ha rfl) rfl rfl rfl ?_; clear ha a; intro a ha
  refine hK25 _ _ ?_; clear hK25 K24
  refine wp_ret ?_
  repeat (first | (with_reducible refine t_ret ?_) | (with_reducible refine x_ret ?_))
  exact ret1 ha Tryd.results31 rfl ⟨_, rfl, hB, (Sl.castM (l := sum256 (([wi (padB 136 key) (92 : UInt8), sum256 (([wi (padB 136 key) (54 : UInt8), b]).flatten)]).flatten)) hs33 (mac_short key b hk).symm), hd33⟩

theorem c_macL (v : Value) (key : List UInt8) (u : Value) (b : List UInt8) (w0 : World) (hs : Sl w0 v (key.map e8)) (hsu : Sl w0 u (b.map e8)) (hb : b.length ≤ 50000) (hk : key.length > 136) (hG : Glob w0) :
    Calls Tryd.prog 31 #[v, u] w0 fun e w' => ∃ u0 : Value, e = .returned (u0) ∧ Below w0.heap.size w0 w' ∧ Sl w' u0 ((mac key b).map e8) ∧ (∀ j, u0.ownBlock = some j → w0.heap.size ≤ j) := by
  refine enter (args := [_, _]) Tryd.func31 rfl Tryd.ntmps31 rfl ?_
  intro a ha
  have hB := Below.refl w0.heap.size w0
  refine wp_seq_k fun K1 hK2 => ?_
  refine region ?_
  refine sv ha (r_assign ha rfl) rfl rfl rfl ?_; clear ha a; intro a ha
  refine hK2 _ _ ?_; clear hK2 K1
  refine wp_seq_k fun K3 hK4 => ?_
  refine wp_seq_k fun K5 hK6 => ?_
  refine region ?_
  refine sv ha (r_move ha rfl) rfl rfl rfl ?_; clear ha a; intro a ha
  refine sv ha (r_lenS ha Tryd.runUnderlying22 (hs.below hB) rfl (by rw [List.length_map])) rfl rfl rfl ?_; clear ha a; intro a ha
  refine sv ha (r_gtr ha ((key.length : Nat) : Int) 136 true rfl rfl (decide_eq_true (by omega))) rfl rfl rfl ?_; clear ha a; intro a ha
  refine hK6 _ _ ?_; clear hK6 K5
  refine cond_t ha rfl ?_
  refine region ?_
  refine sv ha (r_move ha rfl) rfl rfl rfl ?_; clear ha a; intro a ha
  refine sc ha (r_call ha [v] rfl Tryd.call21) rfl rfl rfl (c_sum256 v key _ (hs.below hB) (glob_keep hG hB)) ?_
  clear ha a
  rintro e w7 ⟨u8, rfl, hBc, hs8, hd8⟩
  have hg := grown_call hBc; clear hBc
  replace hd8 : ∀ j, u8.ownBlock = some j → w0.heap.size ≤ j := fun j hj => Nat.le_trans hB.size (hd8 j hj)
  replace hB := keepB0 hg hB
  clear hg
  refine ⟨_, rfl, ?_⟩; intro a ha
  refine sv ha (r_assign ha rfl) rfl rfl rfl ?_; clear ha a; intro a ha
  refine hK4 _ _ ?_; clear hK4 K3
  refine wp_seq_k fun K9 hK10 => ?_
  refine region ?_
  refine salloc ha zero_67H1 rfl ?_
  clear ha a; intro a w11 b12 ha hg hb12 hge12 hlt12
  have hz12 : w0.heap.size ≤ b12 := Nat.le_trans hB.size hge12
  have hne_hs8_b12 : ∀ j, Value.ownBlock u8 = some j → j ≠ b12 := fun j hj => by have := hs8.lt j hj; omega
  replace hB := keepB0 hg hB
  replace hs8 := keepS0 hg hs8
  clear hg hge12 hlt12
  refine hK10 _ _ ?_; clear hK10 K9
  refine wp_seq_k fun K13 hK14 => ?_
  refine region ?_
  refine sv ha (r_sliceA ha Tryd.runUnderlying67 Tryd.sizeOf5 rfl) rfl rfl rfl ?_; clear ha a; intro a ha
  refine sv ha (r_move ha rfl) rfl rfl rfl ?_; clear ha a; intro a ha
  refine scopy (d := 14) (C := (sum256 key).map e8) (p := ((sum256 key).take 136).map e8) ha rfl rfl hs8 Tryd.underlying22 rfl hb12 (by rw [List.map_take]) (by simp only [List.length_map, List.length_take, List.length_replicate]; omega) (one_e8 _) ?_ rfl rfl rfl
  clear ha a; intro a w15 ha hg hb12'
  rw [copy_map] at hb12'
  clear hb12; have hb12 : w15.heap[b12]? = some (.cells ((padB 136 (sum256 key)).map e8).toArray 67 (0, 0)) := hb12'; clear hb12'
  replace hB := keepB1 hg (by omega) hB
  replace hs8 := keepS1 hg (ne_of_ap hne_hs8_b12) hs8
  clear hg
  refine hK14 _ _ ?_; clear hK14 K13
  refine wp_seq_k fun K16 hK17 => ?_
  refine region ?_
  refine sv ha (r_loadR ha rfl Tryd.isAgg67 Tryd.sizeOf67 (C := (padB 136 (sum256 key)).map e8) (by rw [List.length_map, padB_len]) (cells_all hb12)) rfl rfl rfl ?_; clear ha a; intro a ha
  refine sc ha (r_call ha [.agg (((padB 136 (sum256 key))).map e8).toArray, e8 (54 : UInt8)] rfl Tryd.call54) rfl rfl rfl (c_with (padB 136 (sum256 key)) (54 : UInt8) _ (by rw [padB_len])) ?_
  clear ha a
  rintro e w18 ⟨u19, rfl, hBc, hs19, hd19⟩
  have hg := grown_call hBc; clear hBc
  have hnb_hs19_b12 : ∀ j, u19.ownBlock = some j → j ≠ b12 := fun j hj => by have h1 := hd19 j hj; have h2 := lt_of_block hb12; omega
  have hds_hs19_hs8 : ∀ j, u19.ownBlock = some j → u8.ownBlock ≠ some j := fun j h1 h2 => by have h3 := hd19 j h1; have h4 := (fun j hj => hs8.lt j hj) j h2; omega
  replace hd19 : ∀ j, u19.ownBlock = some j → w0.heap.size ≤ j := fun j hj => Nat.le_trans hB.size (hd19 j hj)
  replace hB := keepB0 hg hB
  replace hb12 := keepO0 hg hb12
  replace hs8 := keepS0 hg hs8
  clear hg
  refine ⟨_, rfl, ?_⟩; intro a ha
  refine sv ha (r_move ha rfl) rfl rfl rfl ?_; clear ha a; intro a ha
  refine sbuildS ha [(0, u19), (1, u)] [u19, u] rfl Tryd.runUnderlying76 Tryd.sizeOf22 Tryd.zeroValue22 rfl rfl rfl (fill2 (Sl.one hs19) (Sl.one (hsu.below hB))) rfl ?_
  clear ha a; intro a w20 b21 ha hg hb21 hge21 hlt21
  have hz21 : w0.heap.size ≤ b21 := Nat.le_trans hB.size hge21
  have hne_hs8_b21 : ∀ j, Value.ownBlock u8 = some j → j ≠ b21 := fun j hj => by have := hs8.lt j hj; omega
  have hne_hs19_b21 : ∀ j, Value.ownBlock u19 = some j → j ≠ b21 := fun j hj => by have := hs19.lt j hj; omega
  have hq12_21 : b12 < b21 := Nat.lt_of_lt_of_le (lt_of_block hb12) hge21
  replace hB := keepB0 hg hB
  replace hb12 := keepO0 hg hb12
  replace hs8 := keepS0 hg hs8
  replace hs19 := keepS0 hg hs19
  clear hg hge21 hlt21
  refine sc ha (r_call ha [(.slice (some ⟨b21, 0, none⟩) 2 2)] rfl Tryd.call53) rfl rfl rfl (c_join (.slice (some ⟨b21, 0, none⟩) 2 2) ([u19, u]) ([wi (padB 136 (sum256 key)) (54 : UInt8), b]) _ (Sl.ofBlock (D := [u19, u]) (C := [u19, u]) hb21 rfl (Nat.le_refl _)) (.cons hs19 (.cons (hsu.below hB) .nil)) (by simp only [List.flatten_cons, List.flatten_nil, List.append_nil, List.length_append, wi_len, padB_len, sum256_len]; omega) (show 2 ≤ 1000 by omega)) ?_
  clear ha a
  rintro e w22 ⟨u23, rfl, hBc, hs23, hd23⟩
  have hg := grown_call hBc; clear hBc
  have hnb_hs23_b12 : ∀ j, u23.ownBlock = some j → j ≠ b12 := fun j hj => by have h1 := hd23 j hj; have h2 := lt_of_block hb12; omega
  have hnb_hs23_b21 : ∀ j, u23.ownBlock = some j → j ≠ b21 := fun j hj => by have h1 := hd23 j hj; have h2 := lt_of_block hb21; omega
  have hds_hs23_hs8 : ∀ j, u23.ownBlock = some j → u8.ownBlock ≠ some j := fun j h1 h2 => by have h3 := hd23 j h1; have h4 := (fun j hj => hs8.lt j hj) j h2; omega
  have hds_hs23_hs19 : ∀ j, u23.ownBlock = some j → u19.ownBlock ≠ some j := fun j h1 h2 => by have h3 := hd23 j h1; have h4 := (fun j hj => hs19.lt j hj) j h2; omega
  replace hd23 : ∀ j, u23.ownBlock = some j → w0.heap.size ≤ j := fun j hj => Nat.le_trans hB.size (hd23 j hj)
  replace hB := keepB0 hg hB
  replace hb12 := keepO0 hg hb12
  replace hb21 := keepO0 hg hb21
  replace hs8 := keepS0 hg hs8
  replace hs19 := keepS0 hg hs19
  clear hg
  refine ⟨_, rfl, ?_⟩; intro a ha
  refine sc ha (r_call ha [u23] rfl Tryd.call21) rfl rfl rfl (c_sum256 u23 (([wi (padB 136 (sum256 key)) (54 : UInt8), b]).flatten) _ hs23 (glob_keep hG hB)) ?_
  clear ha a
  rintro e w24 ⟨u25, rfl, hBc, hs25, hd25⟩
  have hg := grown_call hBc; clear hBc
  have hnb_hs25_b12 : ∀ j, u25.ownBlock = some j → j ≠ b12 := fun j hj => by have h1 := hd25 j hj; have h2 := lt_of_block hb12; omega
  have hnb_hs25_b21 : ∀ j, u25.ownBlock = some j → j ≠ b21 := fun j hj => by have h1 := hd25 j hj; have h2 := lt_of_block hb21; omega
  have hds_hs25_hs8 : ∀ j, u25.ownBlock = some j → u8.ownBlock ≠ some j := fun j h1 h2 => by have h3 := hd25 j h1; have h4 := (fun j hj => hs8.lt j hj) j h2; omega
  have hds_hs25_hs19 : ∀ j, u25.ownBlock = some j → u19.ownBlock ≠ some j := fun j h1 h2 => by have h3 := hd25 j h1; have h4 := (fun j hj => hs19.lt j hj) j h2; omega
  have hds_hs25_hs23 : ∀ j, u25.ownBlock = some j → u23.ownBlock ≠ some j := fun j h1 h2 => by have h3 := hd25 j h1; have h4 := (fun j hj => hs23.lt j hj) j h2; omega
  replace hd25 : ∀ j, u25.ownBlock = some j → w0.heap.size ≤ j := fun j hj => Nat.le_trans hB.size (hd25 j hj)
  replace hB := keepB0 hg hB
  replace hb12 := keepO0 hg hb12
  replace hb21 := keepO0 hg hb21
  replace hs8 := keepS0 hg hs8
  replace hs19 := keepS0 hg hs19
  replace hs23 := keepS0 hg hs23
  clear hg
  refine ⟨_, rfl, ?_⟩; intro a ha
  refine sv ha (r_assign ha rfl) rfl rfl rfl ?_; clear ha a; intro a ha
  refine hK17 _ _ ?_; clear hK17 K16
  refine wp_seq_k fun K26 hK27 => ?_
  refine region ?_
  refine sv ha (r_loadR ha rfl Tryd.isAgg67 Tryd.sizeOf67 (C := (padB 136 (sum256 key)).map e8) (by rw [List.length_map, padB_len]) (cells_all hb12)) rfl rfl rfl ?_; clear ha a; intro a ha
  refine sc ha (r_call ha [.agg (((padB 136 (sum256 key))).map e8).toArray, e8 (92 : UInt8)] rfl Tryd.call54) rfl rfl rfl (c_with (padB 136 (sum256 key)) (92 : UInt8) _ (by rw [padB_len])) ?_
  clear ha a
  rintro e w28 ⟨u29, rfl, hBc, hs29, hd29⟩
  have hg := grown_call hBc; clear hBc
  have hnb_hs29_b12 : ∀ j, u29.ownBlock = some j → j ≠ b12 := fun j hj => by have h1 := hd29 j hj; have h2 := lt_of_block hb12; omega
  have hnb_hs29_b21 : ∀ j, u29.ownBlock = some j → j ≠ b21 := fun j hj => by have h1 := hd29 j hj; have h2 := lt_of_block hb21; omega
  have hds_hs29_hs8 : ∀ j, u29.ownBlock = some j → u8.ownBlock ≠ some j := fun j h1 h2 => by have h3 := hd29 j h1; have h4 := (fun j hj => hs8.lt j hj) j h2; omega
  have hds_hs29_hs19 : ∀ j, u29.ownBlock = some j → u19.ownBlock ≠ some j := fun j h1 h2 => by have h3 := hd29 j h1; have h4 := (fun j hj => hs19.lt j hj) j h2; omega
  have hds_hs29_hs23 : ∀ j, u29.ownBlock = some j → u23.ownBlock ≠ some j := fun j h1 h2 => by have h3 := hd29 j h1; have h4 := (fun j hj => hs23.lt j hj) j h2; omega
  have hds_hs29_hs25 : ∀ j, u29.ownBlock = some j → u25.ownBlock ≠ some j := fun j h1 h2 => by have h3 := hd29 j h1; have h4 := (fun j hj => hs25.lt j hj) j h2; omega
  replace hd29 : ∀ j, u29.ownBlock = some j → w0.heap.size ≤ j := fun j hj => Nat.le_trans hB.size (hd29 j hj)
  replace hB := keepB0 hg hB
  replace hb12 := keepO0 hg hb12
  replace hb21 := keepO0 hg hb21
  replace hs8 := keepS0 hg hs8
  replace hs19 := keepS0 hg hs19
  replace hs23 := keepS0 hg hs23
  replace hs25 := keepS0 hg hs25
  clear hg
  refine ⟨_, rfl, ?_⟩; intro a ha
  refine sv ha (r_move ha rfl) rfl rfl rfl ?_; clear ha a; intro a ha
  refine sbuildS ha [(0, u29), (1, u25)] [u29, u25] rfl Tryd.runUnderlying76 Tryd.sizeOf22 Tryd.zeroValue22 rfl rfl rfl (fill2 (Sl.one hs29) (Sl.one hs25)) rfl ?_
  clear ha a; intro a w30 b31 ha hg hb31 hge31 hlt31
  have hz31 : w0.heap.size ≤ b31 := Nat.le_trans hB.size hge31
  have hne_hs8_b31 : ∀ j, Value.ownBlock u8 = some j → j ≠ b31 := fun j hj => by have := hs8.lt j hj; omega
  have hne_hs19_b31 : ∀ j, Value.ownBlock u19 = some j → j ≠ b31 := fun j hj => by have := hs19.lt j hj; omega
  have hne_hs23_b31 : ∀ j, Value.ownBlock u23 = some j → j ≠ b31 := fun j hj => by have := hs23.lt j hj; omega
  have hne_hs25_b31 : ∀ j, Value.ownBlock u25 = some j → j ≠ b31 := fun j hj => by have := hs25.lt j hj; omega
  have hne_hs29_b31 : ∀ j, Value.ownBlock u29 = some j → j ≠ b31 := fun j hj => by have := hs29.lt j hj; omega
  have hq12_31 : b12 < b31 := Nat.lt_of_lt_of_le (lt_of_block hb12) hge31
  have hq21_31 : b21 < b31 := Nat.lt_of_lt_of_le (lt_of_block hb21) hge31
  replace hB := keepB0 hg hB
  replace hb12 := keepO0 hg hb12
  replace hb21 := keepO0 hg hb21
  replace hs8 := keepS0 hg hs8
  replace hs19 := keepS0 hg hs19
  replace hs23 := keepS0 hg hs23
  replace hs25 := keepS0 hg hs25
  replace hs29 := keepS0 hg hs29
  clear hg hge31 hlt31
  refine sc ha (r_call ha [(.slice (some ⟨b31, 0, none⟩) 2 2)] rfl Tryd.call53) rfl rfl rfl (c_join (.slice (some ⟨b31, 0, none⟩) 2 2) ([u29, u25]) ([wi (padB 136 (sum256 key)) (92 : UInt8), sum256 (([wi (padB 136 (sum256 key)) (54 : UInt8), b]).flatten)]) _ (Sl.ofBlock (D := [u29, u25]) (C := [u29, u25]) hb31 rfl (Nat.le_refl _)) (.cons hs29 (.cons hs25 .nil)) (by simp only [List.flatten_cons, List.flatten_nil, List.append_nil, List.length_append, wi_len, padB_len, sum256_len]; omega) (show 2 ≤ 1000 by omega)) ?_
  clear ha a
  rintro e w32 ⟨u33, rfl, hBc, hs33, hd33⟩
  have hg := grown_call hBc; clear hBc
  have hnb_hs33_b12 : ∀ j, u33.ownBlock = some j → j ≠ b12 := fun j hj => by have h1 := hd33 j hj; have h2 := lt_of_block hb12; omega
  have hnb_hs33_b21 : ∀ j, u33.ownBlock = some j → j ≠ b21 := fun j hj => by have h1 := hd33 j hj; have h2 := lt_of_block hb21; omega
  have hnb_hs33_b31 : ∀ j, u33.ownBlock = some j → j ≠ b31 := fun j hj => by have h1 := hd33 j hj; have h2 := lt_of_block hb31; omega
  have hds_hs33_hs8 : ∀ j, u33.ownBlock = some j → u8.ownBlock ≠ some j := fun j h1 h2 => by have h3 := hd33 j h1; have h4 := (fun j hj => hs8.lt j hj) j h2; omega
  have hds_hs33_hs19 : ∀ j, u33.ownBlock = some j → u19.ownBlock ≠ some j := fun j h1 h2 => by have h3 := hd33 j h1; have h4 := (fun j hj => hs19.lt j hj) j h2; omega
  have hds_hs33_hs23 : ∀ j, u33.ownBlock = some j → u23.ownBlock ≠ some j := fun j h1 h2 => by have h3 := hd33 j h1; have h4 := (fun j hj => hs23.lt j hj) j h2; omega
  have hds_hs33_hs25 : ∀ j, u33.ownBlock = some j → u25.ownBlock ≠ some j := fun j h1 h2 => by have h3 := hd33 j h1; have h4 := (fun j hj => hs25.lt j hj) j h2; omega
  have hds_hs33_hs29 : ∀ j, u33.ownBlock = some j → u29.ownBlock ≠ some j := fun j h1 h2 => by have h3 := hd33 j h1; have h4 := (fun j hj => hs29.lt j hj) j h2; omega
  replace hd33 : ∀ j, u33.ownBlock = some j → w0.heap.size ≤ j := fun j hj => Nat.le_trans hB.size (hd33 j hj)
  replace hB := keepB0 hg hB
  replace hb12 := keepO0 hg hb12
  replace hb21 := keepO0 hg hb21
  replace hb31 := keepO0 hg hb31
  replace hs8 := keepS0 hg hs8
  replace hs19 := keepS0 hg hs19
  replace hs23 := keepS0 hg hs23
  replace hs25 := keepS0 hg hs25
  replace hs29 := keepS0 hg hs29
  clear hg
  refine ⟨_, rfl, ?_⟩; intro a ha
  refine sc ha (r_call ha [u33] rfl Tryd.call21) rfl rfl rfl (c_sum256 u33 (([wi (padB 136 (sum256 key)) (92 : UInt8), sum256 (([wi (padB 136 (sum256 key)) (54 : UInt8), b]).flatten)]).flatten) _ hs33 (glob_keep hG hB)) ?_
  clear ha a
  rintro e w34 ⟨u35, rfl, hBc, hs35, hd35⟩
  have hg := grown_call hBc; clear hBc
  have hnb_hs35_b12 : ∀ j, u35.ownBlock = some j → j ≠ b12 := fun j hj => by have h1 := hd35 j hj; have h2 := lt_of_block hb12; omega
  have hnb_hs35_b21 : ∀ j, u35.ownBlock = some j → j ≠ b21 := fun j hj => by have h1 := hd35 j hj; have h2 := lt_of_block hb21; omega
  have hnb_hs35_b31 : ∀ j, u35.ownBlock = some j → j ≠ b31 := fun j hj => by have h1 := hd35 j hj; have h2 := lt_of_block hb31; omega
  have hds_hs35_hs8 : ∀ j, u35.ownBlock = some j → u8.ownBlock ≠ some j := fun j h1 h2 => by have h3 := hd35 j h1; have h4 := (fun j hj => hs8.lt j hj) j h2; omega
  have hds_hs35_hs19 : ∀ j, u35.ownBlock = some j → u19.ownBlock ≠ some j := fun j h1 h2 => by have h3 := hd35 j h1; have h4 := (fun j hj => hs19.lt j hj) j h2; omega
  have hds_hs35_hs23 : ∀ j, u35.ownBlock = some j → u23.ownBlock ≠ some j := fun j h1 h2 => by have h3 := hd35 j h1; have h4 := (fun j hj => hs23.lt j hj) j h2; omega
  have hds_hs35_hs25 : ∀ j, u35.ownBlock = some j → u25.ownBlock ≠ some j := fun j h1 h2 => by have h3 := hd35 j h1; have h4 := (fun j hj => hs25.lt j hj) j h2; omega
  have hds_hs35_hs29 : ∀ j, u35.ownBlock = some j → u29.ownBlock ≠ some j := fun j h1 h2 => by have h3 := hd35 j h1; have h4 := (fun j hj => hs29.lt j hj) j h2; omega
  have hds_hs35_hs33 : ∀ j, u35.ownBlock = some j → u33.ownBlock ≠ some j := fun j h1 h2 => by have h3 := hd35 j h1; have h4 := (fun j hj => hs33.lt j hj) j h2; omega
  replace hd35 : ∀ j, u35.ownBlock = some j → w0.heap.size ≤ j := fun j hj => Nat.le_trans hB.size (hd35 j hj)
  replace hB := keepB0 hg hB
  replace hb12 := keepO0 hg hb12
  replace hb21 := keepO0 hg hb21
  replace hb31 := keepO0 hg hb31
  replace hs8 := keepS0 hg hs8
  replace hs19 := keepS0 hg hs19
  replace hs23 := keepS0 hg hs23
  replace hs25 := keepS0 hg hs25
  replace hs29 := keepS0 hg hs29
  replace hs33 := keepS0 hg hs33
  clear hg
  refine ⟨_, rfl, ?_⟩; intro a ha
  refine sv ha (r_assign ha rfl) rfl rfl rfl ?_; clear ha a; intro a ha
  refine hK27 _ _ ?_; clear hK27 K26
  refine wp_ret ?_
  repeat (first | (with_reducible refine t_ret ?_) | (with_reducible refine x_ret ?_))
  exact ret1 ha Tryd.results31 rfl ⟨_, rfl, hB, (Sl.castM (l := sum256 (([wi (padB 136 (sum256 key)) (92 : UInt8), sum256 (([wi (padB 136 (sum256 key)) (54 : UInt8), b]).flatten)]).flatten)) hs35 (mac_long key b hk).symm), hd35⟩

theorem c_mac (v : Value) (key : List UInt8) (u : Value) (b : List UInt8) (w0 : World) (hs : Sl w0 v (key.map e8)) (hsu : Sl w0 u (b.map e8)) (hb : b.length ≤ 50000) (hG : Glob w0) :
    Calls Tryd.prog 31 #[v, u] w0 fun e w' => ∃ u0 : Value, e = .returned (u0) ∧ Below w0.heap.size w0 w' ∧ Sl w' u0 ((mac key b).map e8) ∧ (∀ j, u0.ownBlock = some j → w0.heap.size ≤ j) := by
  by_cases hk : key.length > 136
  · exact c_macL v key u b w0 hs hsu hb hk hG
  · exact c_macS v key u b w0 hs hsu hb hk hG

theorem c_three (v : Value) (ck : List UInt8) (u : Value) (i : List UInt8) (w0 : World) (hs : Sl w0 v (ck.map e8)) (hsu : Sl w0 u (i.map e8)) (hb : i.length ≤ 50000) (hG : Glob w0) :
    Calls Tryd.prog 34 #[v, u] w0 fun e w' => ∃ u0 u1 u2 : Value, e = .returned (.tuple #[u0, u1, u2]) ∧ Below w0.heap.size w0 w' ∧ Sl w' u0 ((th1 ck i).map e8) ∧ (∀ j, u0.ownBlock = some j → w0.heap.size ≤ j) ∧ Sl w' u1 ((th2 ck i).map e8) ∧ (∀ j, u1.ownBlock = some j → w0.heap.size ≤ j) ∧ Sl w' u2 ((th3 ck i).map e8) ∧ (∀ j, u2.ownBlock = some j → w0.heap.size ≤ j) := by
  refine enter (args := [_, _]) Tryd.func34 rfl Tryd.ntmps34 rfl ?_
  intro a ha
  have hB := Below.refl w0.heap.size w0
  refine wp_seq_k fun K1 hK2 => ?_
  refine region ?_
  refine sv ha (r_assign ha rfl) rfl rfl rfl ?_; clear ha a; intro a ha
  refine sv ha (r_assign ha rfl) rfl rfl rfl ?_; clear ha a; intro a ha
  refine sv ha (r_assign ha rfl) rfl rfl rfl ?_; clear ha a; intro a ha
  refine hK2 _ _ ?_; clear hK2 K1
  refine wp_seq_k fun K3 hK4 => ?_
  refine region ?_
  refine sv ha (r_move ha rfl) rfl rfl rfl ?_; clear ha a; intro a ha
  refine sv ha (r_move ha rfl) rfl rfl rfl ?_; clear ha a; intro a ha
  refine sc ha (r_call ha [v, u] rfl Tryd.call31) rfl rfl rfl (c_mac v ck u i _ (hs.below hB) (hsu.below hB) (by omega) (glob_keep hG hB)) ?_
  clear ha a
  rintro e w5 ⟨u6, rfl, hBc, hs6, hd6⟩
  have hg := grown_call hBc; clear hBc
  replace hd6 : ∀ j, u6.ownBlock = some j → w0.heap.size ≤ j := fun j hj => Nat.le_trans hB.size (hd6 j hj)
  replace hB := keepB0 hg hB
  clear hg
  refine ⟨_, rfl, ?_⟩; intro a ha
  refine sv ha (r_assign ha rfl) rfl rfl rfl ?_; clear ha a; intro a ha
  refine hK4 _ _ ?_; clear hK4 K3
  refine wp_seq_k fun K7 hK8 => ?_
  refine region ?_
  refine sv ha (r_move ha rfl) rfl rfl rfl ?_; clear ha a; intro a ha
  refine sbuildS ha [(0, .int .u8 1)] (([(1 : UInt8)] : List UInt8).map e8) rfl Tryd.runUnderlying22 Tryd.sizeOf5 Tryd.zeroValue5 rfl rfl rfl rfl rfl ?_
  clear ha a; intro a w9 b10 ha hg hb10 hge10 hlt10
  have hz10 : w0.heap.size ≤ b10 := Nat.le_trans hB.size hge10
  have hne_hs6_b10 : ∀ j, Value.ownBlock u6 = some j → j ≠ b10 := fun j hj => by have := hs6.lt j hj; omega
  replace hB := keepB0 hg hB
  replace hs6 := keepS0 hg hs6
  clear hg hge10 hlt10
  refine sc ha (r_call ha [u6, (.slice (some ⟨b10, 0, none⟩) 1 1)] rfl Tryd.call31) rfl rfl rfl (c_mac u6 (mac ck i) (.slice (some ⟨b10, 0, none⟩) 1 1) ([(1 : UInt8)] : List UInt8) _ hs6 (Sl.ofBlockM hb10 (by rw [show ([(1 : UInt8)] : List UInt8).length = 1 from rfl]) (Nat.le_refl _)) (by show 1 ≤ 50000; omega) (glob_keep hG hB)) ?_
  clear ha a
  rintro e w11 ⟨u12, rfl, hBc, hs12, hd12⟩
  have hg := grown_call hBc; clear hBc
  have hnb_hs12_b10 : ∀ j, u12.ownBlock = some j → j ≠ b10 := fun j hj => by have h1 := hd12 j hj; have h2 := lt_of_block hb10; omega
  have hds_hs12_hs6 : ∀ j, u12.ownBlock = some j → u6.ownBlock ≠ some j := fun j h1 h2 => by have h3 := hd12 j h1; have h4 := (fun j hj => hs6.lt j hj) j h2; omega
  replace hd12 : ∀ j, u12.ownBlock = some j → w0.heap.size ≤ j := fun j hj => Nat.le_trans hB.size (hd12 j hj)
  replace hB := keepB0 hg hB
  replace hb10 := keepO0 hg hb10
  replace hs6 := keepS0 hg hs6
  clear hg
  refine ⟨_, rfl, ?_⟩; intro a ha
  refine sv ha (r_assign ha rfl) rfl rfl rfl ?_; clear ha a; intro a ha
  refine hK8 _ _ ?_; clear hK8 K7
  refine wp_seq_k fun K13 hK14 => ?_
  refine region ?_
  refine sv ha (r_move ha rfl) rfl rfl rfl ?_; clear ha a; intro a ha
  refine sv ha (r_move ha rfl) rfl rfl rfl ?_; clear ha a; intro a ha
  refine sbuildS ha [(0, .int .u8 2)] (([(2 : UInt8)] : List UInt8).map e8) rfl Tryd.runUnderlying22 Tryd.sizeOf5 Tryd.zeroValue5 rfl rfl rfl rfl rfl ?_
  clear ha a; intro a w15 b16 ha hg hb16 hge16 hlt16
  have hz16 : w0.heap.size ≤ b16 := Nat.le_trans hB.size hge16
  have hne_hs6_b16 : ∀ j, Value.ownBlock u6 = some j → j ≠ b16 := fun j hj => by have := hs6.lt j hj; omega
  have hne_hs12_b16 : ∀ j, Value.ownBlock u12 = some j → j ≠ b16 := fun j hj => by have := hs12.lt j hj; omega
  have hq10_16 : b10 < b16 := Nat.lt_of_lt_of_le (lt_of_block hb10) hge16
  replace hB := keepB0 hg hB
  replace hb10 := keepO0 hg hb10
  replace hs6 := keepS0 hg hs6
  replace hs12 := keepS0 hg hs12
  clear hg hge16 hlt16
  refine sbuildS ha [(0, u12), (1, .slice (some ⟨b16, 0, none⟩) 1 1)] [u12, .slice (some ⟨b16, 0, none⟩) 1 1] rfl Tryd.runUnderlying76 Tryd.sizeOf22 Tryd.zeroValue22 rfl rfl rfl (fill2 (Sl.one hs12) (Sl.one (Sl.ofBlockM hb16 (by rw [show ([(2 : UInt8)] : List UInt8).length = 1 from rfl]) (by omega)))) rfl ?_
  clear ha a; intro a w17 b18 ha hg hb18 hge18 hlt18
  have hz18 : w0.heap.size ≤ b18 := Nat.le_trans hB.size hge18
  have hne_hs6_b18 : ∀ j, Value.ownBlock u6 = some j → j ≠ b18 := fun j hj => by have := hs6.lt j hj; omega
  have hne_hs12_b18 : ∀ j, Value.ownBlock u12 = some j → j ≠ b18 := fun j hj => by have := hs12.lt j hj; omega
  have hq10_18 : b10 < b18 := Nat.lt_of_lt_of_le (lt_of_block hb10) hge18
  have hq16_18 : b16 < b18 := Nat.lt_of_lt_of_le (lt_of_block hb16) hge18
  replace hB := keepB0 hg hB
  replace hb10 := keepO0 hg hb10
  replace hb16 := keepO0 hg hb16
  replace hs6 := keepS0 hg hs6
  replace hs12 := keepS0 hg hs12
  clear hg hge18 hlt18
  refine sc ha (r_call ha [(.slice (some ⟨b18, 0, none⟩) 2 2)] rfl Tryd.call53) rfl rfl rfl (c_join (.slice (some ⟨b18, 0, none⟩) 2 2) ([u12, .slice (some ⟨b16, 0, none⟩) 1 1]) ([mac (mac ck i) ([(1 : UInt8)] : List UInt8), ([(2 : UInt8)] : List UInt8)]) _ (Sl.ofBlock (D := [u12, .slice (some ⟨b16, 0, none⟩) 1 1]) (C := [u12, .slice (some ⟨b16, 0, none⟩) 1 1]) hb18 rfl (Nat.le_refl _)) (.cons hs12 (.cons (Sl.ofBlockM hb16 (by rw [show ([(2 : UInt8)] : List UInt8).length = 1 from rfl]) (by omega)) .nil)) (by first | omega | simp only [List.flatten_cons, List.flatten_nil, List.append_nil, List.length_append, th1_len, th2_len, mac_len, List.length_cons, List.length_nil]; omega) (show 2 ≤ 1000 by omega)) ?_
  clear ha a
  rintro e w19 ⟨u20, rfl, hBc, hs20, hd20⟩
  have hg := grown_call hBc; clear hBc
  have hnb_hs20_b10 : ∀ j, u20.ownBlock = some j → j ≠ b10 := fun j hj => by have h1 := hd20 j hj; have h2 := lt_of_block hb10; omega
  have hnb_hs20_b16 : ∀ j, u20.ownBlock = some j → j ≠ b16 := fun j hj => by have h1 := hd20 j hj; have h2 := lt_of_block hb16; omega
  have hnb_hs20_b18 : ∀ j, u20.ownBlock = some j → j ≠ b18 := fun j hj => by have h1 := hd20 j hj; have h2 := lt_of_block hb18; omega
  have hds_hs20_hs6 : ∀ j, u20.ownBlock = some j → u6.ownBlock ≠ some j := fun j h1 h2 => by have h3 := hd20 j h1; have h4 := (fun j hj => hs6.lt j hj) j h2; omega
  have hds_hs20_hs12 : ∀ j, u20.ownBlock = some j → u12.ownBlock ≠ some j := fun j h1 h2 => by have h3 := hd20 j h1; have h4 := (fun j hj => hs12.lt j hj) j h2; omega
  replace hd20 : ∀ j, u20.ownBlock = some j → w0.heap.size ≤ j := fun j hj => Nat.le_trans hB.size (hd20 j hj)
  replace hB := keepB0 hg hB
  replace hb10 := keepO0 hg hb10
  replace hb16 := keepO0 hg hb16
  replace hb18 := keepO0 hg hb18
  replace hs6 := keepS0 hg hs6
  replace hs12 := keepS0 hg hs12
  clear hg
  refine ⟨_, rfl, ?_⟩; intro a ha
  refine sc ha (r_call ha [u6, u20] rfl Tryd.call31) rfl rfl rfl (c_mac u6 (mac ck i) u20 (([mac (mac ck i) ([(1 : UInt8)] : List UInt8), ([(2 : UInt8)] : List UInt8)]).flatten) _ hs6 hs20 (by first | omega | simp only [List.flatten_cons, List.flatten_nil, List.append_nil, List.length_append, th1_len, th2_len, mac_len, List.length_cons, List.length_nil]; omega) (glob_keep hG hB)) ?_
  clear ha a
  rintro e w21 ⟨u22, rfl, hBc, hs22, hd22⟩
  have hg := grown_call hBc; clear hBc
  have hnb_hs22_b10 : ∀ j, u22.ownBlock = some j → j ≠ b10 := fun j hj => by have h1 := hd22 j hj; have h2 := lt_of_block hb10; omega
  have hnb_hs22_b16 : ∀ j, u22.ownBlock = some j → j ≠ b16 := fun j hj => by have h1 := hd22 j hj; have h2 := lt_of_block hb16; omega
  have hnb_hs22_b18 : ∀ j, u22.ownBlock = some j → j ≠ b18 := fun j hj => by have h1 := hd22 j hj; have h2 := lt_of_block hb18; omega
  have hds_hs22_hs6 : ∀ j, u22.ownBlock = some j → u6.ownBlock ≠ some j := fun j h1 h2 => by have h3 := hd22 j h1; have h4 := (fun j hj => hs6.lt j hj) j h2; omega
  have hds_hs22_hs12 : ∀ j, u22.ownBlock = some j → u12.ownBlock ≠ some j := fun j h1 h2 => by have h3 := hd22 j h1; have h4 := (fun j hj => hs12.lt j hj) j h2; omega
  have hds_hs22_hs20 : ∀ j, u22.ownBlock = some j → u20.ownBlock ≠ some j := fun j h1 h2 => by have h3 := hd22 j h1; have h4 := (fun j hj => hs20.lt j hj) j h2; omega
  replace hd22 : ∀ j, u22.ownBlock = some j → w0.heap.size ≤ j := fun j hj => Nat.le_trans hB.size (hd22 j hj)
  replace hB := keepB0 hg hB
  replace hb10 := keepO0 hg hb10
  replace hb16 := keepO0 hg hb16
  replace hb18 := keepO0 hg hb18
  replace hs6 := keepS0 hg hs6
  replace hs12 := keepS0 hg hs12
  replace hs20 := keepS0 hg hs20
  clear hg
  refine ⟨_, rfl, ?_⟩; intro a ha
  refine sv ha (r_assign ha rfl) rfl rfl rfl ?_; clear ha a; intro a ha
  refine hK14 _ _ ?_; clear hK14 K13
  refine wp_seq_k fun K23 hK24 => ?_
  refine region ?_
  refine sv ha (r_move ha rfl) rfl rfl rfl ?_; clear ha a; intro a ha
  refine sv ha (r_move ha rfl) rfl rfl rfl ?_; clear ha a; intro a ha
  refine sv ha (r_move ha rfl) rfl rfl rfl ?_; clear ha a; intro a ha
  refine sv ha (r_move ha rfl) rfl rfl rfl ?_; clear ha a; intro a ha
  refine sbuildS ha [(0, .int .u8 3)] (([(3 : UInt8)] : List UInt8).map e8) rfl Tryd.runUnderlying22 Tryd.sizeOf5 Tryd.zeroValue5 rfl rfl rfl rfl rfl ?_
  clear ha a; intro a w25 b26 ha hg hb26 hge26 hlt26
  have hz26 : w0.heap.size ≤ b26 := Nat.le_trans hB.size hge26
  have hne_hs6_b26 : ∀ j, Value.ownBlock u6 = some j → j ≠ b26 := fun j hj => by have := hs6.lt j hj; omega
  have hne_hs12_b26 : ∀ j, Value.ownBlock u12 = some j → j ≠ b26 := fun j hj => by have := hs12.lt j hj; omega
  have hne_hs20_b26 : ∀ j, Value.ownBlock u20 = some j → j ≠ b26 := fun j hj => by have := hs20.lt j hj; omega
  have hne_hs22_b26 : ∀ j, Value.ownBlock u22 = some j → j ≠ b26 := fun j hj => by have := hs22.lt j hj; omega
  have hq10_26 : b10 < b26 := Nat.lt_of_lt_of_le (lt_of_block hb10) hge26
  have hq16_26 : b16 < b26 := Nat.lt_of_lt_of_le (lt_of_block hb16) hge26
  have hq18_26 : b18 < b26 := Nat.lt_of_lt_of_le (lt_of_block hb18) hge26
  replace hB := keepB0 hg hB
  replace hb10 := keepO0 hg hb10
  replace hb16 := keepO0 hg hb16
  replace hb18 := keepO0 hg hb18
  replace hs6 := keepS0 hg hs6
  replace hs12 := keepS0 hg hs12
  replace hs20 := keepS0 hg hs20
  replace hs22 := keepS0 hg hs22
  clear hg hge26 hlt26
  refine sbuildS ha [(0, u22), (1, .slice (some ⟨b26, 0, none⟩) 1 1)] [u22, .slice (some ⟨b26, 0, none⟩) 1 1] rfl Tryd.runUnderlying76 Tryd.sizeOf22 Tryd.zeroValue22 rfl rfl rfl (fill2 (Sl.one hs22) (Sl.one (Sl.ofBlockM hb26 (by rw [show ([(3 : UInt8)] : List UInt8).length = 1 from rfl]) (by omega)))) rfl ?_
  clear ha a; intro a w27 b28 ha hg hb28 hge28 hlt28
  have hz28 : w0.heap.size ≤ b28 := Nat.le_trans hB.size hge28
  have hne_hs6_b28 : ∀ j, Value.ownBlock u6 = some j → j ≠ b28 := fun j hj => by have := hs6.lt j hj; omega
  have hne_hs12_b28 : ∀ j, Value.ownBlock u12 = some j → j ≠ b28 := fun j hj => by have := hs12.lt j hj; omega
  have hne_hs20_b28 : ∀ j, Value.ownBlock u20 = some j → j ≠ b28 := fun j hj => by have := hs20.lt j hj; omega
  have hne_hs22_b28 : ∀ j, Value.ownBlock u22 = some j → j ≠ b28 := fun j hj => by have := hs22.lt j hj; omega
  have hq10_28 : b10 < b28 := Nat.lt_of_lt_of_le (lt_of_block hb10) hge28
  have hq16_28 : b16 < b28 := Nat.lt_of_lt_of_le (lt_of_block hb16) hge28
  have hq18_28 : b18 < b28 := Nat.lt_of_lt_of_le (lt_of_block hb18) hge28
  have hq26_28 : b26 < b28 := Nat.lt_of_lt_of_le (lt_of_block hb26) hge28
  replace hB := keepB0 hg hB
  replace hb10 := keepO0 hg hb10
  replace hb16 := keepO0 hg hb16
  replace hb18 := keepO0 hg hb18
  replace hb26 := keepO0 hg hb26
  replace hs6 := keepS0 hg hs6
  replace hs12 := keepS0 hg hs12
  replace hs20 := keepS0 hg hs20
  replace hs22 := keepS0 hg hs22
  clear hg hge28 hlt28
  refine sc ha (r_call ha [(.slice (some ⟨b28, 0, none⟩) 2 2)] rfl Tryd.call53) rfl rfl rfl (c_join (.slice (some ⟨b28, 0, none⟩) 2 2) ([u22, .slice (some ⟨b26, 0, none⟩) 1 1]) ([mac (mac ck i) (([mac (mac ck i) ([(1 : UInt8)] : List UInt8), ([(2 : UInt8)] : List UInt8)]).flatten), ([(3 : UInt8)] : List UInt8)]) _ (Sl.ofBlock (D := [u22, .slice (some ⟨b26, 0, none⟩) 1 1]) (C := [u22, .slice (some ⟨b26, 0, none⟩) 1 1]) hb28 rfl (Nat.le_refl _)) (.cons hs22 (.cons (Sl.ofBlockM hb26 (by rw [show ([(3 : UInt8)] : List UInt8).length = 1 from rfl]) (by omega)) .nil)) (by first | omega | simp only [List.flatten_cons, List.flatten_nil, List.append_nil, List.length_append, th1_len, th2_len, mac_len, List.length_cons, List.length_nil]; omega) (show 2 ≤ 1000 by omega)) ?_
  clear ha a
  rintro e w29 ⟨u30, rfl, hBc, hs30, hd30⟩
  have hg := grown_call hBc; clear hBc
  have hnb_hs30_b10 : ∀ j, u30.ownBlock = some j → j ≠ b10 := fun j hj => by have h1 := hd30 j hj; have h2 := lt_of_block hb10; omega
  have hnb_hs30_b16 : ∀ j, u30.ownBlock = some j → j ≠ b16 := fun j hj => by have h1 := hd30 j hj; have h2 := lt_of_block hb16; omega
  have hnb_hs30_b18 : ∀ j, u30.ownBlock = some j → j ≠ b18 := fun j hj => by have h1 := hd30 j hj; have h2 := lt_of_block hb18; omega
  have hnb_hs30_b26 : ∀ j, u30.ownBlock = some j → j ≠ b26 := fun j hj => by have h1 := hd30 j hj; have h2 := lt_of_block hb26; omega
  have hnb_hs30_b28 : ∀ j, u30.ownBlock = some j → j ≠ b28 := fun j hj => by have h1 := hd30 j hj; have h2 := lt_of_block hb28; omega
  have hds_hs30_hs6 : ∀ j, u30.ownBlock = some j → u6.ownBlock ≠ some j := fun j h1 h2 => by have h3 := hd30 j h1; have h4 := (fun j hj => hs6.lt j hj) j h2; omega
  have hds_hs30_hs12 : ∀ j, u30.ownBlock = some j → u12.ownBlock ≠ some j := fun j h1 h2 => by have h3 := hd30 j h1; have h4 := (fun j hj => hs12.lt j hj) j h2; omega
  have hds_hs30_hs20 : ∀ j, u30.ownBlock = some j → u20.ownBlock ≠ some j := fun j h1 h2 => by have h3 := hd30 j h1; have h4 := (fun j hj => hs20.lt j hj) j h2; omega
  have hds_hs30_hs22 : ∀ j, u30.ownBlock = some j → u22.ownBlock ≠ some j := fun j h1 h2 => by have h3 := hd30 j h1; have h4 := (fun j hj => hs22.lt j hj) j h2; omega
  replace hd30 : ∀ j, u30.ownBlock = some j → w0.heap.size ≤ j := fun j hj => Nat.le_trans hB.size (hd30 j hj)
  replace hB := keepB0 hg hB
  replace hb10 := keepO0 hg hb10
  replace hb16 := keepO0 hg hb16
  replace hb18 := keepO0 hg hb18
  replace hb26 := keepO0 hg hb26
  replace hb28 := keepO0 hg hb28
  replace hs6 := keepS0 hg hs6
  replace hs12 := keepS0 hg hs12
  replace hs20 := keepS0 hg hs20
  replace hs22 := keepS0 hg hs22
  clear hg
  refine ⟨_, rfl, ?_⟩; intro a ha
  refine sc ha (r_call ha [u6, u30] rfl Tryd.call31) rfl rfl rfl (c_mac u6 (mac ck i) u30 (([mac (mac ck i) (([mac (mac ck i) ([(1 : UInt8)] : List UInt8), ([(2 : UInt8)] : List UInt8)]).flatten), ([(3 : UInt8)] : List UInt8)]).flatten) _ hs6 hs30 (by first | omega | simp only [List.flatten_cons, List.flatten_nil, List.append_nil, List.length_append, th1_len, th2_len, mac_len, List.length_cons, List.length_nil]; omega) (glob_keep hG hB)) ?_
  clear ha a
  rintro e w31 ⟨u32, rfl, hBc, hs32, hd32⟩
  have hg := grown_call hBc; clear hBc
  have hnb_hs32_b10 : ∀ j, u32.ownBlock = some j → j ≠ b10 := fun j hj => by have h1 := hd32 j hj; have h2 := lt_of_block hb10; omega
  have hnb_hs32_b16 : ∀ j, u32.ownBlock = some j → j ≠ b16 := fun j hj => by have h1 := hd32 j hj; have h2 := lt_of_block hb16; omega
  have hnb_hs32_b18 : ∀ j, u32.ownBlock = some j → j ≠ b18 := fun j hj => by have h1 := hd32 j hj; have h2 := lt_of_block hb18; omega
  have hnb_hs32_b26 : ∀ j, u32.ownBlock = some j → j ≠ b26 := fun j hj => by have h1 := hd32 j hj; have h2 := lt_of_block hb26; omega
  have hnb_hs32_b28 : ∀ j, u32.ownBlock = some j → j ≠ b28 := fun j hj => by have h1 := hd32 j hj; have h2 := lt_of_block hb28; omega
  have hds_hs32_hs6 : ∀ j, u32.ownBlock = some j → u6.ownBlock ≠ some j := fun j h1 h2 => by have h3 := hd32 j h1; have h4 := (fun j hj => hs6.lt j hj) j h2; omega
  have hds_hs32_hs12 : ∀ j, u32.ownBlock = some j → u12.ownBlock ≠ some j := fun j h1 h2 => by have h3 := hd32 j h1; have h4 := (fun j hj => hs12.lt j hj) j h2; omega
  have hds_hs32_hs20 : ∀ j, u32.ownBlock = some j → u20.ownBlock ≠ some j := fun j h1 h2 => by have h3 := hd32 j h1; have h4 := (fun j hj => hs20.lt j hj) j h2; omega
  have hds_hs32_hs22 : ∀ j, u32.ownBlock = some j → u22.ownBlock ≠ some j := fun j h1 h2 => by have h3 := hd32 j h1; have h4 := (fun j hj => hs22.lt j hj) j h2; omega
  have hds_hs32_hs30 : ∀ j, u32.ownBlock = some j → u30.ownBlock ≠ some j := fun j h1 h2 => by have h3 := hd32 j h1; have h4 := (fun j hj => hs30.lt j hj) j h2; omega
  replace hd32 : ∀ j, u32.ownBlock = some j → w0.heap.size ≤ j := fun j hj => Nat.le_trans hB.size (hd32 j hj)
  replace hB := keepB0 hg hB
  replace hb10 := keepO0 hg hb10
  replace hb16 := keepO0 hg hb16
  replace hb18 := keepO0 hg hb18
  replace hb26 := keepO0 hg hb26
  replace hb28 := keepO0 hg hb28
  replace hs6 := keepS0 hg hs6
  replace hs12 := keepS0 hg hs12
  replace hs20 := keepS0 hg hs20
  replace hs22 := keepS0 hg hs22
  replace hs30 := keepS0 hg hs30
  clear hg
  refine ⟨_, rfl, ?_⟩; intro a ha
  refine sv ha (r_assign ha rfl) rfl rfl rfl ?_; clear ha a; intro a ha
  refine sv ha (r_assign ha rfl) rfl rfl rfl ?_; clear ha a; intro a ha
  refine sv ha (r_assign ha rfl) rfl rfl rfl ?_; clear ha a; intro a ha
  refine hK24 _ _ ?_; clear hK24 K23
  refine wp_ret ?_
  repeat (first | (with_reducible refine t_ret ?_) | (with_reducible refine x_ret ?_))
  exact ret3 ha Tryd.results34 rfl rfl rfl ⟨_, _, _, rfl, hB, (Sl.castM (l := mac (mac ck i) ([(1 : UInt8)] : List UInt8)) hs12 rfl), hd12, (Sl.castM (l := mac (mac ck i) (([mac (mac ck i) ([(1 : UInt8)] : List UInt8), ([(2 : UInt8)] : List UInt8)]).flatten)) hs22 rfl), hd22, (Sl.castM (l := mac (mac ck i) (([mac (mac ck i) (([mac (mac ck i) ([(1 : UInt8)] : List UInt8), ([(2 : UInt8)] : List UInt8)]).flatten), ([(3 : UInt8)] : List UInt8)]).flatten)) hs32 rfl), hd32⟩

theorem c_two (v : Value) (ck : List UInt8) (u : Value) (i : List UInt8) (w0 : World) (hs : Sl w0 v (ck.map e8)) (hsu : Sl w0 u (i.map e8)) (hb : i.length ≤ 50000) (hG : Glob w0) :
    Calls Tryd.prog 33 #[v, u] w0 fun e w' => ∃ u0 u1 : Value, e = .returned (.tuple #[u0, u1]) ∧ Below w0.heap.size w0 w' ∧ Sl w' u0 ((th1 ck i).map e8) ∧ (∀ j, u0.ownBlock = some j → w0.heap.size ≤ j) ∧ Sl w' u1 ((th2 ck i).map e8) ∧ (∀ j, u1.ownBlock = some j → w0.heap.size ≤ j) := by
  refine enter (args := [_, _]) Tryd.func33 rfl Tryd.ntmps33 rfl ?_
  intro a ha
  have hB := Below.refl w0.heap.size w0
  refine wp_seq_k fun K1 hK2 => ?_
  refine region ?_
  refine sv ha (r_assign ha rfl) rfl rfl rfl ?_; clear ha a; intro a ha
  refine sv ha (r_assign ha rfl) rfl rfl rfl ?_; clear ha a; intro a ha
  refine hK2 _ _ ?_; clear hK2 K1
  refine wp_seq_k fun K3 hK4 => ?_
  refine region ?_
  refine sv ha (r_move ha rfl) rfl rfl rfl ?_; clear ha a; intro a ha
  refine sv ha (r_move ha rfl) rfl rfl rfl ?_; clear ha a; intro a ha
  refine sc ha (r_call ha [v, u] rfl Tryd.call34) rfl rfl rfl (c_three v ck u i _ (hs.below hB) (hsu.below hB) (by omega) (glob_keep hG hB)) ?_
  clear ha a
  rintro e w5 ⟨u6, u7, u8, rfl, hBc, hs6, hd6, hs7, hd7, hs8, hd8⟩
  have hg := grown_call hBc; clear hBc
  replace hd6 : ∀ j, u6.ownBlock = some j → w0.heap.size ≤ j := fun j hj => Nat.le_trans hB.size (hd6 j hj)
  replace hd7 : ∀ j, u7.ownBlock = some j → w0.heap.size ≤ j := fun j hj => Nat.le_trans hB.size (hd7 j hj)
  replace hd8 : ∀ j, u8.ownBlock = some j → w0.heap.size ≤ j := fun j hj => Nat.le_trans hB.size (hd8 j hj)
  replace hB := keepB0 hg hB
  clear hg
  refine ⟨_, rfl, ?_⟩; intro a ha
  refine sv ha (r_move ha rfl) rfl rfl rfl ?_; clear ha a; intro a ha
  refine sv ha (r_extract ha (vs := #[u6, u7, u8]) rfl rfl) rfl rfl rfl ?_; clear ha a; intro a ha
  refine sv ha (r_extract ha (vs := #[u6, u7, u8]) rfl rfl) rfl rfl rfl ?_; clear ha a; intro a ha
  refine sv ha (r_extract ha (vs := #[u6, u7, u8]) rfl rfl) rfl rfl rfl ?_; clear ha a; intro a ha
  refine sv ha (r_assign ha rfl) rfl rfl rfl ?_; clear ha a; intro a ha
  refine sv ha (r_assign ha rfl) rfl rfl rfl ?_; clear ha a; intro a ha
  refine sv ha (r_assign ha rfl) rfl rfl rfl ?_; clear ha a; intro a ha
  refine hK4 _ _ ?_; clear hK4 K3
  refine wp_seq_k fun K9 hK10 => ?_
  refine region ?_
  refine sv ha (r_move ha rfl) rfl rfl rfl ?_; clear ha a; intro a ha
  refine sv ha (r_move ha rfl) rfl rfl rfl ?_; clear ha a; intro a ha
  refine sv ha (r_assign ha rfl) rfl rfl rfl ?_; clear ha a; intro a ha
  refine sv ha (r_assign ha rfl) rfl rfl rfl ?_; clear ha a; intro a ha
  refine hK10 _ _ ?_; clear hK10 K9
  refine wp_ret ?_
  repeat (first | (with_reducible refine t_ret ?_) | (with_reducible refine x_ret ?_))
  exact ret2 ha Tryd.results33 rfl rfl ⟨_, _, rfl, hB, (Sl.castM (l := th1 ck i) hs6 rfl), hd6, (Sl.castM (l := th2 ck i) hs7 rfl), hd7⟩
end Go.Proofs.YtdhgkfmniebghaaDoor
