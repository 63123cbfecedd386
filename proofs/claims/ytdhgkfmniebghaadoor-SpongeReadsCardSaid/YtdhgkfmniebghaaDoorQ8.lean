/- WALKS written by gen.py (own program) out of specs. -/
import Derived.Test.YtdhgkfmniebghaaDoorQ7
namespace Go.Proofs.YtdhgkfmniebghaaDoor
open Go.RowKit Go.Rx
set_option maxRecDepth 100000
set_option maxHeartbeats 4000000
set_option linter.unusedVariables false

theorem law_SpongeReads (v : Value) (b : List UInt8) (u : Value) (q : List Int) (w0 : World) (hs : Sl w0 v (b.map e8)) (hsq : Sl w0 u (q.map ei)) (hG : Glob w0) :
    Calls Tryd.prog 5 #[v, u] w0 fun e w' => e = .returned (.bool true) ∧ Below w0.heap.size w0 w' := by
  refine enter (args := [_, _]) Tryd.func5 rfl Tryd.ntmps5 rfl ?_
  intro a ha
  have hB := Below.refl w0.heap.size w0
  refine wp_seq_k fun K1 hK2 => ?_
  refine region ?_
  refine sv ha (r_assign ha rfl) rfl rfl rfl ?_; clear ha a; intro a ha
  refine hK2 _ _ ?_; clear hK2 K1
  refine wp_seq_k fun K3 hK4 => ?_
  refine region ?_
  refine sc ha (r_call ha [] rfl Tryd.call17) rfl rfl rfl (c_awake03  _ (glob_keep hG hB)) ?_
  clear ha a
  rintro e w5 ⟨rfl, hBc⟩
  have hg := grown_call hBc; clear hBc
  replace hB := keepB0 hg hB
  clear hg
  refine ⟨_, rfl, ?_⟩; intro a ha
  refine sv ha (r_assign ha rfl) rfl rfl rfl ?_; clear ha a; intro a ha
  refine hK4 _ _ ?_; clear hK4 K3
  refine wp_seq_k fun K6 hK7 => ?_
  refine wp_seq_k fun K8 hK9 => ?_
  refine region ?_
  refine sv ha (r_move ha rfl) rfl rfl rfl ?_; clear ha a; intro a ha
  refine sv ha (r_not ha true false rfl rfl) rfl rfl rfl ?_; clear ha a; intro a ha
  refine hK9 _ _ ?_; clear hK9 K8
  refine cond_f ha rfl ?_
  refine wp_skip ?_
  refine hK7 _ _ ?_; clear hK7 K6
  refine wp_seq_k fun K10 hK11 => ?_
  refine wp_seq_k fun K12 hK13 => ?_
  refine region ?_
  refine sv ha (r_move ha rfl) rfl rfl rfl ?_; clear ha a; intro a ha
  refine sv ha (r_lenS ha Tryd.runUnderlying22 (hs.below hB) rfl (by rw [List.length_map])) rfl rfl rfl ?_; clear ha a; intro a ha
  refine sv ha (r_gtr ha ((b.length : Nat) : Int) 1000 (decide (b.length > 1000)) rfl rfl (decide_eq_decide.2 (by omega))) rfl rfl rfl ?_; clear ha a; intro a ha
  refine hK13 _ _ ?_; clear hK13 K12
  refine cond_if ha rfl (fun hc14 => ?_) (fun hc14 => ?_)
  · skip
    replace hc14 := of_decide_eq_true hc14
    refine wp_seq_k fun K15 hK16 => ?_
    refine region ?_
    refine sv ha (r_assign ha rfl) rfl rfl rfl ?_; clear ha a; intro a ha
    refine hK16 _ _ ?_; clear hK16 K15
    refine wp_ret ?_
    repeat (first | (with_reducible refine t_ret ?_) | (with_reducible refine x_ret ?_))
    exact ret1 ha Tryd.results5 rfl ⟨rfl, hB⟩
  · skip
    replace hc14 := of_decide_eq_false hc14
    refine wp_skip ?_
    refine hK11 _ _ ?_; clear hK11 K10
    refine wp_seq_k fun K17 hK18 => ?_
    refine region ?_
    refine sv ha (r_move ha rfl) rfl rfl rfl ?_; clear ha a; intro a ha
    refine sc ha (r_call ha [v] rfl Tryd.call25) rfl rfl rfl (c_shake128 v b _ (hs.below hB) (glob_keep hG hB)) ?_
    clear ha a
    rintro e w19 ⟨b20, u20, rfl, hBc, hb20, hge20, hs20, hd20, hnx20⟩
    have hg := grown_call hBc; clear hBc
    have hz20 : w0.heap.size ≤ b20 := Nat.le_trans hB.size hge20
    replace hd20 : ∀ j, u20.ownBlock = some j → w0.heap.size ≤ j := fun j hj => Nat.le_trans hB.size (hd20 j hj)
    replace hB := keepB0 hg hB
    clear hg hge20
    refine ⟨_, rfl, ?_⟩; intro a ha
    refine sv ha (r_assign ha rfl) rfl rfl rfl ?_; clear ha a; intro a ha
    refine hK18 _ _ ?_; clear hK18 K17
    refine wp_seq_k fun K21 hK22 => ?_
    refine region ?_
    refine sv ha (r_move ha rfl) rfl rfl rfl ?_; clear ha a; intro a ha
    refine sc ha (r_call ha [v] rfl Tryd.call26) rfl rfl rfl (c_shake256 v b _ (hs.below hB) (glob_keep hG hB)) ?_
    clear ha a
    rintro e w23 ⟨b24, u24, rfl, hBc, hb24, hge24, hs24, hd24, hnx24⟩
    have hg := grown_call hBc; clear hBc
    have hnb_hs24_b20 : ∀ j, u24.ownBlock = some j → j ≠ b20 := fun j hj => by have h1 := hd24 j hj; have h2 := lt_of_block hb20; omega
    have hds_hs24_hs20 : ∀ j, u24.ownBlock = some j → u20.ownBlock ≠ some j := fun j h1 h2 => by have h3 := hd24 j h1; have h4 := (fun j hj => hs20.lt j hj) j h2; omega
    have hz24 : w0.heap.size ≤ b24 := Nat.le_trans hB.size hge24
    have hne_hs20_b24 : ∀ j, Value.ownBlock u20 = some j → j ≠ b24 := fun j hj => by have := hs20.lt j hj; omega
    have hq20_24 : b20 < b24 := Nat.lt_of_lt_of_le (lt_of_block hb20) hge24
    replace hd24 : ∀ j, u24.ownBlock = some j → w0.heap.size ≤ j := fun j hj => Nat.le_trans hB.size (hd24 j hj)
    replace hB := keepB0 hg hB
    replace hb20 := keepO0 hg hb20
    replace hs20 := keepS0 hg hs20
    clear hg hge24
    refine ⟨_, rfl, ?_⟩; intro a ha
    refine sv ha (r_assign ha rfl) rfl rfl rfl ?_; clear ha a; intro a ha
    refine hK22 _ _ ?_; clear hK22 K21
    refine wp_seq_k fun K25 hK26 => ?_
    refine region ?_
    refine sv ha (r_assign ha rfl) rfl rfl rfl ?_; clear ha a; intro a ha
    refine hK26 _ _ ?_; clear hK26 K25
    refine wp_seq_k fun K27 hK28 => ?_
    refine region ?_
    refine sv ha (r_assign ha rfl) rfl rfl rfl ?_; clear ha a; intro a ha
    refine hK28 _ _ ?_; clear hK28 K27
    refine wp_seq_k fun K29 hK30 => ?_
    refine wp_seq_k fun K31 hK32 => ?_
    refine region ?_
    refine sv ha (r_assign ha rfl) rfl rfl rfl ?_; clear ha a; intro a ha
    refine hK32 _ _ ?_; clear hK32 K31
    refine wp_block ?_
    have hLA1 := absR_len 168 31 b
    generalize hA1 : absR 168 31 noughts b = A1 at *
    have hLA2 := absR_len 136 31 b
    generalize hA2 : absR 136 31 noughts b = A2 at *
    refine loopG (fun (i : Nat) a w => ∃ vp : Value, ∃ vq : Value, ∃ vl1 : Value, ∃ vl2 : Value, (i ≤ min q.length 20) ∧ (sumQ q i ≤ 1000 * i) ∧ (∀ j, vp.ownBlock = some j → j ≠ b20) ∧ (∀ j, vp.ownBlock = some j → j ≠ b24) ∧ (∀ j, vq.ownBlock = some j → j ≠ b20) ∧ (∀ j, vq.ownBlock = some j → j ≠ b24) ∧ (∀ j, vl1.ownBlock = some j → w0.heap.size ≤ j) ∧ (∀ j, vl1.ownBlock = some j → j ≠ b20) ∧ (∀ j, vl1.ownBlock = some j → j ≠ b24) ∧ (∀ j, vl2.ownBlock = some j → w0.heap.size ≤ j) ∧ (∀ j, vl2.ownBlock = some j → j ≠ b20) ∧ (∀ j, vl2.ownBlock = some j → j ≠ b24) ∧ (∀ j, vq.ownBlock = some j → vp.ownBlock ≠ some j) ∧ (∀ j, vl1.ownBlock = some j → vp.ownBlock ≠ some j) ∧ (∀ j, vl1.ownBlock = some j → vq.ownBlock ≠ some j) ∧ (∀ j, vl2.ownBlock = some j → vp.ownBlock ≠ some j) ∧ (∀ j, vl2.ownBlock = some j → vq.ownBlock ≠ some j) ∧ Has 100 [(0, v), (1, u), (15, .bool true), (5, .bool true), (16, .bool true), (17, .bool false), (18, v), (19, en b.length), (20, .bool (decide (b.length > 1000))), (21, v), (22, .pointer (some ⟨b20, 0, none⟩)), (6, .pointer (some ⟨b20, 0, none⟩)), (23, v), (24, .pointer (some ⟨b24, 0, none⟩)), (7, .pointer (some ⟨b24, 0, none⟩)), (10, en i), (8, vp), (9, vq)] a ∧ Below w0.heap.size w0 w ∧ w.heap[b20]? = some (.cells (((rdA 168 A1 q i).1).map e64 ++ [en 168, vl1]).toArray 65 (0, 0)) ∧ w.heap[b24]? = some (.cells (((rdA 136 A2 q i).1).map e64 ++ [en 136, vl2]).toArray 65 (0, 0)) ∧ w.ownsRow w0.heap.size 5 1 vp ((rdA 168 A1 q i).2.2).length (((rdA 168 A1 q i).2.2).map e8) ∧ w.ownsRow w0.heap.size 5 1 vq ((rdA 136 A2 q i).2.2).length (((rdA 136 A2 q i).2.2).map e8) ∧ Sl w vl1 (((rdA 168 A1 q i).2.1).map e8) ∧ Sl w vl2 (((rdA 136 A2 q i).2.1).map e8)) (fun i => (min q.length 20) - i) 0 ⟨.slice none 0 0, .slice none 0 0, u20, u24, (by omega), (Nat.le_refl _), (fun j hj => (nil_own j hj).elim), (fun j hj => (nil_own j hj).elim), (fun j hj => (nil_own j hj).elim), (fun j hj => (nil_own j hj).elim), hd20, hnx20, hne_hs20_b24, hd24, hnb_hs24_b20, hnx24, (fun j hj _ => (nil_own j hj).elim), (fun j _ hj => (nil_own j hj).elim), (fun j _ hj => (nil_own j hj).elim), (fun j _ hj => (nil_own j hj).elim), (fun j _ hj => (nil_own j hj).elim), ha.to [0, 1, 15, 5, 16, 17, 18, 19, 20, 21, 22, 6, 23, 24, 7, 10, 8, 9] rfl, hB, hb20, hb24, (own_castl (l := ([] : List UInt8)) (World.ownsRow_nil _ _ _ _) (rdA_0o _ _ _).symm), (own_castl (l := ([] : List UInt8)) (World.ownsRow_nil _ _ _ _) (rdA_0o _ _ _).symm), (Sl.castM (l := tk A1 168) hs20 (rdA_0l _ _ _).symm), (Sl.castM (l := tk A2 136) hs24 (rdA_0l _ _ _).symm)⟩ ?_
    clear ha a hB hb20 hb24 hs20 hs24
    intro i a w33 ⟨vp, vq, vl1, vl2, hki, hsum, hnb_vp_b20, hnb_vp_b24, hnb_vq_b20, hnb_vq_b24, hfr_vl1, hnb_vl1_b20, hnb_vl1_b24, hfr_vl2, hnb_vl2_b20, hnb_vl2_b24, hds_vq_vp, hds_vl1_vp, hds_vl1_vq, hds_vl2_vp, hds_vl2_vq, ha, hB, hb20, hb24, hovp, hovq, hsl1, hsl2⟩
    have ho1 := rdA_out 168 (by omega) A1 hLA1 q i
    have ho2 := rdA_out 136 (by omega) A2 hLA2 q i
    have hu1 := (xrun_inv A1 hLA1 168 (q.getD i 0).toNat (by omega) _ _ _ (rdA_inv 168 (by omega) A1 hLA1 q i)).2
    have hu2 := (xrun_inv A2 hLA2 136 (q.getD i 0).toNat (by omega) _ _ _ (rdA_inv 136 (by omega) A2 hLA2 q i)).2
    refine wp_seq_k fun K34 hK35 => ?_
    refine wp_seq_k fun K36 hK37 => ?_
    refine region ?_
    refine sv ha (r_move ha rfl) rfl rfl rfl ?_; clear ha a; intro a ha
    refine sv ha (r_move ha rfl) rfl rfl rfl ?_; clear ha a; intro a ha
    refine sv ha (r_lenS ha Tryd.runUnderlying33 (hsq.below hB) rfl (by rw [List.length_map])) rfl rfl rfl ?_; clear ha a; intro a ha
    refine sv ha (r_lss ha ((i : Nat) : Int) ((q.length : Nat) : Int) (decide (i < q.length)) rfl rfl (decide_eq_decide.2 (by omega))) rfl rfl rfl ?_; clear ha a; intro a ha
    refine sv ha (r_move ha rfl) rfl rfl rfl ?_; clear ha a; intro a ha
    cases hq38 : (decide (i < q.length))
    all_goals rw [hq38] at ha
    case false =>
      replace hq38 := of_decide_eq_false hq38
      refine sno ha rfl rfl rfl rfl rfl rfl ?_; clear ha a; intro a ha
      refine sno ha rfl rfl rfl rfl rfl rfl ?_; clear ha a; intro a ha
      refine sv ha (r_pick ha false rfl rfl) rfl rfl rfl ?_; clear ha a; intro a ha
      refine hK37 _ _ ?_; clear hK37 K36
      refine cond_f ha rfl ?_
      refine wp_exit ?_
      obtain rfl : i = (min q.length 20) := by omega
      refine hK30 _ _ ?_; clear hK35 K34 hK30 K29
      refine wp_seq_k fun K39 hK40 => ?_
      refine regionD (S := fun w => Below w0.heap.size w0 w ∧ w.heap[b20]? = some (.cells (((rdA 168 A1 q (min q.length 20)).1).map e64 ++ [en 168, vl1]).toArray 65 (0, 0)) ∧ w.heap[b24]? = some (.cells (((rdA 136 A2 q (min q.length 20)).1).map e64 ++ [en 136, vl2]).toArray 65 (0, 0)) ∧ w.ownsRow w0.heap.size 5 1 vp ((rdA 168 A1 q (min q.length 20)).2.2).length (((rdA 168 A1 q (min q.length 20)).2.2).map e8) ∧ w.ownsRow w0.heap.size 5 1 vq ((rdA 136 A2 q (min q.length 20)).2.2).length (((rdA 136 A2 q (min q.length 20)).2.2).map e8) ∧ Sl w vl1 (((rdA 168 A1 q (min q.length 20)).2.1).map e8) ∧ Sl w vl2 (((rdA 136 A2 q (min q.length 20)).2.1).map e8) ∧ True) [] [0, 1, 2, 3, 4, 5, 6, 7, 8, 9, 10, 12, 13, 14, 15, 16, 17, 18, 19, 20, 22, 23, 24, 25] [0, 1, 2, 3, 4, 5, 6, 7, 8, 9, 10, 11, 12, 13, 14, 15, 16, 17, 18, 19, 20, 21, 22, 23, 24, 25] mixed (by kernel_rfl) (fun w hg => ⟨keepB0 hg hB, keepO0 hg hb20, keepO0 hg hb24, keepW0 hg hovp, keepW0 hg hovq, keepS0 hg hsl1, keepS0 hg hsl2, trivial⟩) ?_
      intro w41 hg
      replace hB := keepB0 hg hB
      replace hb20 := keepO0 hg hb20
      replace hb24 := keepO0 hg hb24
      replace hovp := keepW0 hg hovp
      replace hovq := keepW0 hg hovq
      replace hsl1 := keepS0 hg hsl1
      replace hsl2 := keepS0 hg hsl2
      clear hg
      refine cv ha rfl rfl (fun w _ => r_move ha rfl) rfl rfl rfl ?_; clear ha a; intro a ha
      refine cv ha rfl rfl (fun w ⟨hB, hb20, hb24, hovp, hovq, hsl1, hsl2, _⟩ => r_lenS ha Tryd.runUnderlying22 (Sl.ofOwns hovp) rfl (by rw [List.length_map])) rfl rfl rfl ?_; clear ha a; intro a ha
      refine cv ha rfl rfl (fun w _ => r_move ha rfl) rfl rfl rfl ?_; clear ha a; intro a ha
      refine cv ha rfl rfl (fun w ⟨hB, hb20, hb24, hovp, hovq, hsl1, hsl2, _⟩ => r_lenS ha Tryd.runUnderlying22 (Sl.ofOwns hovq) rfl (by rw [List.length_map])) rfl rfl rfl ?_; clear ha a; intro a ha
      refine cv ha rfl rfl (fun w _ => r_eql ha ((((rdA 168 A1 q (min q.length 20)).2.2).length : Nat) : Int) ((((rdA 136 A2 q (min q.length 20)).2.2).length : Nat) : Int) true rfl rfl (decide_eq_true (by rw [rdA_out _ (by omega) _ hLA1, rdA_out _ (by omega) _ hLA2]))) rfl rfl rfl ?_; clear ha a; intro a ha
      refine cv ha rfl rfl (fun w _ => r_move ha rfl) rfl rfl rfl ?_; clear ha a; intro a ha
      refine cvg ha rfl rfl (fun w _ => r_move ha rfl) rfl rfl rfl rfl rfl ?_; clear ha a; intro a ha
      refine cvg ha rfl rfl (fun w ⟨hB, hb20, hb24, hovp, hovq, hsl1, hsl2, _⟩ => r_str (l := (rdA 168 A1 q (min q.length 20)).2.2) ha Tryd.underlying22 Tryd.underlying5 Tryd.underlying9 rfl (Sl.ofOwns hovp)) rfl rfl rfl rfl rfl ?_; clear ha a; intro a ha
      refine cvg ha rfl rfl (fun w _ => r_move ha rfl) rfl rfl rfl rfl rfl ?_; clear ha a; intro a ha
      refine cvg ha rfl rfl (fun w _ => r_move ha rfl) rfl rfl rfl rfl rfl ?_; clear ha a; intro a ha
      refine cvg ha rfl rfl (fun w ⟨hB, hb20, hb24, hovp, hovq, hsl1, hsl2, _⟩ => r_lenS ha Tryd.runUnderlying22 (Sl.ofOwns hovp) rfl (by rw [List.length_map])) rfl rfl rfl rfl rfl ?_; clear ha a; intro a ha
      refine ccgx ha rfl rfl (r_call ha [v, en (((rdA 168 A1 q (min q.length 20)).2.2).length)] rfl Tryd.call28) rfl rfl rfl rfl rfl (c_rshake128 v b (((rdA 168 A1 q (min q.length 20)).2.2).length) _ (hs.below hB) (by omega) (by omega)) ?_
      clear ha a
      rintro e w42 ⟨u43, rfl, hBc, hs43, hd43⟩
      have hg := grown_call hBc; clear hBc
      have hnb_hs43_b20 : ∀ j, u43.ownBlock = some j → j ≠ b20 := fun j hj => by have h1 := hd43 j hj; have h2 := lt_of_block hb20; omega
      have hnb_hs43_b24 : ∀ j, u43.ownBlock = some j → j ≠ b24 := fun j hj => by have h1 := hd43 j hj; have h2 := lt_of_block hb24; omega
      have hds_hs43_hovp : ∀ j, u43.ownBlock = some j → vp.ownBlock ≠ some j := fun j h1 h2 => by have h3 := hd43 j h1; have h4 := (fun j hj => (hovp.lt j hj).2) j h2; omega
      have hds_hs43_hovq : ∀ j, u43.ownBlock = some j → vq.ownBlock ≠ some j := fun j h1 h2 => by have h3 := hd43 j h1; have h4 := (fun j hj => (hovq.lt j hj).2) j h2; omega
      have hds_hs43_hsl1 : ∀ j, u43.ownBlock = some j → vl1.ownBlock ≠ some j := fun j h1 h2 => by have h3 := hd43 j h1; have h4 := (fun j hj => hsl1.lt j hj) j h2; omega
      have hds_hs43_hsl2 : ∀ j, u43.ownBlock = some j → vl2.ownBlock ≠ some j := fun j h1 h2 => by have h3 := hd43 j h1; have h4 := (fun j hj => hsl2.lt j hj) j h2; omega
      replace hd43 : ∀ j, u43.ownBlock = some j → w0.heap.size ≤ j := fun j hj => Nat.le_trans hB.size (hd43 j hj)
      replace hB := keepB0 hg hB
      replace hb20 := keepO0 hg hb20
      replace hb24 := keepO0 hg hb24
      replace hovp := keepW0 hg hovp
      replace hovq := keepW0 hg hovq
      replace hsl1 := keepS0 hg hsl1
      replace hsl2 := keepS0 hg hsl2
      clear hg
      refine ⟨fun w => (Sl w u43 ((sqz (absR 168 31 noughts b) 168 (((rdA 168 A1 q (min q.length 20)).2.2).length)).map e8)) ∧ Below w0.heap.size w0 w ∧ w.heap[b20]? = some (.cells (((rdA 168 A1 q (min q.length 20)).1).map e64 ++ [en 168, vl1]).toArray 65 (0, 0)) ∧ w.heap[b24]? = some (.cells (((rdA 136 A2 q (min q.length 20)).1).map e64 ++ [en 136, vl2]).toArray 65 (0, 0)) ∧ w.ownsRow w0.heap.size 5 1 vp ((rdA 168 A1 q (min q.length 20)).2.2).length (((rdA 168 A1 q (min q.length 20)).2.2).map e8) ∧ w.ownsRow w0.heap.size 5 1 vq ((rdA 136 A2 q (min q.length 20)).2.2).length (((rdA 136 A2 q (min q.length 20)).2.2).map e8) ∧ Sl w vl1 (((rdA 168 A1 q (min q.length 20)).2.1).map e8) ∧ Sl w vl2 (((rdA 136 A2 q (min q.length 20)).2.1).map e8) ∧ True, fun w h => h.2, fun _ => ⟨hs43, hB, hb20, hb24, hovp, hovq, hsl1, hsl2, trivial⟩, _, rfl, ?_⟩; intro a ha
      refine cvg ha rfl rfl (fun w ⟨hs43, hB, hb20, hb24, hovp, hovq, hsl1, hsl2, _⟩ => r_str (l := sqz (absR 168 31 noughts b) 168 (((rdA 168 A1 q (min q.length 20)).2.2).length)) ha Tryd.underlying22 Tryd.underlying5 Tryd.underlying9 rfl hs43) rfl rfl rfl rfl rfl ?_; clear ha a; intro a ha
      refine cvg ha rfl rfl (fun w _ => r_eqlS ha ((rdA 168 A1 q (min q.length 20)).2.2) (sqz (absR 168 31 noughts b) 168 (((rdA 168 A1 q (min q.length 20)).2.2).length)) true rfl rfl (decide_eq_true (by rw [hA1]; exact rdA_eq _ (by omega) _ hLA1 _ _))) rfl rfl rfl rfl rfl ?_; clear ha a; intro a ha
      refine cv ha rfl rfl (fun w _ => r_pick ha true rfl rfl) rfl rfl rfl ?_; clear ha a; intro a ha
      refine cv ha rfl rfl (fun w _ => r_move ha rfl) rfl rfl rfl ?_; clear ha a; intro a ha
      refine cvg ha rfl rfl (fun w _ => r_move ha rfl) rfl rfl rfl rfl rfl ?_; clear ha a; intro a ha
      refine cvg ha rfl rfl (fun w ⟨hs43, hB, hb20, hb24, hovp, hovq, hsl1, hsl2, _⟩ => r_str (l := (rdA 136 A2 q (min q.length 20)).2.2) ha Tryd.underlying22 Tryd.underlying5 Tryd.underlying9 rfl (Sl.ofOwns hovq)) rfl rfl rfl rfl rfl ?_; clear ha a; intro a ha
      refine cvg ha rfl rfl (fun w _ => r_move ha rfl) rfl rfl rfl rfl rfl ?_; clear ha a; intro a ha
      refine cvg ha rfl rfl (fun w _ => r_move ha rfl) rfl rfl rfl rfl rfl ?_; clear ha a; intro a ha
      refine cvg ha rfl rfl (fun w ⟨hs43, hB, hb20, hb24, hovp, hovq, hsl1, hsl2, _⟩ => r_lenS ha Tryd.runUnderlying22 (Sl.ofOwns hovq) rfl (by rw [List.length_map])) rfl rfl rfl rfl rfl ?_; clear ha a; intro a ha
      refine ccgx ha rfl rfl (r_call ha [v, en (((rdA 136 A2 q (min q.length 20)).2.2).length)] rfl Tryd.call29) rfl rfl rfl rfl rfl (c_rshake256 v b (((rdA 136 A2 q (min q.length 20)).2.2).length) _ (hs.below hB) (by omega) (by omega)) ?_
      clear ha a
      rintro e w44 ⟨u45, rfl, hBc, hs45, hd45⟩
      have hg := grown_call hBc; clear hBc
      have hnb_hs45_b20 : ∀ j, u45.ownBlock = some j → j ≠ b20 := fun j hj => by have h1 := hd45 j hj; have h2 := lt_of_block hb20; omega
      have hnb_hs45_b24 : ∀ j, u45.ownBlock = some j → j ≠ b24 := fun j hj => by have h1 := hd45 j hj; have h2 := lt_of_block hb24; omega
      have hds_hs45_hovp : ∀ j, u45.ownBlock = some j → vp.ownBlock ≠ some j := fun j h1 h2 => by have h3 := hd45 j h1; have h4 := (fun j hj => (hovp.lt j hj).2) j h2; omega
      have hds_hs45_hovq : ∀ j, u45.ownBlock = some j → vq.ownBlock ≠ some j := fun j h1 h2 => by have h3 := hd45 j h1; have h4 := (fun j hj => (hovq.lt j hj).2) j h2; omega
      have hds_hs45_hsl1 : ∀ j, u45.ownBlock = some j → vl1.ownBlock ≠ some j := fun j h1 h2 => by have h3 := hd45 j h1; have h4 := (fun j hj => hsl1.lt j hj) j h2; omega
      have hds_hs45_hsl2 : ∀ j, u45.ownBlock = some j → vl2.ownBlock ≠ some j := fun j h1 h2 => by have h3 := hd45 j h1; have h4 := (fun j hj => hsl2.lt j hj) j h2; omega
      have hds_hs45_hs43 : ∀ j, u45.ownBlock = some j → u43.ownBlock ≠ some j := fun j h1 h2 => by have h3 := hd45 j h1; have h4 := (fun j hj => hs43.lt j hj) j h2; omega
      replace hd45 : ∀ j, u45.ownBlock = some j → w0.heap.size ≤ j := fun j hj => Nat.le_trans hB.size (hd45 j hj)
      replace hB := keepB0 hg hB
      replace hb20 := keepO0 hg hb20
      replace hb24 := keepO0 hg hb24
      replace hovp := keepW0 hg hovp
      replace hovq := keepW0 hg hovq
      replace hsl1 := keepS0 hg hsl1
      replace hsl2 := keepS0 hg hsl2
      replace hs43 := keepS0 hg hs43
      clear hg
      refine ⟨fun w => (Sl w u45 ((sqz (absR 136 31 noughts b) 136 (((rdA 136 A2 q (min q.length 20)).2.2).length)).map e8)) ∧ (Sl w u43 ((sqz (absR 168 31 noughts b) 168 (((rdA 168 A1 q (min q.length 20)).2.2).length)).map e8)) ∧ Below w0.heap.size w0 w ∧ w.heap[b20]? = some (.cells (((rdA 168 A1 q (min q.length 20)).1).map e64 ++ [en 168, vl1]).toArray 65 (0, 0)) ∧ w.heap[b24]? = some (.cells (((rdA 136 A2 q (min q.length 20)).1).map e64 ++ [en 136, vl2]).toArray 65 (0, 0)) ∧ w.ownsRow w0.heap.size 5 1 vp ((rdA 168 A1 q (min q.length 20)).2.2).length (((rdA 168 A1 q (min q.length 20)).2.2).map e8) ∧ w.ownsRow w0.heap.size 5 1 vq ((rdA 136 A2 q (min q.length 20)).2.2).length (((rdA 136 A2 q (min q.length 20)).2.2).map e8) ∧ Sl w vl1 (((rdA 168 A1 q (min q.length 20)).2.1).map e8) ∧ Sl w vl2 (((rdA 136 A2 q (min q.length 20)).2.1).map e8) ∧ True, fun w h => h.2, fun _ => ⟨hs45, hs43, hB, hb20, hb24, hovp, hovq, hsl1, hsl2, trivial⟩, _, rfl, ?_⟩; intro a ha
      refine cvg ha rfl rfl (fun w ⟨hs45, hs43, hB, hb20, hb24, hovp, hovq, hsl1, hsl2, _⟩ => r_str (l := sqz (absR 136 31 noughts b) 136 (((rdA 136 A2 q (min q.length 20)).2.2).length)) ha Tryd.underlying22 Tryd.underlying5 Tryd.underlying9 rfl hs45) rfl rfl rfl rfl rfl ?_; clear ha a; intro a ha
      refine cvg ha rfl rfl (fun w _ => r_eqlS ha ((rdA 136 A2 q (min q.length 20)).2.2) (sqz (absR 136 31 noughts b) 136 (((rdA 136 A2 q (min q.length 20)).2.2).length)) true rfl rfl (decide_eq_true (by rw [hA2]; exact rdA_eq _ (by omega) _ hLA2 _ _))) rfl rfl rfl rfl rfl ?_; clear ha a; intro a ha
      refine cv ha rfl rfl (fun w _ => r_pick ha true rfl rfl) rfl rfl rfl ?_; clear ha a; intro a ha
      refine cv ha rfl rfl (fun w _ => r_assign ha rfl) rfl rfl rfl ?_; clear ha a; intro a ha
      refine cfin (hK40 _ _ ?_); clear hK40 K39
      refine wp_ret ?_
      repeat (first | (with_reducible refine t_ret ?_) | (with_reducible refine x_ret ?_))
      exact ret1 ha Tryd.results5 rfl ⟨rfl, hB⟩
    case true =>
      replace hq38 := of_decide_eq_true hq38
      refine svg ha (r_move ha rfl) rfl rfl rfl rfl rfl ?_; clear ha a; intro a ha
      refine svg ha (r_lss ha ((i : Nat) : Int) 20 (decide (i < 20)) rfl rfl (decide_eq_decide.2 (by omega))) rfl rfl rfl rfl rfl ?_; clear ha a; intro a ha
      refine sv ha (r_pick ha true rfl rfl) rfl rfl rfl ?_; clear ha a; intro a ha
      refine hK37 _ _ ?_; clear hK37 K36
      refine cond_if ha rfl (fun hc46 => ?_) (fun hc46 => ?_)
      · skip
        replace hc46 := of_decide_eq_true hc46
        refine wp_skip ?_
        refine hK35 _ _ ?_; clear hK35 K34
        refine wp_seq_k fun K47 hK48 => ?_
        refine wp_block ?_
        refine wp_seq_k fun K49 hK50 => ?_
        refine region ?_
        refine sv ha (r_move ha rfl) rfl rfl rfl ?_; clear ha a; intro a ha
        refine sv ha (r_move ha rfl) rfl rfl rfl ?_; clear ha a; intro a ha
        refine sv ha (r_indexS (i := i) ha Tryd.runUnderlying33 Tryd.sizeOf3 (hsq.below hB) (C := (q).map ei) rfl rfl (by rw [List.length_map]; omega)) rfl rfl rfl ?_; clear ha a; intro a ha
        refine sv ha (r_loadS ha rfl Tryd.isAgg3 (hsq.below hB) (get_map ei q 0 i (by omega))) rfl rfl rfl ?_; clear ha a; intro a ha
        refine sv ha (r_assign ha rfl) rfl rfl rfl ?_; clear ha a; intro a ha
        refine hK50 _ _ ?_; clear hK50 K49
        refine wp_seq_k fun K51 hK52 => ?_
        refine wp_seq_k fun K53 hK54 => ?_
        refine region ?_
        refine sv ha (r_move ha rfl) rfl rfl rfl ?_; clear ha a; intro a ha
        refine sv ha (r_gtr ha (q.getD i 0) 1000 (decide (q.getD i 0 > 1000)) rfl rfl (decide_eq_decide.2 (by omega))) rfl rfl rfl ?_; clear ha a; intro a ha
        refine hK54 _ _ ?_; clear hK54 K53
        refine cond_if ha rfl (fun hc55 => ?_) (fun hc55 => ?_)
        · skip
          replace hc55 := of_decide_eq_true hc55
          refine wp_seq_k fun K56 hK57 => ?_
          refine region ?_
          refine sv ha (r_assign ha rfl) rfl rfl rfl ?_; clear ha a; intro a ha
          refine hK57 _ _ ?_; clear hK57 K56
          refine wp_ret ?_
          repeat (first | (with_reducible refine t_ret ?_) | (with_reducible refine x_ret ?_))
          exact ret1 ha Tryd.results5 rfl ⟨rfl, hB⟩
        · skip
          replace hc55 := of_decide_eq_false hc55
          refine wp_skip ?_
          refine hK52 _ _ ?_; clear hK52 K51
          refine wp_seq_k fun K58 hK59 => ?_
          refine region ?_
          refine sv ha (r_move ha rfl) rfl rfl rfl ?_; clear ha a; intro a ha
          refine sv ha (r_move ha rfl) rfl rfl rfl ?_; clear ha a; intro a ha
          refine sc ha (r_call ha [.pointer (some ⟨b20, 0, none⟩), ei (q.getD i 0)] rfl Tryd.call27) rfl rfl rfl (c_read b20 ((rdA 168 A1 q i).1) 168 vl1 ((rdA 168 A1 q i).2.1) (q.getD i 0) _ hb20 (by rw [rdA_len _ _ hLA1]) hsl1 hnb_vl1_b20 (by omega) (rdA_le 168 (by omega) _ q i) (by omega) (fun _ hg => glob_keep hG (keepB1 hg (hz20) hB))) ?_
          clear ha a
          rintro e w60 ⟨u61, v61, rfl, hg, hb20', hsv61, hov61, ho61, hds_ho61_hsv61⟩
          have hnb_ho61_b20 : ∀ j, u61.ownBlock = some j → j ≠ b20 := fun j hj => by have h1 := (own_row ho61) j hj; have h2 := lt_of_block hb20; omega
          have hnb_ho61_b24 : ∀ j, u61.ownBlock = some j → j ≠ b24 := fun j hj => by have h1 := (own_row ho61) j hj; have h2 := lt_of_block hb24; omega
          have hds_ho61_hovp : ∀ j, u61.ownBlock = some j → vp.ownBlock ≠ some j := fun j h1 h2 => by have h3 := (own_row ho61) j h1; have h4 := (fun j hj => (hovp.lt j hj).2) j h2; omega
          have hds_ho61_hovq : ∀ j, u61.ownBlock = some j → vq.ownBlock ≠ some j := fun j h1 h2 => by have h3 := (own_row ho61) j h1; have h4 := (fun j hj => (hovq.lt j hj).2) j h2; omega
          have hds_ho61_hsl1 : ∀ j, u61.ownBlock = some j → vl1.ownBlock ≠ some j := fun j h1 h2 => by have h3 := (own_row ho61) j h1; have h4 := (fun j hj => hsl1.lt j hj) j h2; omega
          have hds_ho61_hsl2 : ∀ j, u61.ownBlock = some j → vl2.ownBlock ≠ some j := fun j h1 h2 => by have h3 := (own_row ho61) j h1; have h4 := (fun j hj => hsl2.lt j hj) j h2; omega
          have hnb_hsv61_b20 : ∀ j, v61.ownBlock = some j → j ≠ b20 := fun j hj => (hov61 j hj).elim (fun h => hnb_vl1_b20 j h) (fun h => by have := lt_of_block hb20; omega)
          have hnb_hsv61_b24 : ∀ j, v61.ownBlock = some j → j ≠ b24 := fun j hj => (hov61 j hj).elim (fun h => hnb_vl1_b24 j h) (fun h => by have := lt_of_block hb24; omega)
          have hds_hsv61_hovp : ∀ j, v61.ownBlock = some j → vp.ownBlock ≠ some j := fun j h1 h2 => (hov61 j h1).elim (fun h => hds_vl1_vp j h h2) (fun h => by have h4 := (fun j hj => (hovp.lt j hj).2) j h2; omega)
          have hds_hsv61_hovq : ∀ j, v61.ownBlock = some j → vq.ownBlock ≠ some j := fun j h1 h2 => (hov61 j h1).elim (fun h => hds_vl1_vq j h h2) (fun h => by have h4 := (fun j hj => (hovq.lt j hj).2) j h2; omega)
          have hdv61 : ∀ j, v61.ownBlock = some j → w0.heap.size ≤ j := fun j hj => (hov61 j hj).elim (fun h => hfr_vl1 j h) (fun h => Nat.le_trans hB.size h)
          replace ho61 := own_base ho61 hB.size
          clear hb20; have hb20 := hb20'; clear hb20'
          replace hB := keepB1 hg (by omega) hB
          replace hb24 := keepO1 hg (by omega) hb24
          replace hovp := keepW1 hg (ne_of_ap hnb_vp_b20) hovp
          replace hovq := keepW1 hg (ne_of_ap hnb_vq_b20) hovq
          replace hsl2 := keepS1 hg (ne_of_ap hnb_vl2_b20) hsl2
          clear hg
          refine ⟨_, rfl, ?_⟩; intro a ha
          refine sv ha (r_assign ha rfl) rfl rfl rfl ?_; clear ha a; intro a ha
          refine hK59 _ _ ?_; clear hK59 K58
          refine wp_seq_k fun K62 hK63 => ?_
          refine region ?_
          refine sv ha (r_move ha rfl) rfl rfl rfl ?_; clear ha a; intro a ha
          refine sv ha (r_move ha rfl) rfl rfl rfl ?_; clear ha a; intro a ha
          refine sc ha (r_call ha [.pointer (some ⟨b24, 0, none⟩), ei (q.getD i 0)] rfl Tryd.call27) rfl rfl rfl (c_read b24 ((rdA 136 A2 q i).1) 136 vl2 ((rdA 136 A2 q i).2.1) (q.getD i 0) _ hb24 (by rw [rdA_len _ _ hLA2]) hsl2 hnb_vl2_b24 (by omega) (rdA_le 136 (by omega) _ q i) (by omega) (fun _ hg => glob_keep hG (keepB1 hg (hz24) hB))) ?_
          clear ha a
          rintro e w64 ⟨u65, v65, rfl, hg, hb24', hsv65, hov65, ho65, hds_ho65_hsv65⟩
          have hnb_ho65_b20 : ∀ j, u65.ownBlock = some j → j ≠ b20 := fun j hj => by have h1 := (own_row ho65) j hj; have h2 := lt_of_block hb20; omega
          have hnb_ho65_b24 : ∀ j, u65.ownBlock = some j → j ≠ b24 := fun j hj => by have h1 := (own_row ho65) j hj; have h2 := lt_of_block hb24; omega
          have hds_ho65_hovp : ∀ j, u65.ownBlock = some j → vp.ownBlock ≠ some j := fun j h1 h2 => by have h3 := (own_row ho65) j h1; have h4 := (fun j hj => (hovp.lt j hj).2) j h2; omega
          have hds_ho65_hovq : ∀ j, u65.ownBlock = some j → vq.ownBlock ≠ some j := fun j h1 h2 => by have h3 := (own_row ho65) j h1; have h4 := (fun j hj => (hovq.lt j hj).2) j h2; omega
          have hds_ho65_hsl2 : ∀ j, u65.ownBlock = some j → vl2.ownBlock ≠ some j := fun j h1 h2 => by have h3 := (own_row ho65) j h1; have h4 := (fun j hj => hsl2.lt j hj) j h2; omega
          have hds_ho65_hsv61 : ∀ j, u65.ownBlock = some j → v61.ownBlock ≠ some j := fun j h1 h2 => by have h3 := (own_row ho65) j h1; have h4 := (fun j hj => hsv61.lt j hj) j h2; omega
          have hds_ho65_ho61 : ∀ j, u65.ownBlock = some j → u61.ownBlock ≠ some j := fun j h1 h2 => by have h3 := (own_row ho65) j h1; have h4 := (fun j hj => (ho61.lt j hj).2) j h2; omega
          have hnb_hsv65_b20 : ∀ j, v65.ownBlock = some j → j ≠ b20 := fun j hj => (hov65 j hj).elim (fun h => hnb_vl2_b20 j h) (fun h => by have := lt_of_block hb20; omega)
          have hnb_hsv65_b24 : ∀ j, v65.ownBlock = some j → j ≠ b24 := fun j hj => (hov65 j hj).elim (fun h => hnb_vl2_b24 j h) (fun h => by have := lt_of_block hb24; omega)
          have hds_hsv65_hovp : ∀ j, v65.ownBlock = some j → vp.ownBlock ≠ some j := fun j h1 h2 => (hov65 j h1).elim (fun h => hds_vl2_vp j h h2) (fun h => by have h4 := (fun j hj => (hovp.lt j hj).2) j h2; omega)
          have hds_hsv65_hovq : ∀ j, v65.ownBlock = some j → vq.ownBlock ≠ some j := fun j h1 h2 => (hov65 j h1).elim (fun h => hds_vl2_vq j h h2) (fun h => by have h4 := (fun j hj => (hovq.lt j hj).2) j h2; omega)
          have hds_hsv65_ho61 : ∀ j, v65.ownBlock = some j → u61.ownBlock ≠ some j := fun j h1 h2 => (hov65 j h1).elim (fun h => (fun j h1 h2 => hds_ho61_hsl2 j h2 h1) j h h2) (fun h => by have h4 := (fun j hj => (ho61.lt j hj).2) j h2; omega)
          have hdv65 : ∀ j, v65.ownBlock = some j → w0.heap.size ≤ j := fun j hj => (hov65 j hj).elim (fun h => hfr_vl2 j h) (fun h => Nat.le_trans hB.size h)
          replace ho65 := own_base ho65 hB.size
          clear hb24; have hb24 := hb24'; clear hb24'
          replace hB := keepB1 hg (by omega) hB
          replace hb20 := keepO1 hg (by omega) hb20
          replace hovp := keepW1 hg (ne_of_ap hnb_vp_b24) hovp
          replace hovq := keepW1 hg (ne_of_ap hnb_vq_b24) hovq
          replace hsv61 := keepS1 hg (ne_of_ap hnb_hsv61_b24) hsv61
          replace ho61 := keepW1 hg (ne_of_ap hnb_ho61_b24) ho61
          clear hg
          refine ⟨_, rfl, ?_⟩; intro a ha
          refine sv ha (r_assign ha rfl) rfl rfl rfl ?_; clear ha a; intro a ha
          refine hK63 _ _ ?_; clear hK63 K62
          refine wp_seq_k fun K66 hK67 => ?_
          refine region ?_
          refine sv ha (r_move ha rfl) rfl rfl rfl ?_; clear ha a; intro a ha
          refine sv ha (r_move ha rfl) rfl rfl rfl ?_; clear ha a; intro a ha
          refine sapp (C := (((rdA 168 A1 q i).2.2)).map e8) (D := ((xrun 168 (q.getD i 0 : Int).toNat ((rdA 168 A1 q i).1, (rdA 168 A1 q i).2.1, [])).2.2).map e8) ha rfl rfl Tryd.underlying22 rfl rfl rfl rfl hovp (Sl.ofOwns ho61) (one_e8 _) (by simp only [List.length_map]; show _ * 1 ≤ _; omega) (by simp only [List.length_map]; omega) hB.size rfl ?_
          clear ha a; intro a w69 v68 ha hg ho68 hnl68 hpl68
          rw [← List.map_append, List.length_map] at ho68
          have hds_ho68_hovq : ∀ j, v68.ownBlock = some j → vq.ownBlock ≠ some j := fun j h1 h2 => (hpl68 j h1).elim (fun h => (fun j h1 h2 => hds_vq_vp j h2 h1) j h h2) (fun h => by have h4 := (fun j hj => (hovq.lt j hj).2) j h2; omega)
          have hds_ho68_hsv61 : ∀ j, v68.ownBlock = some j → v61.ownBlock ≠ some j := fun j h1 h2 => (hpl68 j h1).elim (fun h => (fun j h1 h2 => hds_hsv61_hovp j h2 h1) j h h2) (fun h => by have h4 := (fun j hj => hsv61.lt j hj) j h2; omega)
          have hds_ho68_ho61 : ∀ j, v68.ownBlock = some j → u61.ownBlock ≠ some j := fun j h1 h2 => (hpl68 j h1).elim (fun h => (fun j h1 h2 => hds_ho61_hovp j h2 h1) j h h2) (fun h => by have h4 := (fun j hj => (ho61.lt j hj).2) j h2; omega)
          have hds_ho68_hsv65 : ∀ j, v68.ownBlock = some j → v65.ownBlock ≠ some j := fun j h1 h2 => (hpl68 j h1).elim (fun h => (fun j h1 h2 => hds_hsv65_hovp j h2 h1) j h h2) (fun h => by have h4 := (fun j hj => hsv65.lt j hj) j h2; omega)
          have hds_ho68_ho65 : ∀ j, v68.ownBlock = some j → u65.ownBlock ≠ some j := fun j h1 h2 => (hpl68 j h1).elim (fun h => (fun j h1 h2 => hds_ho65_hovp j h2 h1) j h h2) (fun h => by have h4 := (fun j hj => (ho65.lt j hj).2) j h2; omega)
          have hne_68_b20 : ∀ j, v68.ownBlock = some j → j ≠ b20 := fun j hj => (hpl68 j hj).elim (fun h => hnb_vp_b20 j h) (fun h => by have := lt_of_block hb20; omega)
          have hne_68_b24 : ∀ j, v68.ownBlock = some j → j ≠ b24 := fun j hj => (hpl68 j hj).elim (fun h => hnb_vp_b24 j h) (fun h => by have := lt_of_block hb24; omega)
          replace hB := keepBR hg (own_row hovp) hB
          replace hb20 := keepOR hg (ne_of_ap hnb_vp_b20) hb20
          replace hb24 := keepOR hg (ne_of_ap hnb_vp_b24) hb24
          replace hovq := keepWR hg (fun j h1 h2 => hds_vq_vp j h2 h1) hovq
          replace hsv61 := keepSR hg (fun j h1 h2 => hds_hsv61_hovp j h2 h1) hsv61
          replace ho61 := keepWR hg (fun j h1 h2 => hds_ho61_hovp j h2 h1) ho61
          replace hsv65 := keepSR hg (fun j h1 h2 => hds_hsv65_hovp j h2 h1) hsv65
          replace ho65 := keepWR hg (fun j h1 h2 => hds_ho65_hovp j h2 h1) ho65
          clear hg
          refine sv ha (r_assign ha rfl) rfl rfl rfl ?_; clear ha a; intro a ha
          refine hK67 _ _ ?_; clear hK67 K66
          refine wp_seq_k fun K70 hK71 => ?_
          refine region ?_
          refine sv ha (r_move ha rfl) rfl rfl rfl ?_; clear ha a; intro a ha
          refine sv ha (r_move ha rfl) rfl rfl rfl ?_; clear ha a; intro a ha
          refine sapp (C := (((rdA 136 A2 q i).2.2)).map e8) (D := ((xrun 136 (q.getD i 0 : Int).toNat ((rdA 136 A2 q i).1, (rdA 136 A2 q i).2.1, [])).2.2).map e8) ha rfl rfl Tryd.underlying22 rfl rfl rfl rfl hovq (Sl.ofOwns ho65) (one_e8 _) (by simp only [List.length_map]; show _ * 1 ≤ _; omega) (by simp only [List.length_map]; omega) hB.size rfl ?_
          clear ha a; intro a w73 v72 ha hg ho72 hnl72 hpl72
          rw [← List.map_append, List.length_map] at ho72
          have hds_ho72_hsv61 : ∀ j, v72.ownBlock = some j → v61.ownBlock ≠ some j := fun j h1 h2 => (hpl72 j h1).elim (fun h => (fun j h1 h2 => hds_hsv61_hovq j h2 h1) j h h2) (fun h => by have h4 := (fun j hj => hsv61.lt j hj) j h2; omega)
          have hds_ho72_ho61 : ∀ j, v72.ownBlock = some j → u61.ownBlock ≠ some j := fun j h1 h2 => (hpl72 j h1).elim (fun h => (fun j h1 h2 => hds_ho61_hovq j h2 h1) j h h2) (fun h => by have h4 := (fun j hj => (ho61.lt j hj).2) j h2; omega)
          have hds_ho72_hsv65 : ∀ j, v72.ownBlock = some j → v65.ownBlock ≠ some j := fun j h1 h2 => (hpl72 j h1).elim (fun h => (fun j h1 h2 => hds_hsv65_hovq j h2 h1) j h h2) (fun h => by have h4 := (fun j hj => hsv65.lt j hj) j h2; omega)
          have hds_ho72_ho65 : ∀ j, v72.ownBlock = some j → u65.ownBlock ≠ some j := fun j h1 h2 => (hpl72 j h1).elim (fun h => (fun j h1 h2 => hds_ho65_hovq j h2 h1) j h h2) (fun h => by have h4 := (fun j hj => (ho65.lt j hj).2) j h2; omega)
          have hds_ho72_ho68 : ∀ j, v72.ownBlock = some j → v68.ownBlock ≠ some j := fun j h1 h2 => (hpl72 j h1).elim (fun h => (fun j h1 h2 => hds_ho68_hovq j h2 h1) j h h2) (fun h => by have h4 := (fun j hj => (ho68.lt j hj).2) j h2; omega)
          have hne_72_b20 : ∀ j, v72.ownBlock = some j → j ≠ b20 := fun j hj => (hpl72 j hj).elim (fun h => hnb_vq_b20 j h) (fun h => by have := lt_of_block hb20; omega)
          have hne_72_b24 : ∀ j, v72.ownBlock = some j → j ≠ b24 := fun j hj => (hpl72 j hj).elim (fun h => hnb_vq_b24 j h) (fun h => by have := lt_of_block hb24; omega)
          replace hB := keepBR hg (own_row hovq) hB
          replace hb20 := keepOR hg (ne_of_ap hnb_vq_b20) hb20
          replace hb24 := keepOR hg (ne_of_ap hnb_vq_b24) hb24
          replace hsv61 := keepSR hg (fun j h1 h2 => hds_hsv61_hovq j h2 h1) hsv61
          replace ho61 := keepWR hg (fun j h1 h2 => hds_ho61_hovq j h2 h1) ho61
          replace hsv65 := keepSR hg (fun j h1 h2 => hds_hsv65_hovq j h2 h1) hsv65
          replace ho65 := keepWR hg (fun j h1 h2 => hds_ho65_hovq j h2 h1) ho65
          replace ho68 := keepWR hg (fun j h1 h2 => hds_ho68_hovq j h2 h1) ho68
          clear hg
          refine sv ha (r_assign ha rfl) rfl rfl rfl ?_; clear ha a; intro a ha
          refine hK71 _ _ ?_; clear hK71 K70
          refine wp_seq_k fun K74 hK75 => ?_
          refine region ?_
          refine sv ha (r_assign ha rfl) rfl rfl rfl ?_; clear ha a; intro a ha
          refine hK75 _ _ ?_; clear hK75 K74
          refine wp_block ?_
          refine loopG (fun (k : Nat) a w => ∃ vu : Value, ∃ vv : Value, (k ≤ ((xrun 168 ((q.getD i 0) : Int).toNat ((rdA 168 A1 q i).1, (rdA 168 A1 q i).2.1, [])).2.2).length) ∧ (∀ j, vu.ownBlock = some j → j ≠ b20) ∧ (∀ j, vu.ownBlock = some j → j ≠ b24) ∧ (∀ j, vv.ownBlock = some j → j ≠ b20) ∧ (∀ j, vv.ownBlock = some j → j ≠ b24) ∧ (∀ j, vv.ownBlock = some j → vu.ownBlock ≠ some j) ∧ (∀ j, vu.ownBlock = some j → v61.ownBlock ≠ some j) ∧ (∀ j, vu.ownBlock = some j → v65.ownBlock ≠ some j) ∧ (∀ j, vu.ownBlock = some j → v68.ownBlock ≠ some j) ∧ (∀ j, vu.ownBlock = some j → v72.ownBlock ≠ some j) ∧ (∀ j, vv.ownBlock = some j → v61.ownBlock ≠ some j) ∧ (∀ j, vv.ownBlock = some j → v65.ownBlock ≠ some j) ∧ (∀ j, vv.ownBlock = some j → v68.ownBlock ≠ some j) ∧ (∀ j, vv.ownBlock = some j → v72.ownBlock ≠ some j) ∧ Has 100 [(0, v), (1, u), (15, .bool true), (5, .bool true), (16, .bool true), (17, .bool false), (18, v), (19, en b.length), (20, .bool (decide (b.length > 1000))), (21, v), (22, .pointer (some ⟨b20, 0, none⟩)), (6, .pointer (some ⟨b20, 0, none⟩)), (23, v), (24, .pointer (some ⟨b24, 0, none⟩)), (7, .pointer (some ⟨b24, 0, none⟩)), (10, en i), (8, v68), (9, v72), (25, en i), (26, u), (27, en q.length), (28, .bool true), (29, .bool true), (30, en i), (31, .bool (decide (i < 20))), (32, .bool (decide (i < 20))), (35, u), (36, en i), (37, ptrOf u i), (38, ei (q.getD i 0)), (11, ei (q.getD i 0)), (39, ei (q.getD i 0)), (40, .bool (decide (q.getD i 0 > 1000))), (41, .pointer (some ⟨b20, 0, none⟩)), (42, ei (q.getD i 0)), (43, u61), (12, vu), (44, .pointer (some ⟨b24, 0, none⟩)), (45, ei (q.getD i 0)), (46, u65), (13, vv), (47, vp), (48, u61), (49, v68), (50, vq), (51, u65), (52, v72), (14, en k)] a ∧ Below w0.heap.size w0 w ∧ w.heap[b20]? = some (.cells (((xrun 168 (q.getD i 0 : Int).toNat ((rdA 168 A1 q i).1, (rdA 168 A1 q i).2.1, [])).1).map e64 ++ [en 168, v61]).toArray 65 (0, 0)) ∧ w.heap[b24]? = some (.cells (((xrun 136 (q.getD i 0 : Int).toNat ((rdA 136 A2 q i).1, (rdA 136 A2 q i).2.1, [])).1).map e64 ++ [en 136, v65]).toArray 65 (0, 0)) ∧ Sl w v61 (((xrun 168 (q.getD i 0 : Int).toNat ((rdA 168 A1 q i).1, (rdA 168 A1 q i).2.1, [])).2.1).map e8) ∧ Sl w v65 (((xrun 136 (q.getD i 0 : Int).toNat ((rdA 136 A2 q i).1, (rdA 136 A2 q i).2.1, [])).2.1).map e8) ∧ w.ownsRow w0.heap.size 5 1 v68 ((((rdA 168 A1 q i).2.2).length) + (((xrun 168 (q.getD i 0 : Int).toNat ((rdA 168 A1 q i).1, (rdA 168 A1 q i).2.1, [])).2.2).length)) ((((rdA 168 A1 q i).2.2) ++ ((xrun 168 (q.getD i 0 : Int).toNat ((rdA 168 A1 q i).1, (rdA 168 A1 q i).2.1, [])).2.2)).map e8) ∧ w.ownsRow w0.heap.size 5 1 v72 ((((rdA 136 A2 q i).2.2).length) + (((xrun 136 (q.getD i 0 : Int).toNat ((rdA 136 A2 q i).1, (rdA 136 A2 q i).2.1, [])).2.2).length)) ((((rdA 136 A2 q i).2.2) ++ ((xrun 136 (q.getD i 0 : Int).toNat ((rdA 136 A2 q i).1, (rdA 136 A2 q i).2.1, [])).2.2)).map e8) ∧ w.ownsRow w0.heap.size 5 1 vu (xffA ((xrun 168 ((q.getD i 0) : Int).toNat ((rdA 168 A1 q i).1, (rdA 168 A1 q i).2.1, [])).2.2) k).length ((xffA ((xrun 168 ((q.getD i 0) : Int).toNat ((rdA 168 A1 q i).1, (rdA 168 A1 q i).2.1, [])).2.2) k).map e8) ∧ w.ownsRow w0.heap.size 5 1 vv (xffA ((xrun 136 ((q.getD i 0) : Int).toNat ((rdA 136 A2 q i).1, (rdA 136 A2 q i).2.1, [])).2.2) k).length ((xffA ((xrun 136 ((q.getD i 0) : Int).toNat ((rdA 136 A2 q i).1, (rdA 136 A2 q i).2.1, [])).2.2) k).map e8)) (fun k => ((xrun 168 ((q.getD i 0) : Int).toNat ((rdA 168 A1 q i).1, (rdA 168 A1 q i).2.1, [])).2.2).length - k) 0 ⟨u61, u65, (by omega), hnb_ho61_b20, hnb_ho61_b24, hnb_ho65_b20, hnb_ho65_b24, hds_ho65_ho61, hds_ho61_hsv61, (fun j h1 h2 => hds_hsv65_ho61 j h2 h1), (fun j h1 h2 => hds_ho68_ho61 j h2 h1), (fun j h1 h2 => hds_ho72_ho61 j h2 h1), hds_ho65_hsv61, hds_ho65_hsv65, (fun j h1 h2 => hds_ho68_ho65 j h2 h1), (fun j h1 h2 => hds_ho72_ho65 j h2 h1), ha.to [0, 1, 15, 5, 16, 17, 18, 19, 20, 21, 22, 6, 23, 24, 7, 10, 8, 9, 25, 26, 27, 28, 29, 30, 31, 32, 35, 36, 37, 38, 11, 39, 40, 41, 42, 43, 12, 44, 45, 46, 13, 47, 48, 49, 50, 51, 52, 14] rfl, hB, hb20, hb24, hsv61, hsv65, ho68, ho72, (own_castl (own_len ho61) rfl), (own_castl (own_len ho65) rfl)⟩ ?_
          clear ha a hB hb20 hb24 hsv61 ho61 hsv65 ho65 ho68 ho72
          intro k a w76 ⟨vu, vv, hkk, hnb_vu_b20, hnb_vu_b24, hnb_vv_b20, hnb_vv_b24, hds_vv_vu, hds_vu_hsv61, hds_vu_hsv65, hds_vu_ho68, hds_vu_ho72, hds_vv_hsv61, hds_vv_hsv65, hds_vv_ho68, hds_vv_ho72, ha, hB, hb20, hb24, hsv61, hsv65, ho68, ho72, hovu, hovv⟩
          refine wp_seq_k fun K77 hK78 => ?_
          refine wp_seq_k fun K79 hK80 => ?_
          refine region ?_
          refine sv ha (r_move ha rfl) rfl rfl rfl ?_; clear ha a; intro a ha
          refine sv ha (r_move ha rfl) rfl rfl rfl ?_; clear ha a; intro a ha
          refine sv ha (v_of (r_lenS ha Tryd.runUnderlying22 (Sl.ofOwns hovu) rfl (by rw [List.length_map])) (congrArg en (xffA_len _ _ : (xffA ((xrun 168 ((q.getD i 0) : Int).toNat ((rdA 168 A1 q i).1, (rdA 168 A1 q i).2.1, [])).2.2) k).length = ((xrun 168 ((q.getD i 0) : Int).toNat ((rdA 168 A1 q i).1, (rdA 168 A1 q i).2.1, [])).2.2).length))) rfl rfl rfl ?_; clear ha a; intro a ha
          refine sv ha (r_lss ha ((k : Nat) : Int) ((((xrun 168 ((q.getD i 0) : Int).toNat ((rdA 168 A1 q i).1, (rdA 168 A1 q i).2.1, [])).2.2).length : Nat) : Int) (decide (k < ((xrun 168 ((q.getD i 0) : Int).toNat ((rdA 168 A1 q i).1, (rdA 168 A1 q i).2.1, [])).2.2).length)) rfl rfl (decide_eq_decide.2 (by omega))) rfl rfl rfl ?_; clear ha a; intro a ha
          refine hK80 _ _ ?_; clear hK80 K79
          refine cond_if ha rfl (fun hc81 => ?_) (fun hc81 => ?_)
          · skip
            replace hc81 := of_decide_eq_true hc81
            refine wp_skip ?_
            refine hK78 _ _ ?_; clear hK78 K77
            refine wp_seq_k fun K82 hK83 => ?_
            refine wp_block ?_
            refine wp_seq_k fun K84 hK85 => ?_
            refine region ?_
            refine sv ha (r_move ha rfl) rfl rfl rfl ?_; clear ha a; intro a ha
            refine sv ha (r_move ha rfl) rfl rfl rfl ?_; clear ha a; intro a ha
            refine sv ha (r_move ha rfl) rfl rfl rfl ?_; clear ha a; intro a ha
            refine sv ha (r_move ha rfl) rfl rfl rfl ?_; clear ha a; intro a ha
            refine sv ha (r_indexS (i := k) ha Tryd.runUnderlying22 Tryd.sizeOf5 (Sl.ofOwns hovu) (C := (xffA ((xrun 168 ((q.getD i 0) : Int).toNat ((rdA 168 A1 q i).1, (rdA 168 A1 q i).2.1, [])).2.2) k).map e8) rfl rfl (by rw [List.length_map, xffA_len]; omega)) rfl rfl rfl ?_; clear ha a; intro a ha
            refine sv ha (r_loadS ha rfl Tryd.isAgg5 (Sl.ofOwns hovu) (get_map e8 (xffA ((xrun 168 ((q.getD i 0) : Int).toNat ((rdA 168 A1 q i).1, (rdA 168 A1 q i).2.1, [])).2.2) k) 0 k (by rw [xffA_len]; omega))) rfl rfl rfl ?_; clear ha a; intro a ha
            refine sv ha (rb_xor ha ((xffA ((xrun 168 ((q.getD i 0) : Int).toNat ((rdA 168 A1 q i).1, (rdA 168 A1 q i).2.1, [])).2.2) k).getD k 0) (255 : UInt8) rfl rfl) rfl rfl rfl ?_; clear ha a; intro a ha
            refine sv ha (r_indexS (i := k) ha Tryd.runUnderlying22 Tryd.sizeOf5 (Sl.ofOwns hovu) (C := (xffA ((xrun 168 ((q.getD i 0) : Int).toNat ((rdA 168 A1 q i).1, (rdA 168 A1 q i).2.1, [])).2.2) k).map e8) rfl rfl (by rw [List.length_map, xffA_len]; omega)) rfl rfl rfl ?_; clear ha a; intro a ha
            refine sstoreO ha (v := e8 (((xffA ((xrun 168 ((q.getD i 0) : Int).toNat ((rdA 168 A1 q i).1, (rdA 168 A1 q i).2.1, [])).2.2) k).getD k 0) ^^^ (255 : UInt8))) rfl rfl rfl rfl Tryd.sizeOf5 hovu (by rw [List.length_map, xffA_len]; omega) ?_
            clear ha a; intro a w86 ha hg hovu'
            rw [set_map] at hovu'
            replace hB := keepBR hg (own_row hovu) hB
            replace hb20 := keepOR hg (ne_of_ap hnb_vu_b20) hb20
            replace hb24 := keepOR hg (ne_of_ap hnb_vu_b24) hb24
            replace hsv61 := keepSR hg hds_vu_hsv61 hsv61
            replace hsv65 := keepSR hg hds_vu_hsv65 hsv65
            replace ho68 := keepWR hg hds_vu_ho68 ho68
            replace ho72 := keepWR hg hds_vu_ho72 ho72
            replace hovv := keepWR hg (fun j h1 h2 => hds_vv_vu j h2 h1) hovv
            clear hg; clear hovu; have hovu := hovu'; clear hovu'
            refine hK85 _ _ ?_; clear hK85 K84
            refine region ?_
            refine sv ha (r_move ha rfl) rfl rfl rfl ?_; clear ha a; intro a ha
            refine sv ha (r_move ha rfl) rfl rfl rfl ?_; clear ha a; intro a ha
            refine sv ha (r_move ha rfl) rfl rfl rfl ?_; clear ha a; intro a ha
            refine sv ha (r_move ha rfl) rfl rfl rfl ?_; clear ha a; intro a ha
            refine sv ha (r_indexS (i := k) ha Tryd.runUnderlying22 Tryd.sizeOf5 (Sl.ofOwns hovv) (C := (xffA ((xrun 136 ((q.getD i 0) : Int).toNat ((rdA 136 A2 q i).1, (rdA 136 A2 q i).2.1, [])).2.2) k).map e8) rfl rfl (by rw [List.length_map, xffA_len]; omega)) rfl rfl rfl ?_; clear ha a; intro a ha
            refine sv ha (r_loadS ha rfl Tryd.isAgg5 (Sl.ofOwns hovv) (get_map e8 (xffA ((xrun 136 ((q.getD i 0) : Int).toNat ((rdA 136 A2 q i).1, (rdA 136 A2 q i).2.1, [])).2.2) k) 0 k (by rw [xffA_len]; omega))) rfl rfl rfl ?_; clear ha a; intro a ha
            refine sv ha (rb_xor ha ((xffA ((xrun 136 ((q.getD i 0) : Int).toNat ((rdA 136 A2 q i).1, (rdA 136 A2 q i).2.1, [])).2.2) k).getD k 0) (255 : UInt8) rfl rfl) rfl rfl rfl ?_; clear ha a; intro a ha
            refine sv ha (r_indexS (i := k) ha Tryd.runUnderlying22 Tryd.sizeOf5 (Sl.ofOwns hovv) (C := (xffA ((xrun 136 ((q.getD i 0) : Int).toNat ((rdA 136 A2 q i).1, (rdA 136 A2 q i).2.1, [])).2.2) k).map e8) rfl rfl (by rw [List.length_map, xffA_len]; omega)) rfl rfl rfl ?_; clear ha a; intro a ha
            refine sstoreO ha (v := e8 (((xffA ((xrun 136 ((q.getD i 0) : Int).toNat ((rdA 136 A2 q i).1, (rdA 136 A2 q i).2.1, [])).2.2) k).getD k 0) ^^^ (255 : UInt8))) rfl rfl rfl rfl Tryd.sizeOf5 hovv (by rw [List.length_map, xffA_len]; omega) ?_
            clear ha a; intro a w87 ha hg hovv'
            rw [set_map] at hovv'
            replace hB := keepBR hg (own_row hovv) hB
            replace hb20 := keepOR hg (ne_of_ap hnb_vv_b20) hb20
            replace hb24 := keepOR hg (ne_of_ap hnb_vv_b24) hb24
            replace hsv61 := keepSR hg hds_vv_hsv61 hsv61
            replace hsv65 := keepSR hg hds_vv_hsv65 hsv65
            replace ho68 := keepWR hg hds_vv_ho68 ho68
            replace ho72 := keepWR hg hds_vv_ho72 ho72
            replace hovu := keepWR hg hds_vv_vu hovu
            clear hg; clear hovv; have hovv := hovv'; clear hovv'
            refine hK83 _ _ ?_; clear hK83 K82
            refine region ?_
            refine sv ha (r_move ha rfl) rfl rfl rfl ?_; clear ha a; intro a ha
            refine sv ha (rn_add ha k 1 rfl rfl (by omega)) rfl rfl rfl ?_; clear ha a; intro a ha
            refine sv ha (r_assign ha rfl) rfl rfl rfl ?_; clear ha a; intro a ha
            exact ⟨k + 1, by omega, vu, vv, (by omega), hnb_vu_b20, hnb_vu_b24, hnb_vv_b20, hnb_vv_b24, hds_vv_vu, hds_vu_hsv61, hds_vu_hsv65, hds_vu_ho68, hds_vu_ho72, hds_vv_hsv61, hds_vv_hsv65, hds_vv_ho68, hds_vv_ho72, ha.to [0, 1, 15, 5, 16, 17, 18, 19, 20, 21, 22, 6, 23, 24, 7, 10, 8, 9, 25, 26, 27, 28, 29, 30, 31, 32, 35, 36, 37, 38, 11, 39, 40, 41, 42, 43, 12, 44, 45, 46, 13, 47, 48, 49, 50, 51, 52, 14] rfl, hB, hb20, hb24, hsv61, hsv65, ho68, ho72, (own_castl (own_len hovu) rfl), (own_castl (own_len hovv) rfl)⟩
          · skip
            replace hc81 := of_decide_eq_false hc81
            refine wp_exit ?_
            obtain rfl : k = ((xrun 168 ((q.getD i 0) : Int).toNat ((rdA 168 A1 q i).1, (rdA 168 A1 q i).2.1, [])).2.2).length := by omega
            refine hK48 _ _ ?_; clear hK78 K77 hK48 K47
            refine region ?_
            refine sv ha (r_move ha rfl) rfl rfl rfl ?_; clear ha a; intro a ha
            refine sv ha (rn_add ha i 1 rfl rfl (by omega)) rfl rfl rfl ?_; clear ha a; intro a ha
            refine sv ha (r_assign ha rfl) rfl rfl rfl ?_; clear ha a; intro a ha
            exact ⟨i + 1, by omega, v68, v72, v61, v65, (by omega), (by rw [sumQ]; omega), hne_68_b20, hne_68_b24, hne_72_b20, hne_72_b24, hdv61, hnb_hsv61_b20, hnb_hsv61_b24, hdv65, hnb_hsv65_b20, hnb_hsv65_b24, hds_ho72_ho68, (fun j h1 h2 => hds_ho68_hsv61 j h2 h1), (fun j h1 h2 => hds_ho72_hsv61 j h2 h1), (fun j h1 h2 => hds_ho68_hsv65 j h2 h1), (fun j h1 h2 => hds_ho72_hsv65 j h2 h1), ha.to [0, 1, 15, 5, 16, 17, 18, 19, 20, 21, 22, 6, 23, 24, 7, 10, 8, 9] rfl, hB, (by rw [rdA_sa]; exact hb20), (by rw [rdA_sa]; exact hb24), (own_castl (own_len ho68) (rdA_so _ _ _ _).symm), (own_castl (own_len ho72) (rdA_so _ _ _ _).symm), (Sl.castM (l := (xrun 168 (q.getD i 0 : Int).toNat ((rdA 168 A1 q i).1, (rdA 168 A1 q i).2.1, [])).2.1) hsv61 (rdA_sl _ _ _ _).symm), (Sl.castM (l := (xrun 136 (q.getD i 0 : Int).toNat ((rdA 136 A2 q i).1, (rdA 136 A2 q i).2.1, [])).2.1) hsv65 (rdA_sl _ _ _ _).symm)⟩
      · skip
        replace hc46 := of_decide_eq_false hc46
        refine wp_exit ?_
        obtain rfl : i = (min q.length 20) := by omega
        refine hK30 _ _ ?_; clear hK35 K34 hK30 K29
        refine wp_seq_k fun K88 hK89 => ?_
        refine regionD (S := fun w => Below w0.heap.size w0 w ∧ w.heap[b20]? = some (.cells (((rdA 168 A1 q (min q.length 20)).1).map e64 ++ [en 168, vl1]).toArray 65 (0, 0)) ∧ w.heap[b24]? = some (.cells (((rdA 136 A2 q (min q.length 20)).1).map e64 ++ [en 136, vl2]).toArray 65 (0, 0)) ∧ w.ownsRow w0.heap.size 5 1 vp ((rdA 168 A1 q (min q.length 20)).2.2).length (((rdA 168 A1 q (min q.length 20)).2.2).map e8) ∧ w.ownsRow w0.heap.size 5 1 vq ((rdA 136 A2 q (min q.length 20)).2.2).length (((rdA 136 A2 q (min q.length 20)).2.2).map e8) ∧ Sl w vl1 (((rdA 168 A1 q (min q.length 20)).2.1).map e8) ∧ Sl w vl2 (((rdA 136 A2 q (min q.length 20)).2.1).map e8) ∧ True) [] [0, 1, 2, 3, 4, 5, 6, 7, 8, 9, 10, 12, 13, 14, 15, 16, 17, 18, 19, 20, 22, 23, 24, 25] [0, 1, 2, 3, 4, 5, 6, 7, 8, 9, 10, 11, 12, 13, 14, 15, 16, 17, 18, 19, 20, 21, 22, 23, 24, 25] mixed (by kernel_rfl) (fun w hg => ⟨keepB0 hg hB, keepO0 hg hb20, keepO0 hg hb24, keepW0 hg hovp, keepW0 hg hovq, keepS0 hg hsl1, keepS0 hg hsl2, trivial⟩) ?_
        intro w90 hg
        replace hB := keepB0 hg hB
        replace hb20 := keepO0 hg hb20
        replace hb24 := keepO0 hg hb24
        replace hovp := keepW0 hg hovp
        replace hovq := keepW0 hg hovq
        replace hsl1 := keepS0 hg hsl1
        replace hsl2 := keepS0 hg hsl2
        clear hg
        refine cv ha rfl rfl (fun w _ => r_move ha rfl) rfl rfl rfl ?_; clear ha a; intro a ha
        refine cv ha rfl rfl (fun w ⟨hB, hb20, hb24, hovp, hovq, hsl1, hsl2, _⟩ => r_lenS ha Tryd.runUnderlying22 (Sl.ofOwns hovp) rfl (by rw [List.length_map])) rfl rfl rfl ?_; clear ha a; intro a ha
        refine cv ha rfl rfl (fun w _ => r_move ha rfl) rfl rfl rfl ?_; clear ha a; intro a ha
        refine cv ha rfl rfl (fun w ⟨hB, hb20, hb24, hovp, hovq, hsl1, hsl2, _⟩ => r_lenS ha Tryd.runUnderlying22 (Sl.ofOwns hovq) rfl (by rw [List.length_map])) rfl rfl rfl ?_; clear ha a; intro a ha
        refine cv ha rfl rfl (fun w _ => r_eql ha ((((rdA 168 A1 q (min q.length 20)).2.2).length : Nat) : Int) ((((rdA 136 A2 q (min q.length 20)).2.2).length : Nat) : Int) true rfl rfl (decide_eq_true (by rw [rdA_out _ (by omega) _ hLA1, rdA_out _ (by omega) _ hLA2]))) rfl rfl rfl ?_; clear ha a; intro a ha
        refine cv ha rfl rfl (fun w _ => r_move ha rfl) rfl rfl rfl ?_; clear ha a; intro a ha
        refine cvg ha rfl rfl (fun w _ => r_move ha rfl) rfl rfl rfl rfl rfl ?_; clear ha a; intro a ha
        refine cvg ha rfl rfl (fun w ⟨hB, hb20, hb24, hovp, hovq, hsl1, hsl2, _⟩ => r_str (l := (rdA 168 A1 q (min q.length 20)).2.2) ha Tryd.underlying22 Tryd.underlying5 Tryd.underlying9 rfl (Sl.ofOwns hovp)) rfl rfl rfl rfl rfl ?_; clear ha a; intro a ha
        refine cvg ha rfl rfl (fun w _ => r_move ha rfl) rfl rfl rfl rfl rfl ?_; clear ha a; intro a ha
        refine cvg ha rfl rfl (fun w _ => r_move ha rfl) rfl rfl rfl rfl rfl ?_; clear ha a; intro a ha
        refine cvg ha rfl rfl (fun w ⟨hB, hb20, hb24, hovp, hovq, hsl1, hsl2, _⟩ => r_lenS ha Tryd.runUnderlying22 (Sl.ofOwns hovp) rfl (by rw [List.length_map])) rfl rfl rfl rfl rfl ?_; clear ha a; intro a ha
        refine ccgx ha rfl rfl (r_call ha [v, en (((rdA 168 A1 q (min q.length 20)).2.2).length)] rfl Tryd.call28) rfl rfl rfl rfl rfl (c_rshake128 v b (((rdA 168 A1 q (min q.length 20)).2.2).length) _ (hs.below hB) (by omega) (by omega)) ?_
        clear ha a
        rintro e w91 ⟨u92, rfl, hBc, hs92, hd92⟩
        have hg := grown_call hBc; clear hBc
        have hnb_hs92_b20 : ∀ j, u92.ownBlock = some j → j ≠ b20 := fun j hj => by have h1 := hd92 j hj; have h2 := lt_of_block hb20; omega
        have hnb_hs92_b24 : ∀ j, u92.ownBlock = some j → j ≠ b24 := fun j hj => by have h1 := hd92 j hj; have h2 := lt_of_block hb24; omega
        have hds_hs92_hovp : ∀ j, u92.ownBlock = some j → vp.ownBlock ≠ some j := fun j h1 h2 => by have h3 := hd92 j h1; have h4 := (fun j hj => (hovp.lt j hj).2) j h2; omega
        have hds_hs92_hovq : ∀ j, u92.ownBlock = some j → vq.ownBlock ≠ some j := fun j h1 h2 => by have h3 := hd92 j h1; have h4 := (fun j hj => (hovq.lt j hj).2) j h2; omega
        have hds_hs92_hsl1 : ∀ j, u92.ownBlock = some j → vl1.ownBlock ≠ some j := fun j h1 h2 => by have h3 := hd92 j h1; have h4 := (fun j hj => hsl1.lt j hj) j h2; omega
        have hds_hs92_hsl2 : ∀ j, u92.ownBlock = some j → vl2.ownBlock ≠ some j := fun j h1 h2 => by have h3 := hd92 j h1; have h4 := (fun j hj => hsl2.lt j hj) j h2; omega
        replace hd92 : ∀ j, u92.ownBlock = some j → w0.heap.size ≤ j := fun j hj => Nat.le_trans hB.size (hd92 j hj)
        replace hB := keepB0 hg hB
        replace hb20 := keepO0 hg hb20
        replace hb24 := keepO0 hg hb24
        replace hovp := keepW0 hg hovp
        replace hovq := keepW0 hg hovq
        replace hsl1 := keepS0 hg hsl1
        replace hsl2 := keepS0 hg hsl2
        clear hg
        refine ⟨fun w => (Sl w u92 ((sqz (absR 168 31 noughts b) 168 (((rdA 168 A1 q (min q.length 20)).2.2).length)).map e8)) ∧ Below w0.heap.size w0 w ∧ w.heap[b20]? = some (.cells (((rdA 168 A1 q (min q.length 20)).1).map e64 ++ [en 168, vl1]).toArray 65 (0, 0)) ∧ w.heap[b24]? = some (.cells (((rdA 136 A2 q (min q.length 20)).1).map e64 ++ [en 136, vl2]).toArray 65 (0, 0)) ∧ w.ownsRow w0.heap.size 5 1 vp ((rdA 168 A1 q (min q.length 20)).2.2).length (((rdA 168 A1 q (min q.length 20)).2.2).map e8) ∧ w.ownsRow w0.heap.size 5 1 vq ((rdA 136 A2 q (min q.length 20)).2.2).length (((rdA 136 A2 q (min q.length 20)).2.2).map e8) ∧ Sl w vl1 (((rdA 168 A1 q (min q.length 20)).2.1).map e8) ∧ Sl w vl2 (((rdA 136 A2 q (min q.length 20)).2.1).map e8) ∧ True, fun w h => h.2, fun _ => ⟨hs92, hB, hb20, hb24, hovp, hovq, hsl1, hsl2, trivial⟩, _, rfl, ?_⟩; intro a ha
        refine cvg ha rfl rfl (fun w ⟨hs92, hB, hb20, hb24, hovp, hovq, hsl1, hsl2, _⟩ => r_str (l := sqz (absR 168 31 noughts b) 168 (((rdA 168 A1 q (min q.length 20)).2.2).length)) ha Tryd.underlying22 Tryd.underlying5 Tryd.underlying9 rfl hs92) rfl rfl rfl rfl rfl ?_; clear ha a; intro a ha
        refine cvg ha rfl rfl (fun w _ => r_eqlS ha ((rdA 168 A1 q (min q.length 20)).2.2) (sqz (absR 168 31 noughts b) 168 (((rdA 168 A1 q (min q.length 20)).2.2).length)) true rfl rfl (decide_eq_true (by rw [hA1]; exact rdA_eq _ (by omega) _ hLA1 _ _))) rfl rfl rfl rfl rfl ?_; clear ha a; intro a ha
        refine cv ha rfl rfl (fun w _ => r_pick ha true rfl rfl) rfl rfl rfl ?_; clear ha a; intro a ha
        refine cv ha rfl rfl (fun w _ => r_move ha rfl) rfl rfl rfl ?_; clear ha a; intro a ha
        refine cvg ha rfl rfl (fun w _ => r_move ha rfl) rfl rfl rfl rfl rfl ?_; clear ha a; intro a ha
        refine cvg ha rfl rfl (fun w ⟨hs92, hB, hb20, hb24, hovp, hovq, hsl1, hsl2, _⟩ => r_str (l := (rdA 136 A2 q (min q.length 20)).2.2) ha Tryd.underlying22 Tryd.underlying5 Tryd.underlying9 rfl (Sl.ofOwns hovq)) rfl rfl rfl rfl rfl ?_; clear ha a; intro a ha
        refine cvg ha rfl rfl (fun w _ => r_move ha rfl) rfl rfl rfl rfl rfl ?_; clear ha a; intro a ha
        refine cvg ha rfl rfl (fun w _ => r_move ha rfl) rfl rfl rfl rfl rfl ?_; clear ha a; intro a ha
        refine cvg ha rfl rfl (fun w ⟨hs92, hB, hb20, hb24, hovp, hovq, hsl1, hsl2, _⟩ => r_lenS ha Tryd.runUnderlying22 (Sl.ofOwns hovq) rfl (by rw [List.length_map])) rfl rfl rfl rfl rfl ?_; clear ha a; intro a ha
        refine ccgx ha rfl rfl (r_call ha [v, en (((rdA 136 A2 q (min q.length 20)).2.2).length)] rfl Tryd.call29) rfl rfl rfl rfl rfl (c_rshake256 v b (((rdA 136 A2 q (min q.length 20)).2.2).length) _ (hs.below hB) (by omega) (by omega)) ?_
        clear ha a
        rintro e w93 ⟨u94, rfl, hBc, hs94, hd94⟩
        have hg := grown_call hBc; clear hBc
        have hnb_hs94_b20 : ∀ j, u94.ownBlock = some j → j ≠ b20 := fun j hj => by have h1 := hd94 j hj; have h2 := lt_of_block hb20; omega
        have hnb_hs94_b24 : ∀ j, u94.ownBlock = some j → j ≠ b24 := fun j hj => by have h1 := hd94 j hj; have h2 := lt_of_block hb24; omega
        have hds_hs94_hovp : ∀ j, u94.ownBlock = some j → vp.ownBlock ≠ some j := fun j h1 h2 => by have h3 := hd94 j h1; have h4 := (fun j hj => (hovp.lt j hj).2) j h2; omega
        have hds_hs94_hovq : ∀ j, u94.ownBlock = some j → vq.ownBlock ≠ some j := fun j h1 h2 => by have h3 := hd94 j h1; have h4 := (fun j hj => (hovq.lt j hj).2) j h2; omega
        have hds_hs94_hsl1 : ∀ j, u94.ownBlock = some j → vl1.ownBlock ≠ some j := fun j h1 h2 => by have h3 := hd94 j h1; have h4 := (fun j hj => hsl1.lt j hj) j h2; omega
        have hds_hs94_hsl2 : ∀ j, u94.ownBlock = some j → vl2.ownBlock ≠ some j := fun j h1 h2 => by have h3 := hd94 j h1; have h4 := (fun j hj => hsl2.lt j hj) j h2; omega
        have hds_hs94_hs92 : ∀ j, u94.ownBlock = some j → u92.ownBlock ≠ some j := fun j h1 h2 => by have h3 := hd94 j h1; have h4 := (fun j hj => hs92.lt j hj) j h2; omega
        replace hd94 : ∀ j, u94.ownBlock = some j → w0.heap.size ≤ j := fun j hj => Nat.le_trans hB.size (hd94 j hj)
        replace hB := keepB0 hg hB
        replace hb20 := keepO0 hg hb20
        replace hb24 := keepO0 hg hb24
        replace hovp := keepW0 hg hovp
        replace hovq := keepW0 hg hovq
        replace hsl1 := keepS0 hg hsl1
        replace hsl2 := keepS0 hg hsl2
        replace hs92 := keepS0 hg hs92
        clear hg
        refine ⟨fun w => (Sl w u94 ((sqz (absR 136 31 noughts b) 136 (((rdA 136 A2 q (min q.length 20)).2.2).length)).map e8)) ∧ (Sl w u92 ((sqz (absR 168 31 noughts b) 168 (((rdA 168 A1 q (min q.length 20)).2.2).length)).map e8)) ∧ Below w0.heap.size w0 w ∧ w.heap[b20]? = some (.cells (((rdA 168 A1 q (min q.length 20)).1).map e64 ++ [en 168, vl1]).toArray 65 (0, 0)) ∧ w.heap[b24]? = some (.cells (((rdA 136 A2 q (min q.length 20)).1).map e64 ++ [en 136, vl2]).toArray 65 (0, 0)) ∧ w.ownsRow w0.heap.size 5 1 vp ((rdA 168 A1 q (min q.length 20)).2.2).length (((rdA 168 A1 q (min q.length 20)).2.2).map e8) ∧ w.ownsRow w0.heap.size 5 1 vq ((rdA 136 A2 q (min q.length 20)).2.2).length (((rdA 136 A2 q (min q.length 20)).2.2).map e8) ∧ Sl w vl1 (((rdA 168 A1 q (min q.length 20)).2.1).map e8) ∧ Sl w vl2 (((rdA 136 A2 q (min q.length 20)).2.1).map e8) ∧ True, fun w h => h.2, fun _ => ⟨hs94, hs92, hB, hb20, hb24, hovp, hovq, hsl1, hsl2, trivial⟩, _, rfl, ?_⟩; intro a ha
        refine cvg ha rfl rfl (fun w ⟨hs94, hs92, hB, hb20, hb24, hovp, hovq, hsl1, hsl2, _⟩ => r_str (l := sqz (absR 136 31 noughts b) 136 (((rdA 136 A2 q (min q.length 20)).2.2).length)) ha Tryd.underlying22 Tryd.underlying5 Tryd.underlying9 rfl hs94) rfl rfl rfl rfl rfl ?_; clear ha a; intro a ha
        refine cvg ha rfl rfl (fun w _ => r_eqlS ha ((rdA 136 A2 q (min q.length 20)).2.2) (sqz (absR 136 31 noughts b) 136 (((rdA 136 A2 q (min q.length 20)).2.2).length)) true rfl rfl (decide_eq_true (by rw [hA2]; exact rdA_eq _ (by omega) _ hLA2 _ _))) rfl rfl rfl rfl rfl ?_; clear ha a; intro a ha
        refine cv ha rfl rfl (fun w _ => r_pick ha true rfl rfl) rfl rfl rfl ?_; clear ha a; intro a ha
        refine cv ha rfl rfl (fun w _ => r_assign ha rfl) rfl rfl rfl ?_; clear ha a; intro a ha
        refine cfin (hK89 _ _ ?_); clear hK89 K88
        refine wp_ret ?_
        repeat (first | (with_reducible refine t_ret ?_) | (with_reducible refine x_ret ?_))
        exact ret1 ha Tryd.results5 rfl ⟨rfl, hB⟩
end Go.Proofs.YtdhgkfmniebghaaDoor
