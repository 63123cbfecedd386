/- WALKS written by gen.py (own program) out of specs. -/
import Derived.Test.YtdhgkfmniebghaaDoorQ6
import Derived.Test.YtdhgkfmniebghaaDoorSx
namespace Go.Proofs.YtdhgkfmniebghaaDoor
open Go.RowKit Go.Rx
set_option maxRecDepth 100000
set_option maxHeartbeats 4000000
set_option linter.unusedVariables false

theorem law_SpongeNone (v : Value) (b : List UInt8) (n : Int) (w0 : World) (hs : Sl w0 v (b.map e8)) (hG : Glob w0) :
    Calls Tryd.prog 6 #[v, ei n] w0 fun e w' => e = .returned (.bool true) ∧ Below w0.heap.size w0 w' := by
  refine enter (args := [_, _]) Tryd.func6 rfl Tryd.ntmps6 rfl ?_
  intro a ha
  have hB := Below.refl w0.heap.size w0
  refine wp_seq_k fun K1 hK2 => ?_
  refine region ?_
  refine sv ha (r_assign ha rfl) rfl rfl rfl ?_; clear ha a; intro a ha
  refine hK2 _ _ ?_; clear hK2 K1
  refine wp_seq_k fun K3 hK4 => ?_
  refine region ?_
  refine sc ha (r_call ha [] rfl Tryd.call17) rfl rfl rfl (c_awake03  _ (glob_keep hG hB)) ?_
  clear ha a
  rintro e w5 ⟨rfl, hBc⟩
  have hg := grown_call hBc; clear hBc
  replace hB := keepB0 hg hB
  clear hg
  refine ⟨_, rfl, ?_⟩; intro a ha
  refine sv ha (r_assign ha rfl) rfl rfl rfl ?_; clear ha a; intro a ha
  refine hK4 _ _ ?_; clear hK4 K3
  refine wp_seq_k fun K6 hK7 => ?_
  refine wp_seq_k fun K8 hK9 => ?_
  refine region ?_
  refine sv ha (r_move ha rfl) rfl rfl rfl ?_; clear ha a; intro a ha
  refine sv ha (r_not ha true false rfl rfl) rfl rfl rfl ?_; clear ha a; intro a ha
  refine hK9 _ _ ?_; clear hK9 K8
  refine cond_f ha rfl ?_
  refine wp_skip ?_
  refine hK7 _ _ ?_; clear hK7 K6
  refine wp_seq_k fun K10 hK11 => ?_
  refine wp_seq_k fun K12 hK13 => ?_
  refine region ?_
  refine sv ha (r_move ha rfl) rfl rfl rfl ?_; clear ha a; intro a ha
  refine sv ha (r_lenS ha Tryd.runUnderlying22 (hs.below hB) rfl (by rw [List.length_map])) rfl rfl rfl ?_; clear ha a; intro a ha
  refine sv ha (r_gtr ha ((b.length : Nat) : Int) 1000 (decide (b.length > 1000)) rfl rfl (decide_eq_decide.2 (by omega))) rfl rfl rfl ?_; clear ha a; intro a ha
  refine sv ha (r_move ha rfl) rfl rfl rfl ?_; clear ha a; intro a ha
  cases hq14 : (decide (b.length > 1000))
  all_goals rw [hq14] at ha
  case false =>
    replace hq14 := of_decide_eq_false hq14
    refine svg ha (r_move ha rfl) rfl rfl rfl rfl rfl ?_; clear ha a; intro a ha
    refine svg ha (r_gtr ha n 1000 (decide (n > 1000)) rfl rfl (decide_eq_decide.2 (by omega))) rfl rfl rfl rfl rfl ?_; clear ha a; intro a ha
    refine sv ha (r_pick ha false rfl rfl) rfl rfl rfl ?_; clear ha a; intro a ha
    refine hK13 _ _ ?_; clear hK13 K12
    refine cond_if ha rfl (fun hc15 => ?_) (fun hc15 => ?_)
    · skip
      replace hc15 := of_decide_eq_true hc15
      refine wp_seq_k fun K16 hK17 => ?_
      refine region ?_
      refine sv ha (r_assign ha rfl) rfl rfl rfl ?_; clear ha a; intro a ha
      refine hK17 _ _ ?_; clear hK17 K16
      refine wp_ret ?_
      repeat (first | (with_reducible refine t_ret ?_) | (with_reducible refine x_ret ?_))
      exact ret1 ha Tryd.results6 rfl ⟨rfl, hB⟩
    · skip
      replace hc15 := of_decide_eq_false hc15
      refine wp_skip ?_
      refine hK11 _ _ ?_; clear hK11 K10
      refine wp_seq_k fun K18 hK19 => ?_
      refine region ?_
      refine sv ha (r_assign ha rfl) rfl rfl rfl ?_; clear ha a; intro a ha
      refine hK19 _ _ ?_; clear hK19 K18
      refine wp_seq_k fun K20 hK21 => ?_
      refine region ?_
      refine sv ha (r_move ha rfl) rfl rfl rfl ?_; clear ha a; intro a ha
      refine sc ha (r_call ha [v] rfl Tryd.call26) rfl rfl rfl (c_shake256 v b _ (hs.below hB) (glob_keep hG hB)) ?_
      clear ha a
      rintro e w22 ⟨b23, u23, rfl, hBc, hb23, hge23, hs23, hd23, hnx23⟩
      have hg := grown_call hBc; clear hBc
      have hz23 : w0.heap.size ≤ b23 := Nat.le_trans hB.size hge23
      replace hd23 : ∀ j, u23.ownBlock = some j → w0.heap.size ≤ j := fun j hj => Nat.le_trans hB.size (hd23 j hj)
      replace hB := keepB0 hg hB
      clear hg hge23
      refine ⟨_, rfl, ?_⟩; intro a ha
      refine sv ha (r_assign ha rfl) rfl rfl rfl ?_; clear ha a; intro a ha
      refine hK21 _ _ ?_; clear hK21 K20
      refine wp_seq_k fun K24 hK25 => ?_
      refine region ?_
      refine sv ha (r_move ha rfl) rfl rfl rfl ?_; clear ha a; intro a ha
      refine sc ha (r_call ha [v] rfl Tryd.call26) rfl rfl rfl (c_shake256 v b _ (hs.below hB) (glob_keep hG hB)) ?_
      clear ha a
      rintro e w26 ⟨b27, u27, rfl, hBc, hb27, hge27, hs27, hd27, hnx27⟩
      have hg := grown_call hBc; clear hBc
      have hnb_hs27_b23 : ∀ j, u27.ownBlock = some j → j ≠ b23 := fun j hj => by have h1 := hd27 j hj; have h2 := lt_of_block hb23; omega
      have hds_hs27_hs23 : ∀ j, u27.ownBlock = some j → u23.ownBlock ≠ some j := fun j h1 h2 => by have h3 := hd27 j h1; have h4 := (fun j hj => hs23.lt j hj) j h2; omega
      have hz27 : w0.heap.size ≤ b27 := Nat.le_trans hB.size hge27
      have hne_hs23_b27 : ∀ j, Value.ownBlock u23 = some j → j ≠ b27 := fun j hj => by have := hs23.lt j hj; omega
      have hq23_27 : b23 < b27 := Nat.lt_of_lt_of_le (lt_of_block hb23) hge27
      replace hd27 : ∀ j, u27.ownBlock = some j → w0.heap.size ≤ j := fun j hj => Nat.le_trans hB.size (hd27 j hj)
      replace hB := keepB0 hg hB
      replace hb23 := keepO0 hg hb23
      replace hs23 := keepS0 hg hs23
      clear hg hge27
      refine ⟨_, rfl, ?_⟩; intro a ha
      refine sv ha (r_assign ha rfl) rfl rfl rfl ?_; clear ha a; intro a ha
      refine hK25 _ _ ?_; clear hK25 K24
      refine wp_seq_k fun K28 hK29 => ?_
      refine region ?_
      refine sv ha (r_move ha rfl) rfl rfl rfl ?_; clear ha a; intro a ha
      refine sv ha (r_move ha rfl) rfl rfl rfl ?_; clear ha a; intro a ha
      refine sc ha (r_call ha [.pointer (some ⟨b23, 0, none⟩), ei n] rfl Tryd.call27) rfl rfl rfl (c_read b23 (absR 136 31 noughts b) 136 u23 (tk (absR 136 31 noughts b) 136) n _ hb23 (by rw [absR_len]) hs23 hnx23 (by omega) (by rw [tk_len _ _ (by omega)]; omega) (by omega) (fun _ hg => glob_keep hG (keepB1 hg (hz23) hB))) ?_
      clear ha a
      rintro e w30 ⟨u31, v31, rfl, hg, hb23', hsv31, hov31, ho31, hds_ho31_hsv31⟩
      have hnb_ho31_b23 : ∀ j, u31.ownBlock = some j → j ≠ b23 := fun j hj => by have h1 := (own_row ho31) j hj; have h2 := lt_of_block hb23; omega
      have hnb_ho31_b27 : ∀ j, u31.ownBlock = some j → j ≠ b27 := fun j hj => by have h1 := (own_row ho31) j hj; have h2 := lt_of_block hb27; omega
      have hds_ho31_hs23 : ∀ j, u31.ownBlock = some j → u23.ownBlock ≠ some j := fun j h1 h2 => by have h3 := (own_row ho31) j h1; have h4 := (fun j hj => hs23.lt j hj) j h2; omega
      have hds_ho31_hs27 : ∀ j, u31.ownBlock = some j → u27.ownBlock ≠ some j := fun j h1 h2 => by have h3 := (own_row ho31) j h1; have h4 := (fun j hj => hs27.lt j hj) j h2; omega
      have hnb_hsv31_b23 : ∀ j, v31.ownBlock = some j → j ≠ b23 := fun j hj => (hov31 j hj).elim (fun h => hnx23 j h) (fun h => by have := lt_of_block hb23; omega)
      have hnb_hsv31_b27 : ∀ j, v31.ownBlock = some j → j ≠ b27 := fun j hj => (hov31 j hj).elim (fun h => hne_hs23_b27 j h) (fun h => by have := lt_of_block hb27; omega)
      have hdv31 : ∀ j, v31.ownBlock = some j → w0.heap.size ≤ j := fun j hj => (hov31 j hj).elim (fun h => hd23 j h) (fun h => Nat.le_trans hB.size h)
      replace ho31 := own_base ho31 hB.size
      clear hb23; have hb23 := hb23'; clear hb23'
      replace hB := keepB1 hg (by omega) hB
      replace hb27 := keepO1 hg (by omega) hb27
      replace hs27 := keepS1 hg (ne_of_ap hnb_hs27_b23) hs27
      clear hg
      refine ⟨_, rfl, ?_⟩; intro a ha
      refine sv ha (r_assign ha rfl) rfl rfl rfl ?_; clear ha a; intro a ha
      refine hK29 _ _ ?_; clear hK29 K28
      refine wp_seq_k fun K32 hK33 => ?_
      refine region ?_
      refine sv ha (r_move ha rfl) rfl rfl rfl ?_; clear ha a; intro a ha
      refine sv ha (r_assign ha rfl) rfl rfl rfl ?_; clear ha a; intro a ha
      refine hK33 _ _ ?_; clear hK33 K32
      refine wp_seq_k fun K34 hK35 => ?_
      refine wp_seq_k fun K36 hK37 => ?_
      refine region ?_
      refine sv ha (r_move ha rfl) rfl rfl rfl ?_; clear ha a; intro a ha
      refine sv ha (r_lss ha n 0 (decide (n < 0)) rfl rfl (decide_eq_decide.2 (by omega))) rfl rfl rfl ?_; clear ha a; intro a ha
      refine hK37 _ _ ?_; clear hK37 K36
      refine cond_if ha rfl (fun hc38 => ?_) (fun hc38 => ?_)
      · skip
        replace hc38 := of_decide_eq_true hc38
        refine region ?_
        refine sv ha (r_assign ha rfl) rfl rfl rfl ?_; clear ha a; intro a ha
        refine hK35 _ _ ?_; clear hK35 K34
        refine wp_seq_k fun K39 hK40 => ?_
        refine region ?_
        refine sv ha (r_move ha rfl) rfl rfl rfl ?_; clear ha a; intro a ha
        refine sv ha (r_move ha rfl) rfl rfl rfl ?_; clear ha a; intro a ha
        refine sv ha (rn_quo ha 0 2 rfl rfl (by omega) (by omega)) rfl rfl rfl ?_; clear ha a; intro a ha
        refine sc ha (r_call ha [.pointer (some ⟨b27, 0, none⟩), ei ((0 / 2 : Nat) : Int)] rfl Tryd.call27) rfl rfl rfl (c_read b27 (absR 136 31 noughts b) 136 u27 (tk (absR 136 31 noughts b) 136) ((0 / 2 : Nat) : Int) _ hb27 (by rw [absR_len]) hs27 hnx27 (by omega) (by rw [tk_len _ _ (by omega)]; omega) (by omega) (fun _ hg => glob_keep hG (keepB1 hg (hz27) hB))) ?_
        clear ha a
        rintro e w41 ⟨u42, v42, rfl, hg, hb27', hsv42, hov42, ho42, hds_ho42_hsv42⟩
        have hnb_ho42_b23 : ∀ j, u42.ownBlock = some j → j ≠ b23 := fun j hj => by have h1 := (own_row ho42) j hj; have h2 := lt_of_block hb23; omega
        have hnb_ho42_b27 : ∀ j, u42.ownBlock = some j → j ≠ b27 := fun j hj => by have h1 := (own_row ho42) j hj; have h2 := lt_of_block hb27; omega
        have hds_ho42_hs27 : ∀ j, u42.ownBlock = some j → u27.ownBlock ≠ some j := fun j h1 h2 => by have h3 := (own_row ho42) j h1; have h4 := (fun j hj => hs27.lt j hj) j h2; omega
        have hds_ho42_hsv31 : ∀ j, u42.ownBlock = some j → v31.ownBlock ≠ some j := fun j h1 h2 => by have h3 := (own_row ho42) j h1; have h4 := (fun j hj => hsv31.lt j hj) j h2; omega
        have hds_ho42_ho31 : ∀ j, u42.ownBlock = some j → u31.ownBlock ≠ some j := fun j h1 h2 => by have h3 := (own_row ho42) j h1; have h4 := (fun j hj => (ho31.lt j hj).2) j h2; omega
        have hnb_hsv42_b23 : ∀ j, v42.ownBlock = some j → j ≠ b23 := fun j hj => (hov42 j hj).elim (fun h => hnb_hs27_b23 j h) (fun h => by have := lt_of_block hb23; omega)
        have hnb_hsv42_b27 : ∀ j, v42.ownBlock = some j → j ≠ b27 := fun j hj => (hov42 j hj).elim (fun h => hnx27 j h) (fun h => by have := lt_of_block hb27; omega)
        have hds_hsv42_ho31 : ∀ j, v42.ownBlock = some j → u31.ownBlock ≠ some j := fun j h1 h2 => (hov42 j h1).elim (fun h => (fun j h1 h2 => hds_ho31_hs27 j h2 h1) j h h2) (fun h => by have h4 := (fun j hj => (ho31.lt j hj).2) j h2; omega)
        have hdv42 : ∀ j, v42.ownBlock = some j → w0.heap.size ≤ j := fun j hj => (hov42 j hj).elim (fun h => hd27 j h) (fun h => Nat.le_trans hB.size h)
        replace ho42 := own_base ho42 hB.size
        clear hb27; have hb27 := hb27'; clear hb27'
        replace hB := keepB1 hg (by omega) hB
        replace hb23 := keepO1 hg (by omega) hb23
        replace hsv31 := keepS1 hg (ne_of_ap hnb_hsv31_b27) hsv31
        replace ho31 := keepW1 hg (ne_of_ap hnb_ho31_b27) ho31
        clear hg
        refine ⟨_, rfl, ?_⟩; intro a ha
        refine sv ha (r_assign ha rfl) rfl rfl rfl ?_; clear ha a; intro a ha
        refine hK40 _ _ ?_; clear hK40 K39
        refine wp_seq_k fun K43 hK44 => ?_
        refine region ?_
        refine sv ha (r_move ha rfl) rfl rfl rfl ?_; clear ha a; intro a ha
        refine sv ha (r_move ha rfl) rfl rfl rfl ?_; clear ha a; intro a ha
        refine sv ha (r_move ha rfl) rfl rfl rfl ?_; clear ha a; intro a ha
        refine sv ha (rn_quo ha 0 2 rfl rfl (by omega) (by omega)) rfl rfl rfl ?_; clear ha a; intro a ha
        refine sv ha (rn_sub ha 0 (0 / 2) rfl rfl (by omega) (by omega)) rfl rfl rfl ?_; clear ha a; intro a ha
        refine sc ha (r_call ha [.pointer (some ⟨b27, 0, none⟩), ei ((0 - (0 / 2) : Nat) : Int)] rfl Tryd.call27) rfl rfl rfl (c_read b27 ((xrun 136 (((0 / 2 : Nat) : Int) : Int).toNat (absR 136 31 noughts b, tk (absR 136 31 noughts b) 136, [])).1) 136 v42 ((xrun 136 (((0 / 2 : Nat) : Int) : Int).toNat (absR 136 31 noughts b, tk (absR 136 31 noughts b) 136, [])).2.1) ((0 - (0 / 2) : Nat) : Int) _ hb27 (by rw [xrun_len _ _ _ (by rw [absR_len])]) hsv42 hnb_hsv42_b27 (by omega) (xrun_le _ _ (by omega) _ (by rw [tk_len _ _ (by omega)]; omega)) (by omega) (fun _ hg => glob_keep hG (keepB1 hg (hz27) hB))) ?_
        clear ha a
        rintro e w45 ⟨u46, v46, rfl, hg, hb27', hsv46, hov46, ho46, hds_ho46_hsv46⟩
        have hnb_ho46_b23 : ∀ j, u46.ownBlock = some j → j ≠ b23 := fun j hj => by have h1 := (own_row ho46) j hj; have h2 := lt_of_block hb23; omega
        have hnb_ho46_b27 : ∀ j, u46.ownBlock = some j → j ≠ b27 := fun j hj => by have h1 := (own_row ho46) j hj; have h2 := lt_of_block hb27; omega
        have hds_ho46_hsv31 : ∀ j, u46.ownBlock = some j → v31.ownBlock ≠ some j := fun j h1 h2 => by have h3 := (own_row ho46) j h1; have h4 := (fun j hj => hsv31.lt j hj) j h2; omega
        have hds_ho46_ho31 : ∀ j, u46.ownBlock = some j → u31.ownBlock ≠ some j := fun j h1 h2 => by have h3 := (own_row ho46) j h1; have h4 := (fun j hj => (ho31.lt j hj).2) j h2; omega
        have hds_ho46_hsv42 : ∀ j, u46.ownBlock = some j → v42.ownBlock ≠ some j := fun j h1 h2 => by have h3 := (own_row ho46) j h1; have h4 := (fun j hj => hsv42.lt j hj) j h2; omega
        have hds_ho46_ho42 : ∀ j, u46.ownBlock = some j → u42.ownBlock ≠ some j := fun j h1 h2 => by have h3 := (own_row ho46) j h1; have h4 := (fun j hj => (ho42.lt j hj).2) j h2; omega
        have hnb_hsv46_b23 : ∀ j, v46.ownBlock = some j → j ≠ b23 := fun j hj => (hov46 j hj).elim (fun h => hnb_hsv42_b23 j h) (fun h => by have := lt_of_block hb23; omega)
        have hnb_hsv46_b27 : ∀ j, v46.ownBlock = some j → j ≠ b27 := fun j hj => (hov46 j hj).elim (fun h => hnb_hsv42_b27 j h) (fun h => by have := lt_of_block hb27; omega)
        have hds_hsv46_ho31 : ∀ j, v46.ownBlock = some j → u31.ownBlock ≠ some j := fun j h1 h2 => (hov46 j h1).elim (fun h => hds_hsv42_ho31 j h h2) (fun h => by have h4 := (fun j hj => (ho31.lt j hj).2) j h2; omega)
        have hds_hsv46_ho42 : ∀ j, v46.ownBlock = some j → u42.ownBlock ≠ some j := fun j h1 h2 => (hov46 j h1).elim (fun h => (fun j h1 h2 => hds_ho42_hsv42 j h2 h1) j h h2) (fun h => by have h4 := (fun j hj => (ho42.lt j hj).2) j h2; omega)
        have hdv46 : ∀ j, v46.ownBlock = some j → w0.heap.size ≤ j := fun j hj => (hov46 j hj).elim (fun h => hdv42 j h) (fun h => Nat.le_trans hB.size h)
        replace ho46 := own_base ho46 hB.size
        clear hb27; have hb27 := hb27'; clear hb27'
        replace hB := keepB1 hg (by omega) hB
        replace hb23 := keepO1 hg (by omega) hb23
        replace hsv31 := keepS1 hg (ne_of_ap hnb_hsv31_b27) hsv31
        replace ho31 := keepW1 hg (ne_of_ap hnb_ho31_b27) ho31
        replace ho42 := keepW1 hg (ne_of_ap hnb_ho42_b27) ho42
        clear hg
        refine ⟨_, rfl, ?_⟩; intro a ha
        refine sv ha (r_assign ha rfl) rfl rfl rfl ?_; clear ha a; intro a ha
        refine hK44 _ _ ?_; clear hK44 K43
        refine wp_seq_k fun K47 hK48 => ?_
        refine region ?_
        refine sv ha (r_move ha rfl) rfl rfl rfl ?_; clear ha a; intro a ha
        refine sv ha (r_move ha rfl) rfl rfl rfl ?_; clear ha a; intro a ha
        refine sc ha (r_call ha [.pointer none, ei n] rfl Tryd.call27) rfl rfl rfl (c_readN n _ ) ?_
        clear ha a
        rintro e w49 ⟨u50, rfl, hBc, hs50, hd50⟩
        have hg := grown_call hBc; clear hBc
        have hnb_hs50_b23 : ∀ j, u50.ownBlock = some j → j ≠ b23 := fun j hj => by have h1 := hd50 j hj; have h2 := lt_of_block hb23; omega
        have hnb_hs50_b27 : ∀ j, u50.ownBlock = some j → j ≠ b27 := fun j hj => by have h1 := hd50 j hj; have h2 := lt_of_block hb27; omega
        have hds_hs50_hsv31 : ∀ j, u50.ownBlock = some j → v31.ownBlock ≠ some j := fun j h1 h2 => by have h3 := hd50 j h1; have h4 := (fun j hj => hsv31.lt j hj) j h2; omega
        have hds_hs50_ho31 : ∀ j, u50.ownBlock = some j → u31.ownBlock ≠ some j := fun j h1 h2 => by have h3 := hd50 j h1; have h4 := (fun j hj => (ho31.lt j hj).2) j h2; omega
        have hds_hs50_ho42 : ∀ j, u50.ownBlock = some j → u42.ownBlock ≠ some j := fun j h1 h2 => by have h3 := hd50 j h1; have h4 := (fun j hj => (ho42.lt j hj).2) j h2; omega
        have hds_hs50_hsv46 : ∀ j, u50.ownBlock = some j → v46.ownBlock ≠ some j := fun j h1 h2 => by have h3 := hd50 j h1; have h4 := (fun j hj => hsv46.lt j hj) j h2; omega
        have hds_hs50_ho46 : ∀ j, u50.ownBlock = some j → u46.ownBlock ≠ some j := fun j h1 h2 => by have h3 := hd50 j h1; have h4 := (fun j hj => (ho46.lt j hj).2) j h2; omega
        replace hd50 : ∀ j, u50.ownBlock = some j → w0.heap.size ≤ j := fun j hj => Nat.le_trans hB.size (hd50 j hj)
        replace hB := keepB0 hg hB
        replace hb23 := keepO0 hg hb23
        replace hb27 := keepO0 hg hb27
        replace hsv31 := keepS0 hg hsv31
        replace ho31 := keepW0 hg ho31
        replace ho42 := keepW0 hg ho42
        replace hsv46 := keepS0 hg hsv46
        replace ho46 := keepW0 hg ho46
        clear hg
        refine ⟨_, rfl, ?_⟩; intro a ha
        refine sv ha (r_lenS ha Tryd.runUnderlying22 hs50 rfl (by rw [List.length_map])) rfl rfl rfl ?_; clear ha a; intro a ha
        refine sv ha (r_eql ha ((0 : Nat) : Int) 0 true rfl rfl (decide_eq_true rfl)) rfl rfl rfl ?_; clear ha a; intro a ha
        refine sv ha (r_move ha rfl) rfl rfl rfl ?_; clear ha a; intro a ha
        refine svg ha (r_move ha rfl) rfl rfl rfl rfl rfl ?_; clear ha a; intro a ha
        refine svg ha (r_lenS ha Tryd.runUnderlying22 (Sl.ofOwns ho31) rfl (own_k ho31)) rfl rfl rfl rfl rfl ?_; clear ha a; intro a ha
        refine svg ha (r_move ha rfl) rfl rfl rfl rfl rfl ?_; clear ha a; intro a ha
        refine svg ha (r_eql ha (((xrun 136 (n : Int).toNat (absR 136 31 noughts b, tk (absR 136 31 noughts b) 136, [])).2.2.length : Nat) : Int) 0 true rfl rfl (decide_eq_true (by have h := xr_len (absR 136 31 noughts b) (absR_len _ _ _) 136 n.toNat (by omega); rw [h]; try omega))) rfl rfl rfl rfl rfl ?_; clear ha a; intro a ha
        refine sv ha (r_pick ha true rfl rfl) rfl rfl rfl ?_; clear ha a; intro a ha
        refine sv ha (r_move ha rfl) rfl rfl rfl ?_; clear ha a; intro a ha
        refine svg ha (r_move ha rfl) rfl rfl rfl rfl rfl ?_; clear ha a; intro a ha
        refine svg ha (r_str (l := (xrun 136 (n : Int).toNat (absR 136 31 noughts b, tk (absR 136 31 noughts b) 136, [])).2.2) ha Tryd.underlying22 Tryd.underlying5 Tryd.underlying9 rfl (Sl.ofOwns ho31)) rfl rfl rfl rfl rfl ?_; clear ha a; intro a ha
        refine svg ha (r_move ha rfl) rfl rfl rfl rfl rfl ?_; clear ha a; intro a ha
        refine svg ha (r_str (l := (xrun 136 (((0 / 2 : Nat) : Int) : Int).toNat (absR 136 31 noughts b, tk (absR 136 31 noughts b) 136, [])).2.2) ha Tryd.underlying22 Tryd.underlying5 Tryd.underlying9 rfl (Sl.ofOwns ho42)) rfl rfl rfl rfl rfl ?_; clear ha a; intro a ha
        refine svg ha (r_move ha rfl) rfl rfl rfl rfl rfl ?_; clear ha a; intro a ha
        refine svg ha (r_str (l := (xrun 136 (((0 - (0 / 2) : Nat) : Int) : Int).toNat ((xrun 136 (((0 / 2 : Nat) : Int) : Int).toNat (absR 136 31 noughts b, tk (absR 136 31 noughts b) 136, [])).1, (xrun 136 (((0 / 2 : Nat) : Int) : Int).toNat (absR 136 31 noughts b, tk (absR 136 31 noughts b) 136, [])).2.1, [])).2.2) ha Tryd.underlying22 Tryd.underlying5 Tryd.underlying9 rfl (Sl.ofOwns ho46)) rfl rfl rfl rfl rfl ?_; clear ha a; intro a ha
        refine svg ha (r_addS ha ((xrun 136 (((0 / 2 : Nat) : Int) : Int).toNat (absR 136 31 noughts b, tk (absR 136 31 noughts b) 136, [])).2.2) ((xrun 136 (((0 - (0 / 2) : Nat) : Int) : Int).toNat ((xrun 136 (((0 / 2 : Nat) : Int) : Int).toNat (absR 136 31 noughts b, tk (absR 136 31 noughts b) 136, [])).1, (xrun 136 (((0 / 2 : Nat) : Int) : Int).toNat (absR 136 31 noughts b, tk (absR 136 31 noughts b) 136, [])).2.1, [])).2.2) rfl rfl (Nat.le_trans (Nat.le_of_eq (xr_add (absR 136 31 noughts b) (absR_len _ _ _) 136 (0 / 2) (0 - 0 / 2) (by omega))) (by omega))) rfl rfl rfl rfl rfl ?_; clear ha a; intro a ha
        refine svg ha (r_eqlS ha ((xrun 136 (n : Int).toNat (absR 136 31 noughts b, tk (absR 136 31 noughts b) 136, [])).2.2) (((xrun 136 (((0 / 2 : Nat) : Int) : Int).toNat (absR 136 31 noughts b, tk (absR 136 31 noughts b) 136, [])).2.2) ++ ((xrun 136 (((0 - (0 / 2) : Nat) : Int) : Int).toNat ((xrun 136 (((0 / 2 : Nat) : Int) : Int).toNat (absR 136 31 noughts b, tk (absR 136 31 noughts b) 136, [])).1, (xrun 136 (((0 / 2 : Nat) : Int) : Int).toNat (absR 136 31 noughts b, tk (absR 136 31 noughts b) 136, [])).2.1, [])).2.2)) true rfl rfl (decide_eq_true (xr_split (absR 136 31 noughts b) (absR_len _ _ _) 136 (0 / 2) (0 - 0 / 2) n.toNat (by omega) (by omega)))) rfl rfl rfl rfl rfl ?_; clear ha a; intro a ha
        refine sv ha (r_pick ha true rfl rfl) rfl rfl rfl ?_; clear ha a; intro a ha
        refine sv ha (r_assign ha rfl) rfl rfl rfl ?_; clear ha a; intro a ha
        refine hK48 _ _ ?_; clear hK48 K47
        refine wp_ret ?_
        repeat (first | (with_reducible refine t_ret ?_) | (with_reducible refine x_ret ?_))
        exact ret1 ha Tryd.results6 rfl ⟨rfl, hB⟩
      · skip
        replace hc38 := of_decide_eq_false hc38
        refine wp_skip ?_
        refine hK35 _ _ ?_; clear hK35 K34
        refine wp_seq_k fun K51 hK52 => ?_
        refine region ?_
        refine sv ha (r_move ha rfl) rfl rfl rfl ?_; clear ha a; intro a ha
        refine sv ha (n_of (r_move ha rfl) (k := n.toNat) (by omega)) rfl rfl rfl ?_; clear ha a; intro a ha
        refine sv ha (rn_quo ha n.toNat 2 rfl rfl (by omega) (by omega)) rfl rfl rfl ?_; clear ha a; intro a ha
        refine sc ha (r_call ha [.pointer (some ⟨b27, 0, none⟩), ei ((n.toNat / 2 : Nat) : Int)] rfl Tryd.call27) rfl rfl rfl (c_read b27 (absR 136 31 noughts b) 136 u27 (tk (absR 136 31 noughts b) 136) ((n.toNat / 2 : Nat) : Int) _ hb27 (by rw [absR_len]) hs27 hnx27 (by omega) (by rw [tk_len _ _ (by omega)]; omega) (by omega) (fun _ hg => glob_keep hG (keepB1 hg (hz27) hB))) ?_
        clear ha a
        rintro e w53 ⟨u54, v54, rfl, hg, hb27', hsv54, hov54, ho54, hds_ho54_hsv54⟩
        have hnb_ho54_b23 : ∀ j, u54.ownBlock = some j → j ≠ b23 := fun j hj => by have h1 := (own_row ho54) j hj; have h2 := lt_of_block hb23; omega
        have hnb_ho54_b27 : ∀ j, u54.ownBlock = some j → j ≠ b27 := fun j hj => by have h1 := (own_row ho54) j hj; have h2 := lt_of_block hb27; omega
        have hds_ho54_hs27 : ∀ j, u54.ownBlock = some j → u27.ownBlock ≠ some j := fun j h1 h2 => by have h3 := (own_row ho54) j h1; have h4 := (fun j hj => hs27.lt j hj) j h2; omega
        have hds_ho54_hsv31 : ∀ j, u54.ownBlock = some j → v31.ownBlock ≠ some j := fun j h1 h2 => by have h3 := (own_row ho54) j h1; have h4 := (fun j hj => hsv31.lt j hj) j h2; omega
        have hds_ho54_ho31 : ∀ j, u54.ownBlock = some j → u31.ownBlock ≠ some j := fun j h1 h2 => by have h3 := (own_row ho54) j h1; have h4 := (fun j hj => (ho31.lt j hj).2) j h2; omega
        have hnb_hsv54_b23 : ∀ j, v54.ownBlock = some j → j ≠ b23 := fun j hj => (hov54 j hj).elim (fun h => hnb_hs27_b23 j h) (fun h => by have := lt_of_block hb23; omega)
        have hnb_hsv54_b27 : ∀ j, v54.ownBlock = some j → j ≠ b27 := fun j hj => (hov54 j hj).elim (fun h => hnx27 j h) (fun h => by have := lt_of_block hb27; omega)
        have hds_hsv54_ho31 : ∀ j, v54.ownBlock = some j → u31.ownBlock ≠ some j := fun j h1 h2 => (hov54 j h1).elim (fun h => (fun j h1 h2 => hds_ho31_hs27 j h2 h1) j h h2) (fun h => by have h4 := (fun j hj => (ho31.lt j hj).2) j h2; omega)
        have hdv54 : ∀ j, v54.ownBlock = some j → w0.heap.size ≤ j := fun j hj => (hov54 j hj).elim (fun h => hd27 j h) (fun h => Nat.le_trans hB.size h)
        replace ho54 := own_base ho54 hB.size
        clear hb27; have hb27 := hb27'; clear hb27'
        replace hB := keepB1 hg (by omega) hB
        replace hb23 := keepO1 hg (by omega) hb23
        replace hsv31 := keepS1 hg (ne_of_ap hnb_hsv31_b27) hsv31
        replace ho31 := keepW1 hg (ne_of_ap hnb_ho31_b27) ho31
        clear hg
        refine ⟨_, rfl, ?_⟩; intro a ha
        refine sv ha (r_assign ha rfl) rfl rfl rfl ?_; clear ha a; intro a ha
        refine hK52 _ _ ?_; clear hK52 K51
        refine wp_seq_k fun K55 hK56 => ?_
        refine region ?_
        refine sv ha (r_move ha rfl) rfl rfl rfl ?_; clear ha a; intro a ha
        refine sv ha (n_of (r_move ha rfl) (k := n.toNat) (by omega)) rfl rfl rfl ?_; clear ha a; intro a ha
        refine sv ha (n_of (r_move ha rfl) (k := n.toNat) (by omega)) rfl rfl rfl ?_; clear ha a; intro a ha
        refine sv ha (rn_quo ha n.toNat 2 rfl rfl (by omega) (by omega)) rfl rfl rfl ?_; clear ha a; intro a ha
        refine sv ha (rn_sub ha n.toNat (n.toNat / 2) rfl rfl (by omega) (by omega)) rfl rfl rfl ?_; clear ha a; intro a ha
        refine sc ha (r_call ha [.pointer (some ⟨b27, 0, none⟩), ei ((n.toNat - (n.toNat / 2) : Nat) : Int)] rfl Tryd.call27) rfl rfl rfl (c_read b27 ((xrun 136 (((n.toNat / 2 : Nat) : Int) : Int).toNat (absR 136 31 noughts b, tk (absR 136 31 noughts b) 136, [])).1) 136 v54 ((xrun 136 (((n.toNat / 2 : Nat) : Int) : Int).toNat (absR 136 31 noughts b, tk (absR 136 31 noughts b) 136, [])).2.1) ((n.toNat - (n.toNat / 2) : Nat) : Int) _ hb27 (by rw [xrun_len _ _ _ (by rw [absR_len])]) hsv54 hnb_hsv54_b27 (by omega) (xrun_le _ _ (by omega) _ (by rw [tk_len _ _ (by omega)]; omega)) (by omega) (fun _ hg => glob_keep hG (keepB1 hg (hz27) hB))) ?_
        clear ha a
        rintro e w57 ⟨u58, v58, rfl, hg, hb27', hsv58, hov58, ho58, hds_ho58_hsv58⟩
        have hnb_ho58_b23 : ∀ j, u58.ownBlock = some j → j ≠ b23 := fun j hj => by have h1 := (own_row ho58) j hj; have h2 := lt_of_block hb23; omega
        have hnb_ho58_b27 : ∀ j, u58.ownBlock = some j → j ≠ b27 := fun j hj => by have h1 := (own_row ho58) j hj; have h2 := lt_of_block hb27; omega
        have hds_ho58_hsv31 : ∀ j, u58.ownBlock = some j → v31.ownBlock ≠ some j := fun j h1 h2 => by have h3 := (own_row ho58) j h1; have h4 := (fun j hj => hsv31.lt j hj) j h2; omega
        have hds_ho58_ho31 : ∀ j, u58.ownBlock = some j → u31.ownBlock ≠ some j := fun j h1 h2 => by have h3 := (own_row ho58) j h1; have h4 := (fun j hj => (ho31.lt j hj).2) j h2; omega
        have hds_ho58_hsv54 : ∀ j, u58.ownBlock = some j → v54.ownBlock ≠ some j := fun j h1 h2 => by have h3 := (own_row ho58) j h1; have h4 := (fun j hj => hsv54.lt j hj) j h2; omega
        have hds_ho58_ho54 : ∀ j, u58.ownBlock = some j → u54.ownBlock ≠ some j := fun j h1 h2 => by have h3 := (own_row ho58) j h1; have h4 := (fun j hj => (ho54.lt j hj).2) j h2; omega
        have hnb_hsv58_b23 : ∀ j, v58.ownBlock = some j → j ≠ b23 := fun j hj => (hov58 j hj).elim (fun h => hnb_hsv54_b23 j h) (fun h => by have := lt_of_block hb23; omega)
        have hnb_hsv58_b27 : ∀ j, v58.ownBlock = some j → j ≠ b27 := fun j hj => (hov58 j hj).elim (fun h => hnb_hsv54_b27 j h) (fun h => by have := lt_of_block hb27; omega)
        have hds_hsv58_ho31 : ∀ j, v58.ownBlock = some j → u31.ownBlock ≠ some j := fun j h1 h2 => (hov58 j h1).elim (fun h => hds_hsv54_ho31 j h h2) (fun h => by have h4 := (fun j hj => (ho31.lt j hj).2) j h2; omega)
        have hds_hsv58_ho54 : ∀ j, v58.ownBlock = some j → u54.ownBlock ≠ some j := fun j h1 h2 => (hov58 j h1).elim (fun h => (fun j h1 h2 => hds_ho54_hsv54 j h2 h1) j h h2) (fun h => by have h4 := (fun j hj => (ho54.lt j hj).2) j h2; omega)
        have hdv58 : ∀ j, v58.ownBlock = some j → w0.heap.size ≤ j := fun j hj => (hov58 j hj).elim (fun h => hdv54 j h) (fun h => Nat.le_trans hB.size h)
        replace ho58 := own_base ho58 hB.size
        clear hb27; have hb27 := hb27'; clear hb27'
        replace hB := keepB1 hg (by omega) hB
        replace hb23 := keepO1 hg (by omega) hb23
        replace hsv31 := keepS1 hg (ne_of_ap hnb_hsv31_b27) hsv31
        replace ho31 := keepW1 hg (ne_of_ap hnb_ho31_b27) ho31
        replace ho54 := keepW1 hg (ne_of_ap hnb_ho54_b27) ho54
        clear hg
        refine ⟨_, rfl, ?_⟩; intro a ha
        refine sv ha (r_assign ha rfl) rfl rfl rfl ?_; clear ha a; intro a ha
        refine hK56 _ _ ?_; clear hK56 K55
        refine wp_seq_k fun K59 hK60 => ?_
        refine region ?_
        refine sv ha (r_move ha rfl) rfl rfl rfl ?_; clear ha a; intro a ha
        refine sv ha (r_move ha rfl) rfl rfl rfl ?_; clear ha a; intro a ha
        refine sc ha (r_call ha [.pointer none, ei n] rfl Tryd.call27) rfl rfl rfl (c_readN n _ ) ?_
        clear ha a
        rintro e w61 ⟨u62, rfl, hBc, hs62, hd62⟩
        have hg := grown_call hBc; clear hBc
        have hnb_hs62_b23 : ∀ j, u62.ownBlock = some j → j ≠ b23 := fun j hj => by have h1 := hd62 j hj; have h2 := lt_of_block hb23; omega
        have hnb_hs62_b27 : ∀ j, u62.ownBlock = some j → j ≠ b27 := fun j hj => by have h1 := hd62 j hj; have h2 := lt_of_block hb27; omega
        have hds_hs62_hsv31 : ∀ j, u62.ownBlock = some j → v31.ownBlock ≠ some j := fun j h1 h2 => by have h3 := hd62 j h1; have h4 := (fun j hj => hsv31.lt j hj) j h2; omega
        have hds_hs62_ho31 : ∀ j, u62.ownBlock = some j → u31.ownBlock ≠ some j := fun j h1 h2 => by have h3 := hd62 j h1; have h4 := (fun j hj => (ho31.lt j hj).2) j h2; omega
        have hds_hs62_ho54 : ∀ j, u62.ownBlock = some j → u54.ownBlock ≠ some j := fun j h1 h2 => by have h3 := hd62 j h1; have h4 := (fun j hj => (ho54.lt j hj).2) j h2; omega
        have hds_hs62_hsv58 : ∀ j, u62.ownBlock = some j → v58.ownBlock ≠ some j := fun j h1 h2 => by have h3 := hd62 j h1; have h4 := (fun j hj => hsv58.lt j hj) j h2; omega
        have hds_hs62_ho58 : ∀ j, u62.ownBlock = some j → u58.ownBlock ≠ some j := fun j h1 h2 => by have h3 := hd62 j h1; have h4 := (fun j hj => (ho58.lt j hj).2) j h2; omega
        replace hd62 : ∀ j, u62.ownBlock = some j → w0.heap.size ≤ j := fun j hj => Nat.le_trans hB.size (hd62 j hj)
        replace hB := keepB0 hg hB
        replace hb23 := keepO0 hg hb23
        replace hb27 := keepO0 hg hb27
        replace hsv31 := keepS0 hg hsv31
        replace ho31 := keepW0 hg ho31
        replace ho54 := keepW0 hg ho54
        replace hsv58 := keepS0 hg hsv58
        replace ho58 := keepW0 hg ho58
        clear hg
        refine ⟨_, rfl, ?_⟩; intro a ha
        refine sv ha (r_lenS ha Tryd.runUnderlying22 hs62 rfl (by rw [List.length_map])) rfl rfl rfl ?_; clear ha a; intro a ha
        refine sv ha (r_eql ha ((0 : Nat) : Int) 0 true rfl rfl (decide_eq_true rfl)) rfl rfl rfl ?_; clear ha a; intro a ha
        refine sv ha (r_move ha rfl) rfl rfl rfl ?_; clear ha a; intro a ha
        refine svg ha (r_move ha rfl) rfl rfl rfl rfl rfl ?_; clear ha a; intro a ha
        refine svg ha (r_lenS ha Tryd.runUnderlying22 (Sl.ofOwns ho31) rfl (own_k ho31)) rfl rfl rfl rfl rfl ?_; clear ha a; intro a ha
        refine svg ha (n_of (r_move ha rfl) (k := n.toNat) (by omega)) rfl rfl rfl rfl rfl ?_; clear ha a; intro a ha
        refine svg ha (r_eql ha (((xrun 136 (n : Int).toNat (absR 136 31 noughts b, tk (absR 136 31 noughts b) 136, [])).2.2.length : Nat) : Int) ((n.toNat : Nat) : Int) true rfl rfl (decide_eq_true (by have h := xr_len (absR 136 31 noughts b) (absR_len _ _ _) 136 n.toNat (by omega); rw [h]; try omega))) rfl rfl rfl rfl rfl ?_; clear ha a; intro a ha
        refine sv ha (r_pick ha true rfl rfl) rfl rfl rfl ?_; clear ha a; intro a ha
        refine sv ha (r_move ha rfl) rfl rfl rfl ?_; clear ha a; intro a ha
        refine svg ha (r_move ha rfl) rfl rfl rfl rfl rfl ?_; clear ha a; intro a ha
        refine svg ha (r_str (l := (xrun 136 (n : Int).toNat (absR 136 31 noughts b, tk (absR 136 31 noughts b) 136, [])).2.2) ha Tryd.underlying22 Tryd.underlying5 Tryd.underlying9 rfl (Sl.ofOwns ho31)) rfl rfl rfl rfl rfl ?_; clear ha a; intro a ha
        refine svg ha (r_move ha rfl) rfl rfl rfl rfl rfl ?_; clear ha a; intro a ha
        refine svg ha (r_str (l := (xrun 136 (((n.toNat / 2 : Nat) : Int) : Int).toNat (absR 136 31 noughts b, tk (absR 136 31 noughts b) 136, [])).2.2) ha Tryd.underlying22 Tryd.underlying5 Tryd.underlying9 rfl (Sl.ofOwns ho54)) rfl rfl rfl rfl rfl ?_; clear ha a; intro a ha
        refine svg ha (r_move ha rfl) rfl rfl rfl rfl rfl ?_; clear ha a; intro a ha
        refine svg ha (r_str (l := (xrun 136 (((n.toNat - (n.toNat / 2) : Nat) : Int) : Int).toNat ((xrun 136 (((n.toNat / 2 : Nat) : Int) : Int).toNat (absR 136 31 noughts b, tk (absR 136 31 noughts b) 136, [])).1, (xrun 136 (((n.toNat / 2 : Nat) : Int) : Int).toNat (absR 136 31 noughts b, tk (absR 136 31 noughts b) 136, [])).2.1, [])).2.2) ha Tryd.underlying22 Tryd.underlying5 Tryd.underlying9 rfl (Sl.ofOwns ho58)) rfl rfl rfl rfl rfl ?_; clear ha a; intro a ha
        refine svg ha (r_addS ha ((xrun 136 (((n.toNat / 2 : Nat) : Int) : Int).toNat (absR 136 31 noughts b, tk (absR 136 31 noughts b) 136, [])).2.2) ((xrun 136 (((n.toNat - (n.toNat / 2) : Nat) : Int) : Int).toNat ((xrun 136 (((n.toNat / 2 : Nat) : Int) : Int).toNat (absR 136 31 noughts b, tk (absR 136 31 noughts b) 136, [])).1, (xrun 136 (((n.toNat / 2 : Nat) : Int) : Int).toNat (absR 136 31 noughts b, tk (absR 136 31 noughts b) 136, [])).2.1, [])).2.2) rfl rfl (Nat.le_trans (Nat.le_of_eq (xr_add (absR 136 31 noughts b) (absR_len _ _ _) 136 (n.toNat / 2) (n.toNat - n.toNat / 2) (by omega))) (by omega))) rfl rfl rfl rfl rfl ?_; clear ha a; intro a ha
        refine svg ha (r_eqlS ha ((xrun 136 (n : Int).toNat (absR 136 31 noughts b, tk (absR 136 31 noughts b) 136, [])).2.2) (((xrun 136 (((n.toNat / 2 : Nat) : Int) : Int).toNat (absR 136 31 noughts b, tk (absR 136 31 noughts b) 136, [])).2.2) ++ ((xrun 136 (((n.toNat - (n.toNat / 2) : Nat) : Int) : Int).toNat ((xrun 136 (((n.toNat / 2 : Nat) : Int) : Int).toNat (absR 136 31 noughts b, tk (absR 136 31 noughts b) 136, [])).1, (xrun 136 (((n.toNat / 2 : Nat) : Int) : Int).toNat (absR 136 31 noughts b, tk (absR 136 31 noughts b) 136, [])).2.1, [])).2.2)) true rfl rfl (decide_eq_true (xr_split (absR 136 31 noughts b) (absR_len _ _ _) 136 (n.toNat / 2) (n.toNat - n.toNat / 2) n.toNat (by omega) (by omega)))) rfl rfl rfl rfl rfl ?_; clear ha a; intro a ha
        refine sv ha (r_pick ha true rfl rfl) rfl rfl rfl ?_; clear ha a; intro a ha
        refine sv ha (r_assign ha rfl) rfl rfl rfl ?_; clear ha a; intro a ha
        refine hK60 _ _ ?_; clear hK60 K59
        refine wp_ret ?_
        repeat (first | (with_reducible refine t_ret ?_) | (with_reducible refine x_ret ?_))
        exact ret1 ha Tryd.results6 rfl ⟨rfl, hB⟩
  case true =>
    replace hq14 := of_decide_eq_true hq14
    refine sno ha rfl rfl rfl rfl rfl rfl ?_; clear ha a; intro a ha
    refine sno ha rfl rfl rfl rfl rfl rfl ?_; clear ha a; intro a ha
    refine sv ha (r_pick ha true rfl rfl) rfl rfl rfl ?_; clear ha a; intro a ha
    refine hK13 _ _ ?_; clear hK13 K12
    refine cond_t ha rfl ?_
    refine wp_seq_k fun K63 hK64 => ?_
    refine region ?_
    refine sv ha (r_assign ha rfl) rfl rfl rfl ?_; clear ha a; intro a ha
    refine hK64 _ _ ?_; clear hK64 K63
    refine wp_ret ?_
    repeat (first | (with_reducible refine t_ret ?_) | (with_reducible refine x_ret ?_))
    exact ret1 ha Tryd.results6 rfl ⟨rfl, hB⟩

theorem law_SpongeLong (c : UInt8) (n m : Int) (w0 : World) (hG : Glob w0) :
    Calls Tryd.prog 7 #[e8 c, ei n, ei m] w0 fun e w' => e = .returned (.bool true) ∧ Below w0.heap.size w0 w' := by
  refine enter (args := [_, _, _]) Tryd.func7 rfl Tryd.ntmps7 rfl ?_
  intro a ha
  have hB := Below.refl w0.heap.size w0
  refine wp_seq_k fun K1 hK2 => ?_
  refine region ?_
  refine sv ha (r_assign ha rfl) rfl rfl rfl ?_; clear ha a; intro a ha
  refine hK2 _ _ ?_; clear hK2 K1
  refine wp_seq_k fun K3 hK4 => ?_
  refine region ?_
  refine sc ha (r_call ha [] rfl Tryd.call17) rfl rfl rfl (c_awake03  _ (glob_keep hG hB)) ?_
  clear ha a
  rintro e w5 ⟨rfl, hBc⟩
  have hg := grown_call hBc; clear hBc
  replace hB := keepB0 hg hB
  clear hg
  refine ⟨_, rfl, ?_⟩; intro a ha
  refine sv ha (r_assign ha rfl) rfl rfl rfl ?_; clear ha a; intro a ha
  refine hK4 _ _ ?_; clear hK4 K3
  refine wp_seq_k fun K6 hK7 => ?_
  refine wp_seq_k fun K8 hK9 => ?_
  refine region ?_
  refine sv ha (r_move ha rfl) rfl rfl rfl ?_; clear ha a; intro a ha
  refine sv ha (r_not ha true false rfl rfl) rfl rfl rfl ?_; clear ha a; intro a ha
  refine hK9 _ _ ?_; clear hK9 K8
  refine cond_f ha rfl ?_
  refine wp_skip ?_
  refine hK7 _ _ ?_; clear hK7 K6
  refine wp_seq_k fun K10 hK11 => ?_
  refine region ?_
  refine sv ha (r_assign ha rfl) rfl rfl rfl ?_; clear ha a; intro a ha
  refine hK11 _ _ ?_; clear hK11 K10
  refine wp_seq_k fun K12 hK13 => ?_
  refine wp_seq_k fun K14 hK15 => ?_
  refine region ?_
  refine sv ha (r_assign ha rfl) rfl rfl rfl ?_; clear ha a; intro a ha
  refine hK15 _ _ ?_; clear hK15 K14
  refine wp_block ?_
  refine loopG (fun (i : Nat) a w => ∃ vb : Value, (i ≤ (n % (2 ^ 11 : Nat)).toNat) ∧ Has 54 [(0, e8 c), (1, ei n), (2, ei m), (6, .bool false), (11, .bool true), (7, .bool true), (12, .bool true), (13, .bool false), (9, en i), (8, vb)] a ∧ Below w0.heap.size w0 w ∧ w.ownsRow w0.heap.size 5 1 vb (List.replicate i c).length ((List.replicate i c).map e8)) (fun i => (n % (2 ^ 11 : Nat)).toNat - i) 0 ⟨.slice none 0 0, (by omega), ha.to [0, 1, 2, 6, 11, 7, 12, 13, 9, 8] rfl, hB, (own_castl (l := ([] : List UInt8)) (World.ownsRow_nil _ _ _ _) rfl)⟩ ?_
  clear ha a hB
  intro i a w16 ⟨vb, hki, ha, hB, hovb⟩
  refine wp_seq_k fun K17 hK18 => ?_
  refine wp_seq_k fun K19 hK20 => ?_
  refine region ?_
  refine sv ha (r_move ha rfl) rfl rfl rfl ?_; clear ha a; intro a ha
  refine sv ha (r_move ha rfl) rfl rfl rfl ?_; clear ha a; intro a ha
  refine sv ha (r_mask ha n 11 (by omega) (m := 2047) rfl rfl rfl) rfl rfl rfl ?_; clear ha a; intro a ha
  refine sv ha (r_lss ha ((i : Nat) : Int) (((n % (2 ^ 11 : Nat)).toNat : Nat) : Int) (decide (i < (n % (2 ^ 11 : Nat)).toNat)) rfl rfl (decide_eq_decide.2 (by omega))) rfl rfl rfl ?_; clear ha a; intro a ha
  refine hK20 _ _ ?_; clear hK20 K19
  refine cond_if ha rfl (fun hc21 => ?_) (fun hc21 => ?_)
  · skip
    replace hc21 := of_decide_eq_true hc21
    refine wp_skip ?_
    refine hK18 _ _ ?_; clear hK18 K17
    refine wp_seq_k fun K22 hK23 => ?_
    refine wp_block ?_
    refine region ?_
    refine sv ha (r_move ha rfl) rfl rfl rfl ?_; clear ha a; intro a ha
    refine sv ha (r_move ha rfl) rfl rfl rfl ?_; clear ha a; intro a ha
    refine sbuildS ha [(0, e8 c)] (([c] : List UInt8).map e8) rfl Tryd.runUnderlying22 Tryd.sizeOf5 Tryd.zeroValue5 rfl rfl rfl rfl rfl ?_
    clear ha a; intro a w24 b25 ha hg hb25 hge25 hlt25
    have hz25 : w0.heap.size ≤ b25 := Nat.le_trans hB.size hge25
    have hne_hovb_b25 : ∀ j, Value.ownBlock vb = some j → j ≠ b25 := fun j hj => by have := (hovb.lt j hj).2; omega
    replace hB := keepB0 hg hB
    replace hovb := keepW0 hg hovb
    clear hg hge25 hlt25
    refine sapp (C := ((List.replicate i c)).map e8) (D := (([c] : List UInt8)).map e8) ha rfl rfl Tryd.underlying22 rfl rfl rfl rfl hovb (Sl.ofBlockM hb25 (by rw [show ([c] : List UInt8).length = 1 from rfl]) (by omega)) (one_e8 _) (by simp only [List.length_map, List.length_replicate, List.length_cons, List.length_nil]; show _ * 1 ≤ _; omega) (by simp only [List.length_map, List.length_replicate, List.length_cons, List.length_nil]; omega) hB.size rfl ?_
    clear ha a; intro a w27 v26 ha hg ho26 hnl26 hpl26
    rw [← List.map_append, List.length_map, show ([c] : List UInt8).length = 1 from rfl] at ho26
    rw [List.length_map, show ([c] : List UInt8).length = 1 from rfl] at hnl26
    have hne_26_b25 : ∀ j, v26.ownBlock = some j → j ≠ b25 := fun j hj => (hpl26 j hj).elim (fun h => hne_hovb_b25 j h) (fun h => by have := lt_of_block hb25; omega)
    replace hB := keepBR hg (own_row hovb) hB
    replace hb25 := keepOR hg (ne_of_ap hne_hovb_b25) hb25
    clear hg
    replace ho26 := own_castl (own_len ho26) (List.replicate_succ' ).symm
    refine sv ha (r_assign ha rfl) rfl rfl rfl ?_; clear ha a; intro a ha
    refine hK23 _ _ ?_; clear hK23 K22
    refine region ?_
    refine sv ha (r_move ha rfl) rfl rfl rfl ?_; clear ha a; intro a ha
    refine sv ha (rn_add ha i 1 rfl rfl (by omega)) rfl rfl rfl ?_; clear ha a; intro a ha
    refine sv ha (r_assign ha rfl) rfl rfl rfl ?_; clear ha a; intro a ha
    exact ⟨i + 1, by omega, v26, (by omega), ha.to [0, 1, 2, 6, 11, 7, 12, 13, 9, 8] rfl, hB, (own_castl (own_len ho26) rfl)⟩
  · skip
    replace hc21 := of_decide_eq_false hc21
    refine wp_exit ?_
    obtain rfl : i = (n % (2 ^ 11 : Nat)).toNat := by omega
    refine hK13 _ _ ?_; clear hK18 K17 hK13 K12
    refine wp_seq_k fun K28 hK29 => ?_
    refine region ?_
    refine sv ha (r_move ha rfl) rfl rfl rfl ?_; clear ha a; intro a ha
    refine sv ha (r_mask ha m 10 (by omega) (m := 1023) rfl rfl rfl) rfl rfl rfl ?_; clear ha a; intro a ha
    refine sv ha (r_assign ha rfl) rfl rfl rfl ?_; clear ha a; intro a ha
    refine hK29 _ _ ?_; clear hK29 K28
    refine wp_seq_k fun K30 hK31 => ?_
    refine regionD (S := fun w => Below w0.heap.size w0 w ∧ w.ownsRow w0.heap.size 5 1 vb (List.replicate ((n % (2 ^ 11 : Nat)).toNat) c).length ((List.replicate ((n % (2 ^ 11 : Nat)).toNat) c).map e8) ∧ True) [] [0, 3, 2, 5, 6, 7, 8, 11, 10, 13, 14, 15, 16, 17, 19, 22, 23, 21, 25, 26, 27, 28] [0, 3, 1, 2, 4, 5, 6, 7, 8, 11, 9, 10, 12, 13, 14, 15, 16, 17, 19, 22, 23, 18, 20, 21, 24, 25, 26, 27, 28] mixed (by kernel_rfl) (fun w hg => ⟨keepB0 hg hB, keepW0 hg hovb, trivial⟩) ?_
    intro w32 hg
    replace hB := keepB0 hg hB
    replace hovb := keepW0 hg hovb
    clear hg
    refine cv ha rfl rfl (fun w _ => r_move ha rfl) rfl rfl rfl ?_; clear ha a; intro a ha
    refine cv ha rfl rfl (fun w _ => r_move ha rfl) rfl rfl rfl ?_; clear ha a; intro a ha
    refine ccx ha rfl rfl (r_call ha [vb] rfl Tryd.call21) rfl rfl rfl (c_sum256 vb (List.replicate ((n % (2 ^ 11 : Nat)).toNat) c) _ (Sl.ofOwns hovb) (glob_keep hG hB)) ?_
    clear ha a
    rintro e w33 ⟨u34, rfl, hBc, hs34, hd34⟩
    have hg := grown_call hBc; clear hBc
    have hds_hs34_hovb : ∀ j, u34.ownBlock = some j → vb.ownBlock ≠ some j := fun j h1 h2 => by have h3 := hd34 j h1; have h4 := (fun j hj => (hovb.lt j hj).2) j h2; omega
    replace hd34 : ∀ j, u34.ownBlock = some j → w0.heap.size ≤ j := fun j hj => Nat.le_trans hB.size (hd34 j hj)
    replace hB := keepB0 hg hB
    replace hovb := keepW0 hg hovb
    clear hg
    refine ⟨fun w => (Sl w u34 ((sum256 (List.replicate ((n % (2 ^ 11 : Nat)).toNat) c)).map e8)) ∧ Below w0.heap.size w0 w ∧ w.ownsRow w0.heap.size 5 1 vb (List.replicate ((n % (2 ^ 11 : Nat)).toNat) c).length ((List.replicate ((n % (2 ^ 11 : Nat)).toNat) c).map e8) ∧ True, fun w h => h.2, fun _ => ⟨hs34, hB, hovb, trivial⟩, _, rfl, ?_⟩; intro a ha
    refine cv ha rfl rfl (fun w ⟨hs34, hB, hovb, _⟩ => r_str (l := sum256 (List.replicate ((n % (2 ^ 11 : Nat)).toNat) c)) ha Tryd.underlying22 Tryd.underlying5 Tryd.underlying9 rfl hs34) rfl rfl rfl ?_; clear ha a; intro a ha
    refine ccx ha rfl rfl (r_call ha [vb] rfl Tryd.call22) rfl rfl rfl (c_rsum256 vb (List.replicate ((n % (2 ^ 11 : Nat)).toNat) c) _ (Sl.ofOwns hovb) (by rw [List.length_replicate]; omega)) ?_
    clear ha a
    rintro e w35 ⟨u36, rfl, hBc, hs36, hd36⟩
    have hg := grown_call hBc; clear hBc
    have hds_hs36_hovb : ∀ j, u36.ownBlock = some j → vb.ownBlock ≠ some j := fun j h1 h2 => by have h3 := hd36 j h1; have h4 := (fun j hj => (hovb.lt j hj).2) j h2; omega
    have hds_hs36_hs34 : ∀ j, u36.ownBlock = some j → u34.ownBlock ≠ some j := fun j h1 h2 => by have h3 := hd36 j h1; have h4 := (fun j hj => hs34.lt j hj) j h2; omega
    replace hd36 : ∀ j, u36.ownBlock = some j → w0.heap.size ≤ j := fun j hj => Nat.le_trans hB.size (hd36 j hj)
    replace hB := keepB0 hg hB
    replace hovb := keepW0 hg hovb
    replace hs34 := keepS0 hg hs34
    clear hg
    refine ⟨fun w => (Sl w u36 ((sum256 (List.replicate ((n % (2 ^ 11 : Nat)).toNat) c)).map e8)) ∧ (Sl w u34 ((sum256 (List.replicate ((n % (2 ^ 11 : Nat)).toNat) c)).map e8)) ∧ Below w0.heap.size w0 w ∧ w.ownsRow w0.heap.size 5 1 vb (List.replicate ((n % (2 ^ 11 : Nat)).toNat) c).length ((List.replicate ((n % (2 ^ 11 : Nat)).toNat) c).map e8) ∧ True, fun w h => h.2, fun _ => ⟨hs36, hs34, hB, hovb, trivial⟩, _, rfl, ?_⟩; intro a ha
    refine cv ha rfl rfl (fun w ⟨hs36, hs34, hB, hovb, _⟩ => r_str (l := sum256 (List.replicate ((n % (2 ^ 11 : Nat)).toNat) c)) ha Tryd.underlying22 Tryd.underlying5 Tryd.underlying9 rfl hs36) rfl rfl rfl ?_; clear ha a; intro a ha
    refine cv ha rfl rfl (fun w _ => r_eqlS ha (sum256 (List.replicate ((n % (2 ^ 11 : Nat)).toNat) c)) (sum256 (List.replicate ((n % (2 ^ 11 : Nat)).toNat) c)) true rfl rfl (decide_eq_true rfl)) rfl rfl rfl ?_; clear ha a; intro a ha
    refine cv ha rfl rfl (fun w _ => r_move ha rfl) rfl rfl rfl ?_; clear ha a; intro a ha
    refine cvg ha rfl rfl (fun w _ => r_move ha rfl) rfl rfl rfl rfl rfl ?_; clear ha a; intro a ha
    refine cvg ha rfl rfl (fun w _ => r_move ha rfl) rfl rfl rfl rfl rfl ?_; clear ha a; intro a ha
    refine ccgx ha rfl rfl (r_call ha [vb] rfl Tryd.call23) rfl rfl rfl rfl rfl (c_sum512 vb (List.replicate ((n % (2 ^ 11 : Nat)).toNat) c) _ (Sl.ofOwns hovb) (glob_keep hG hB)) ?_
    clear ha a
    rintro e w37 ⟨u38, rfl, hBc, hs38, hd38⟩
    have hg := grown_call hBc; clear hBc
    have hds_hs38_hovb : ∀ j, u38.ownBlock = some j → vb.ownBlock ≠ some j := fun j h1 h2 => by have h3 := hd38 j h1; have h4 := (fun j hj => (hovb.lt j hj).2) j h2; omega
    have hds_hs38_hs34 : ∀ j, u38.ownBlock = some j → u34.ownBlock ≠ some j := fun j h1 h2 => by have h3 := hd38 j h1; have h4 := (fun j hj => hs34.lt j hj) j h2; omega
    have hds_hs38_hs36 : ∀ j, u38.ownBlock = some j → u36.ownBlock ≠ some j := fun j h1 h2 => by have h3 := hd38 j h1; have h4 := (fun j hj => hs36.lt j hj) j h2; omega
    replace hd38 : ∀ j, u38.ownBlock = some j → w0.heap.size ≤ j := fun j hj => Nat.le_trans hB.size (hd38 j hj)
    replace hB := keepB0 hg hB
    replace hovb := keepW0 hg hovb
    replace hs34 := keepS0 hg hs34
    replace hs36 := keepS0 hg hs36
    clear hg
    refine ⟨fun w => (Sl w u38 ((sum512 (List.replicate ((n % (2 ^ 11 : Nat)).toNat) c)).map e8)) ∧ (Sl w u36 ((sum256 (List.replicate ((n % (2 ^ 11 : Nat)).toNat) c)).map e8)) ∧ (Sl w u34 ((sum256 (List.replicate ((n % (2 ^ 11 : Nat)).toNat) c)).map e8)) ∧ Below w0.heap.size w0 w ∧ w.ownsRow w0.heap.size 5 1 vb (List.replicate ((n % (2 ^ 11 : Nat)).toNat) c).length ((List.replicate ((n % (2 ^ 11 : Nat)).toNat) c).map e8) ∧ True, fun w h => h.2, fun _ => ⟨hs38, hs36, hs34, hB, hovb, trivial⟩, _, rfl, ?_⟩; intro a ha
    refine cvg ha rfl rfl (fun w ⟨hs38, hs36, hs34, hB, hovb, _⟩ => r_str (l := sum512 (List.replicate ((n % (2 ^ 11 : Nat)).toNat) c)) ha Tryd.underlying22 Tryd.underlying5 Tryd.underlying9 rfl hs38) rfl rfl rfl rfl rfl ?_; clear ha a; intro a ha
    refine ccgx ha rfl rfl (r_call ha [vb] rfl Tryd.call24) rfl rfl rfl rfl rfl (c_rsum512 vb (List.replicate ((n % (2 ^ 11 : Nat)).toNat) c) _ (Sl.ofOwns hovb) (by rw [List.length_replicate]; omega)) ?_
    clear ha a
    rintro e w39 ⟨u40, rfl, hBc, hs40, hd40⟩
    have hg := grown_call hBc; clear hBc
    have hds_hs40_hovb : ∀ j, u40.ownBlock = some j → vb.ownBlock ≠ some j := fun j h1 h2 => by have h3 := hd40 j h1; have h4 := (fun j hj => (hovb.lt j hj).2) j h2; omega
    have hds_hs40_hs34 : ∀ j, u40.ownBlock = some j → u34.ownBlock ≠ some j := fun j h1 h2 => by have h3 := hd40 j h1; have h4 := (fun j hj => hs34.lt j hj) j h2; omega
    have hds_hs40_hs36 : ∀ j, u40.ownBlock = some j → u36.ownBlock ≠ some j := fun j h1 h2 => by have h3 := hd40 j h1; have h4 := (fun j hj => hs36.lt j hj) j h2; omega
    have hds_hs40_hs38 : ∀ j, u40.ownBlock = some j → u38.ownBlock ≠ some j := fun j h1 h2 => by have h3 := hd40 j h1; have h4 := (fun j hj => hs38.lt j hj) j h2; omega
    replace hd40 : ∀ j, u40.ownBlock = some j → w0.heap.size ≤ j := fun j hj => Nat.le_trans hB.size (hd40 j hj)
    replace hB := keepB0 hg hB
    replace hovb := keepW0 hg hovb
    replace hs34 := keepS0 hg hs34
    replace hs36 := keepS0 hg hs36
    replace hs38 := keepS0 hg hs38
    clear hg
    refine ⟨fun w => (Sl w u40 ((sum512 (List.replicate ((n % (2 ^ 11 : Nat)).toNat) c)).map e8)) ∧ (Sl w u38 ((sum512 (List.replicate ((n % (2 ^ 11 : Nat)).toNat) c)).map e8)) ∧ (Sl w u36 ((sum256 (List.replicate ((n % (2 ^ 11 : Nat)).toNat) c)).map e8)) ∧ (Sl w u34 ((sum256 (List.replicate ((n % (2 ^ 11 : Nat)).toNat) c)).map e8)) ∧ Below w0.heap.size w0 w ∧ w.ownsRow w0.heap.size 5 1 vb (List.replicate ((n % (2 ^ 11 : Nat)).toNat) c).length ((List.replicate ((n % (2 ^ 11 : Nat)).toNat) c).map e8) ∧ True, fun w h => h.2, fun _ => ⟨hs40, hs38, hs36, hs34, hB, hovb, trivial⟩, _, rfl, ?_⟩; intro a ha
    refine cvg ha rfl rfl (fun w ⟨hs40, hs38, hs36, hs34, hB, hovb, _⟩ => r_str (l := sum512 (List.replicate ((n % (2 ^ 11 : Nat)).toNat) c)) ha Tryd.underlying22 Tryd.underlying5 Tryd.underlying9 rfl hs40) rfl rfl rfl rfl rfl ?_; clear ha a; intro a ha
    refine cvg ha rfl rfl (fun w _ => r_eqlS ha (sum512 (List.replicate ((n % (2 ^ 11 : Nat)).toNat) c)) (sum512 (List.replicate ((n % (2 ^ 11 : Nat)).toNat) c)) true rfl rfl (decide_eq_true rfl)) rfl rfl rfl rfl rfl ?_; clear ha a; intro a ha
    refine cv ha rfl rfl (fun w _ => r_pick ha true rfl rfl) rfl rfl rfl ?_; clear ha a; intro a ha
    refine cv ha rfl rfl (fun w _ => r_move ha rfl) rfl rfl rfl ?_; clear ha a; intro a ha
    refine cvg ha rfl rfl (fun w _ => r_move ha rfl) rfl rfl rfl rfl rfl ?_; clear ha a; intro a ha
    refine cvg ha rfl rfl (fun w _ => r_move ha rfl) rfl rfl rfl rfl rfl ?_; clear ha a; intro a ha
    refine cvg ha rfl rfl (fun w _ => r_move ha rfl) rfl rfl rfl rfl rfl ?_; clear ha a; intro a ha
    refine cvg ha rfl rfl (fun w _ => r_move ha rfl) rfl rfl rfl rfl rfl ?_; clear ha a; intro a ha
    refine ccgx ha rfl rfl (r_call ha [vb] rfl Tryd.call26) rfl rfl rfl rfl rfl (c_shake256 vb (List.replicate ((n % (2 ^ 11 : Nat)).toNat) c) _ (Sl.ofOwns hovb) (glob_keep hG hB)) ?_
    clear ha a
    rintro e w41 ⟨b42, u42, rfl, hBc, hb42, hge42, hs42, hd42, hnx42⟩
    have hg := grown_call hBc; clear hBc
    have hds_hs42_hovb : ∀ j, u42.ownBlock = some j → vb.ownBlock ≠ some j := fun j h1 h2 => by have h3 := hd42 j h1; have h4 := (fun j hj => (hovb.lt j hj).2) j h2; omega
    have hds_hs42_hs34 : ∀ j, u42.ownBlock = some j → u34.ownBlock ≠ some j := fun j h1 h2 => by have h3 := hd42 j h1; have h4 := (fun j hj => hs34.lt j hj) j h2; omega
    have hds_hs42_hs36 : ∀ j, u42.ownBlock = some j → u36.ownBlock ≠ some j := fun j h1 h2 => by have h3 := hd42 j h1; have h4 := (fun j hj => hs36.lt j hj) j h2; omega
    have hds_hs42_hs38 : ∀ j, u42.ownBlock = some j → u38.ownBlock ≠ some j := fun j h1 h2 => by have h3 := hd42 j h1; have h4 := (fun j hj => hs38.lt j hj) j h2; omega
    have hds_hs42_hs40 : ∀ j, u42.ownBlock = some j → u40.ownBlock ≠ some j := fun j h1 h2 => by have h3 := hd42 j h1; have h4 := (fun j hj => hs40.lt j hj) j h2; omega
    have hz42 : w0.heap.size ≤ b42 := Nat.le_trans hB.size hge42
    have hne_hovb_b42 : ∀ j, Value.ownBlock vb = some j → j ≠ b42 := fun j hj => by have := (hovb.lt j hj).2; omega
    have hne_hs34_b42 : ∀ j, Value.ownBlock u34 = some j → j ≠ b42 := fun j hj => by have := hs34.lt j hj; omega
    have hne_hs36_b42 : ∀ j, Value.ownBlock u36 = some j → j ≠ b42 := fun j hj => by have := hs36.lt j hj; omega
    have hne_hs38_b42 : ∀ j, Value.ownBlock u38 = some j → j ≠ b42 := fun j hj => by have := hs38.lt j hj; omega
    have hne_hs40_b42 : ∀ j, Value.ownBlock u40 = some j → j ≠ b42 := fun j hj => by have := hs40.lt j hj; omega
    replace hd42 : ∀ j, u42.ownBlock = some j → w0.heap.size ≤ j := fun j hj => Nat.le_trans hB.size (hd42 j hj)
    replace hB := keepB0 hg hB
    replace hovb := keepW0 hg hovb
    replace hs34 := keepS0 hg hs34
    replace hs36 := keepS0 hg hs36
    replace hs38 := keepS0 hg hs38
    replace hs40 := keepS0 hg hs40
    clear hg hge42
    refine ⟨fun w => (Sl w u40 ((sum512 (List.replicate ((n % (2 ^ 11 : Nat)).toNat) c)).map e8)) ∧ (Sl w u38 ((sum512 (List.replicate ((n % (2 ^ 11 : Nat)).toNat) c)).map e8)) ∧ (Sl w u36 ((sum256 (List.replicate ((n % (2 ^ 11 : Nat)).toNat) c)).map e8)) ∧ (Sl w u34 ((sum256 (List.replicate ((n % (2 ^ 11 : Nat)).toNat) c)).map e8)) ∧ Below w0.heap.size w0 w ∧ w.ownsRow w0.heap.size 5 1 vb (List.replicate ((n % (2 ^ 11 : Nat)).toNat) c).length ((List.replicate ((n % (2 ^ 11 : Nat)).toNat) c).map e8) ∧ True, fun w h => h, fun _ => ⟨hs40, hs38, hs36, hs34, hB, hovb, trivial⟩, _, rfl, ?_⟩; intro a ha
    refine ccgx ha rfl rfl (r_call ha [.pointer (some ⟨b42, 0, none⟩), ei (((m % (2 ^ 10 : Nat)).toNat : Nat) : Int)] rfl Tryd.call27) rfl rfl rfl rfl rfl (c_read b42 (absR 136 31 noughts (List.replicate ((n % (2 ^ 11 : Nat)).toNat) c)) 136 u42 (tk (absR 136 31 noughts (List.replicate ((n % (2 ^ 11 : Nat)).toNat) c)) 136) (((m % (2 ^ 10 : Nat)).toNat : Nat) : Int) _ hb42 (by rw [absR_len]) hs42 hnx42 (by omega) (by rw [tk_len _ _ (by omega)]; omega) (by omega) (fun _ hg => glob_keep hG (keepB1 hg (hz42) hB))) ?_
    clear ha a
    rintro e w43 ⟨u44, v44, rfl, hg, hb42', hsv44, hov44, ho44, hds_ho44_hsv44⟩
    have hnb_ho44_b42 : ∀ j, u44.ownBlock = some j → j ≠ b42 := fun j hj => by have h1 := (own_row ho44) j hj; have h2 := lt_of_block hb42; omega
    have hds_ho44_hovb : ∀ j, u44.ownBlock = some j → vb.ownBlock ≠ some j := fun j h1 h2 => by have h3 := (own_row ho44) j h1; have h4 := (fun j hj => (hovb.lt j hj).2) j h2; omega
    have hds_ho44_hs34 : ∀ j, u44.ownBlock = some j → u34.ownBlock ≠ some j := fun j h1 h2 => by have h3 := (own_row ho44) j h1; have h4 := (fun j hj => hs34.lt j hj) j h2; omega
    have hds_ho44_hs36 : ∀ j, u44.ownBlock = some j → u36.ownBlock ≠ some j := fun j h1 h2 => by have h3 := (own_row ho44) j h1; have h4 := (fun j hj => hs36.lt j hj) j h2; omega
    have hds_ho44_hs38 : ∀ j, u44.ownBlock = some j → u38.ownBlock ≠ some j := fun j h1 h2 => by have h3 := (own_row ho44) j h1; have h4 := (fun j hj => hs38.lt j hj) j h2; omega
    have hds_ho44_hs40 : ∀ j, u44.ownBlock = some j → u40.ownBlock ≠ some j := fun j h1 h2 => by have h3 := (own_row ho44) j h1; have h4 := (fun j hj => hs40.lt j hj) j h2; omega
    have hds_ho44_hs42 : ∀ j, u44.ownBlock = some j → u42.ownBlock ≠ some j := fun j h1 h2 => by have h3 := (own_row ho44) j h1; have h4 := (fun j hj => hs42.lt j hj) j h2; omega
    have hnb_hsv44_b42 : ∀ j, v44.ownBlock = some j → j ≠ b42 := fun j hj => (hov44 j hj).elim (fun h => hnx42 j h) (fun h => by have := lt_of_block hb42; omega)
    have hds_hsv44_hovb : ∀ j, v44.ownBlock = some j → vb.ownBlock ≠ some j := fun j h1 h2 => (hov44 j h1).elim (fun h => hds_hs42_hovb j h h2) (fun h => by have h4 := (fun j hj => (hovb.lt j hj).2) j h2; omega)
    have hdv44 : ∀ j, v44.ownBlock = some j → w0.heap.size ≤ j := fun j hj => (hov44 j hj).elim (fun h => hd42 j h) (fun h => Nat.le_trans hB.size h)
    replace ho44 := own_base ho44 hB.size
    clear hb42; have hb42 := hb42'; clear hb42'
    replace hB := keepB1 hg (by omega) hB
    replace hovb := keepW1 hg (ne_of_ap hne_hovb_b42) hovb
    replace hs34 := keepS1 hg (ne_of_ap hne_hs34_b42) hs34
    replace hs36 := keepS1 hg (ne_of_ap hne_hs36_b42) hs36
    replace hs38 := keepS1 hg (ne_of_ap hne_hs38_b42) hs38
    replace hs40 := keepS1 hg (ne_of_ap hne_hs40_b42) hs40
    clear hg
    refine ⟨fun w => (w.ownsRow w0.heap.size 5 1 u44 (xrun 136 ((((m % (2 ^ 10 : Nat)).toNat : Nat) : Int) : Int).toNat (absR 136 31 noughts (List.replicate ((n % (2 ^ 11 : Nat)).toNat) c), tk (absR 136 31 noughts (List.replicate ((n % (2 ^ 11 : Nat)).toNat) c)) 136, [])).2.2.length (((xrun 136 ((((m % (2 ^ 10 : Nat)).toNat : Nat) : Int) : Int).toNat (absR 136 31 noughts (List.replicate ((n % (2 ^ 11 : Nat)).toNat) c), tk (absR 136 31 noughts (List.replicate ((n % (2 ^ 11 : Nat)).toNat) c)) 136, [])).2.2).map e8)) ∧ (Sl w u40 ((sum512 (List.replicate ((n % (2 ^ 11 : Nat)).toNat) c)).map e8)) ∧ (Sl w u38 ((sum512 (List.replicate ((n % (2 ^ 11 : Nat)).toNat) c)).map e8)) ∧ (Sl w u36 ((sum256 (List.replicate ((n % (2 ^ 11 : Nat)).toNat) c)).map e8)) ∧ (Sl w u34 ((sum256 (List.replicate ((n % (2 ^ 11 : Nat)).toNat) c)).map e8)) ∧ Below w0.heap.size w0 w ∧ w.ownsRow w0.heap.size 5 1 vb (List.replicate ((n % (2 ^ 11 : Nat)).toNat) c).length ((List.replicate ((n % (2 ^ 11 : Nat)).toNat) c).map e8) ∧ True, fun w h => h.2, fun _ => ⟨ho44, hs40, hs38, hs36, hs34, hB, hovb, trivial⟩, _, rfl, ?_⟩; intro a ha
    refine cvg ha rfl rfl (fun w ⟨ho44, hs40, hs38, hs36, hs34, hB, hovb, _⟩ => r_str (l := (xrun 136 ((((m % (2 ^ 10 : Nat)).toNat : Nat) : Int) : Int).toNat (absR 136 31 noughts (List.replicate ((n % (2 ^ 11 : Nat)).toNat) c), tk (absR 136 31 noughts (List.replicate ((n % (2 ^ 11 : Nat)).toNat) c)) 136, [])).2.2) ha Tryd.underlying22 Tryd.underlying5 Tryd.underlying9 rfl (Sl.ofOwns ho44)) rfl rfl rfl rfl rfl ?_; clear ha a; intro a ha
    refine ccgx ha rfl rfl (r_call ha [vb, en ((m % (2 ^ 10 : Nat)).toNat)] rfl Tryd.call29) rfl rfl rfl rfl rfl (c_rshake256 vb (List.replicate ((n % (2 ^ 11 : Nat)).toNat) c) ((m % (2 ^ 10 : Nat)).toNat) _ (Sl.ofOwns hovb) (by rw [List.length_replicate]; omega) (by omega)) ?_
    clear ha a
    rintro e w45 ⟨u46, rfl, hBc, hs46, hd46⟩
    have hg := grown_call hBc; clear hBc
    have hnb_hs46_b42 : ∀ j, u46.ownBlock = some j → j ≠ b42 := fun j hj => by have h1 := hd46 j hj; have h2 := lt_of_block hb42; omega
    have hds_hs46_hovb : ∀ j, u46.ownBlock = some j → vb.ownBlock ≠ some j := fun j h1 h2 => by have h3 := hd46 j h1; have h4 := (fun j hj => (hovb.lt j hj).2) j h2; omega
    have hds_hs46_hs34 : ∀ j, u46.ownBlock = some j → u34.ownBlock ≠ some j := fun j h1 h2 => by have h3 := hd46 j h1; have h4 := (fun j hj => hs34.lt j hj) j h2; omega
    have hds_hs46_hs36 : ∀ j, u46.ownBlock = some j → u36.ownBlock ≠ some j := fun j h1 h2 => by have h3 := hd46 j h1; have h4 := (fun j hj => hs36.lt j hj) j h2; omega
    have hds_hs46_hs38 : ∀ j, u46.ownBlock = some j → u38.ownBlock ≠ some j := fun j h1 h2 => by have h3 := hd46 j h1; have h4 := (fun j hj => hs38.lt j hj) j h2; omega
    have hds_hs46_hs40 : ∀ j, u46.ownBlock = some j → u40.ownBlock ≠ some j := fun j h1 h2 => by have h3 := hd46 j h1; have h4 := (fun j hj => hs40.lt j hj) j h2; omega
    have hds_hs46_hsv44 : ∀ j, u46.ownBlock = some j → v44.ownBlock ≠ some j := fun j h1 h2 => by have h3 := hd46 j h1; have h4 := (fun j hj => hsv44.lt j hj) j h2; omega
    have hds_hs46_ho44 : ∀ j, u46.ownBlock = some j → u44.ownBlock ≠ some j := fun j h1 h2 => by have h3 := hd46 j h1; have h4 := (fun j hj => (ho44.lt j hj).2) j h2; omega
    replace hd46 : ∀ j, u46.ownBlock = some j → w0.heap.size ≤ j := fun j hj => Nat.le_trans hB.size (hd46 j hj)
    replace hB := keepB0 hg hB
    replace hb42 := keepO0 hg hb42
    replace hovb := keepW0 hg hovb
    replace hs34 := keepS0 hg hs34
    replace hs36 := keepS0 hg hs36
    replace hs38 := keepS0 hg hs38
    replace hs40 := keepS0 hg hs40
    replace hsv44 := keepS0 hg hsv44
    replace ho44 := keepW0 hg ho44
    clear hg
    refine ⟨fun w => (Sl w u46 ((sqz (absR 136 31 noughts (List.replicate ((n % (2 ^ 11 : Nat)).toNat) c)) 136 ((m % (2 ^ 10 : Nat)).toNat)).map e8)) ∧ (w.ownsRow w0.heap.size 5 1 u44 (xrun 136 ((((m % (2 ^ 10 : Nat)).toNat : Nat) : Int) : Int).toNat (absR 136 31 noughts (List.replicate ((n % (2 ^ 11 : Nat)).toNat) c), tk (absR 136 31 noughts (List.replicate ((n % (2 ^ 11 : Nat)).toNat) c)) 136, [])).2.2.length (((xrun 136 ((((m % (2 ^ 10 : Nat)).toNat : Nat) : Int) : Int).toNat (absR 136 31 noughts (List.replicate ((n % (2 ^ 11 : Nat)).toNat) c), tk (absR 136 31 noughts (List.replicate ((n % (2 ^ 11 : Nat)).toNat) c)) 136, [])).2.2).map e8)) ∧ (Sl w u40 ((sum512 (List.replicate ((n % (2 ^ 11 : Nat)).toNat) c)).map e8)) ∧ (Sl w u38 ((sum512 (List.replicate ((n % (2 ^ 11 : Nat)).toNat) c)).map e8)) ∧ (Sl w u36 ((sum256 (List.replicate ((n % (2 ^ 11 : Nat)).toNat) c)).map e8)) ∧ (Sl w u34 ((sum256 (List.replicate ((n % (2 ^ 11 : Nat)).toNat) c)).map e8)) ∧ Below w0.heap.size w0 w ∧ w.ownsRow w0.heap.size 5 1 vb (List.replicate ((n % (2 ^ 11 : Nat)).toNat) c).length ((List.replicate ((n % (2 ^ 11 : Nat)).toNat) c).map e8) ∧ True, fun w h => h.2, fun _ => ⟨hs46, ho44, hs40, hs38, hs36, hs34, hB, hovb, trivial⟩, _, rfl, ?_⟩; intro a ha
    refine cvg ha rfl rfl (fun w ⟨hs46, ho44, hs40, hs38, hs36, hs34, hB, hovb, _⟩ => r_str (l := sqz (absR 136 31 noughts (List.replicate ((n % (2 ^ 11 : Nat)).toNat) c)) 136 ((m % (2 ^ 10 : Nat)).toNat)) ha Tryd.underlying22 Tryd.underlying5 Tryd.underlying9 rfl hs46) rfl rfl rfl rfl rfl ?_; clear ha a; intro a ha
    refine cvg ha rfl rfl (fun w _ => r_eqlS ha ((xrun 136 ((((m % (2 ^ 10 : Nat)).toNat : Nat) : Int) : Int).toNat (absR 136 31 noughts (List.replicate ((n % (2 ^ 11 : Nat)).toNat) c), tk (absR 136 31 noughts (List.replicate ((n % (2 ^ 11 : Nat)).toNat) c)) 136, [])).2.2) (sqz (absR 136 31 noughts (List.replicate ((n % (2 ^ 11 : Nat)).toNat) c)) 136 ((m % (2 ^ 10 : Nat)).toNat)) true rfl rfl (decide_eq_true (xr_sqz _ (absR_len _ _ _) 136 _ (by omega)))) rfl rfl rfl rfl rfl ?_; clear ha a; intro a ha
    refine cv ha rfl rfl (fun w _ => r_pick ha true rfl rfl) rfl rfl rfl ?_; clear ha a; intro a ha
    refine cv ha rfl rfl (fun w _ => r_assign ha rfl) rfl rfl rfl ?_; clear ha a; intro a ha
    refine cfin (hK31 _ _ ?_); clear hK31 K30
    refine wp_ret ?_
    repeat (first | (with_reducible refine t_ret ?_) | (with_reducible refine x_ret ?_))
    exact ret1 ha Tryd.results7 rfl ⟨rfl, hB⟩
end Go.Proofs.YtdhgkfmniebghaaDoor
