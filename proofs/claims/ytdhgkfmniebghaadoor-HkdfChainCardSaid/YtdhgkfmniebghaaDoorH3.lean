/- WALKS written by gen.py (own program) out of specs. -/
import Derived.Test.YtdhgkfmniebghaaDoorH2
import Derived.Test.YtdhgkfmniebghaaDoorRxJ
namespace Go.Proofs.YtdhgkfmniebghaaDoor
open Go.RowKit Go.Rx
set_option maxRecDepth 100000
set_option maxHeartbeats 4000000
set_option linter.unusedVariables false
set_option linter.unusedSimpArgs false

theorem c_awake04  (w0 : World) (hG : Glob w0) :
    Calls Tryd.prog 30 #[] w0 fun e w' => e = .returned (.bool true) ∧ Below w0.heap.size w0 w' := by
  refine enter (args := []) Tryd.func30 rfl Tryd.ntmps30 rfl ?_
  intro a ha
  have hB := Below.refl w0.heap.size w0
  refine wp_seq_k fun K1 hK2 => ?_
  refine region ?_
  refine sv ha (r_assign ha rfl) rfl rfl rfl ?_; clear ha a; intro a ha
  refine hK2 _ _ ?_; clear hK2 K1
  refine wp_seq_k fun K3 hK4 => ?_
  refine region ?_
  refine sc ha (r_call ha [(.slice none 0 0), (.slice none 0 0)] rfl Tryd.call31) rfl rfl rfl (c_mac (.slice none 0 0) ([] : List UInt8) (.slice none 0 0) ([] : List UInt8) _ (Sl.nil _) (Sl.nil _) (by show 0 ≤ 50000; omega) (glob_keep hG hB)) ?_
  clear ha a
  rintro e w5 ⟨u6, rfl, hBc, hs6, hd6⟩
  have hg := grown_call hBc; clear hBc
  replace hd6 : ∀ j, u6.ownBlock = some j → w0.heap.size ≤ j := fun j hj => Nat.le_trans hB.size (hd6 j hj)
  replace hB := keepB0 hg hB
  clear hg
  refine ⟨_, rfl, ?_⟩; intro a ha
  refine sv ha (r_assign ha rfl) rfl rfl rfl ?_; clear ha a; intro a ha
  refine hK4 _ _ ?_; clear hK4 K3
  refine wp_seq_k fun K7 hK8 => ?_
  refine region ?_
  refine sbuildS ha [(0, .int .u8 1)] (([(1 : UInt8)] : List UInt8).map e8) rfl Tryd.runUnderlying22 Tryd.sizeOf5 Tryd.zeroValue5 rfl rfl rfl rfl rfl ?_
  clear ha a; intro a w9 b10 ha hg hb10 hge10 hlt10
  have hz10 : w0.heap.size ≤ b10 := Nat.le_trans hB.size hge10
  have hne_hs6_b10 : ∀ j, Value.ownBlock u6 = some j → j ≠ b10 := fun j hj => by have := hs6.lt j hj; omega
  replace hB := keepB0 hg hB
  replace hs6 := keepS0 hg hs6
  clear hg hge10 hlt10
  refine sc ha (r_call ha [(.slice (some ⟨b10, 0, none⟩) 1 1), (.slice none 0 0)] rfl Tryd.call33) rfl rfl rfl (c_two (.slice (some ⟨b10, 0, none⟩) 1 1) ([(1 : UInt8)] : List UInt8) (.slice none 0 0) ([] : List UInt8) _ (Sl.ofBlockM hb10 (by rw [show ([(1 : UInt8)] : List UInt8).length = 1 from rfl]) (Nat.le_refl _)) (Sl.nil _) (by show 0 ≤ 50000; omega) (glob_keep hG hB)) ?_
  clear ha a
  rintro e w11 ⟨u12, u13, rfl, hBc, hs12, hd12, hs13, hd13⟩
  have hg := grown_call hBc; clear hBc
  have hnb_hs12_b10 : ∀ j, u12.ownBlock = some j → j ≠ b10 := fun j hj => by have h1 := hd12 j hj; have h2 := lt_of_block hb10; omega
  have hds_hs12_hs6 : ∀ j, u12.ownBlock = some j → u6.ownBlock ≠ some j := fun j h1 h2 => by have h3 := hd12 j h1; have h4 := (fun j hj => hs6.lt j hj) j h2; omega
  replace hd12 : ∀ j, u12.ownBlock = some j → w0.heap.size ≤ j := fun j hj => Nat.le_trans hB.size (hd12 j hj)
  have hnb_hs13_b10 : ∀ j, u13.ownBlock = some j → j ≠ b10 := fun j hj => by have h1 := hd13 j hj; have h2 := lt_of_block hb10; omega
  have hds_hs13_hs6 : ∀ j, u13.ownBlock = some j → u6.ownBlock ≠ some j := fun j h1 h2 => by have h3 := hd13 j h1; have h4 := (fun j hj => hs6.lt j hj) j h2; omega
  replace hd13 : ∀ j, u13.ownBlock = some j → w0.heap.size ≤ j := fun j hj => Nat.le_trans hB.size (hd13 j hj)
  replace hB := keepB0 hg hB
  replace hb10 := keepO0 hg hb10
  replace hs6 := keepS0 hg hs6
  clear hg
  refine ⟨_, rfl, ?_⟩; intro a ha
  refine sv ha (r_move ha rfl) rfl rfl rfl ?_; clear ha a; intro a ha
  refine sv ha (r_extract ha (vs := #[u12, u13]) rfl rfl) rfl rfl rfl ?_; clear ha a; intro a ha
  refine sv ha (r_extract ha (vs := #[u12, u13]) rfl rfl) rfl rfl rfl ?_; clear ha a; intro a ha
  refine sv ha (r_assign ha rfl) rfl rfl rfl ?_; clear ha a; intro a ha
  refine sv ha (r_assign ha rfl) rfl rfl rfl ?_; clear ha a; intro a ha
  refine hK8 _ _ ?_; clear hK8 K7
  refine wp_seq_k fun K14 hK15 => ?_
  refine region ?_
  refine sbuildS ha [(0, .int .u8 1)] (([(1 : UInt8)] : List UInt8).map e8) rfl Tryd.runUnderlying22 Tryd.sizeOf5 Tryd.zeroValue5 rfl rfl rfl rfl rfl ?_
  clear ha a; intro a w16 b17 ha hg hb17 hge17 hlt17
  have hz17 : w0.heap.size ≤ b17 := Nat.le_trans hB.size hge17
  have hne_hs6_b17 : ∀ j, Value.ownBlock u6 = some j → j ≠ b17 := fun j hj => by have := hs6.lt j hj; omega
  have hne_hs12_b17 : ∀ j, Value.ownBlock u12 = some j → j ≠ b17 := fun j hj => by have := hs12.lt j hj; omega
  have hne_hs13_b17 : ∀ j, Value.ownBlock u13 = some j → j ≠ b17 := fun j hj => by have := hs13.lt j hj; omega
  have hq10_17 : b10 < b17 := Nat.lt_of_lt_of_le (lt_of_block hb10) hge17
  replace hB := keepB0 hg hB
  replace hb10 := keepO0 hg hb10
  replace hs6 := keepS0 hg hs6
  replace hs12 := keepS0 hg hs12
  replace hs13 := keepS0 hg hs13
  clear hg hge17 hlt17
  refine sc ha (r_call ha [(.slice (some ⟨b17, 0, none⟩) 1 1), (.slice none 0 0)] rfl Tryd.call34) rfl rfl rfl (c_three (.slice (some ⟨b17, 0, none⟩) 1 1) ([(1 : UInt8)] : List UInt8) (.slice none 0 0) ([] : List UInt8) _ (Sl.ofBlockM hb17 (by rw [show ([(1 : UInt8)] : List UInt8).length = 1 from rfl]) (Nat.le_refl _)) (Sl.nil _) (by show 0 ≤ 50000; omega) (glob_keep hG hB)) ?_
  clear ha a
  rintro e w18 ⟨u19, u20, u21, rfl, hBc, hs19, hd19, hs20, hd20, hs21, hd21⟩
  have hg := grown_call hBc; clear hBc
  have hnb_hs19_b10 : ∀ j, u19.ownBlock = some j → j ≠ b10 := fun j hj => by have h1 := hd19 j hj; have h2 := lt_of_block hb10; omega
  have hnb_hs19_b17 : ∀ j, u19.ownBlock = some j → j ≠ b17 := fun j hj => by have h1 := hd19 j hj; have h2 := lt_of_block hb17; omega
  have hds_hs19_hs6 : ∀ j, u19.ownBlock = some j → u6.ownBlock ≠ some j := fun j h1 h2 => by have h3 := hd19 j h1; have h4 := (fun j hj => hs6.lt j hj) j h2; omega
  have hds_hs19_hs12 : ∀ j, u19.ownBlock = some j → u12.ownBlock ≠ some j := fun j h1 h2 => by have h3 := hd19 j h1; have h4 := (fun j hj => hs12.lt j hj) j h2; omega
  have hds_hs19_hs13 : ∀ j, u19.ownBlock = some j → u13.ownBlock ≠ some j := fun j h1 h2 => by have h3 := hd19 j h1; have h4 := (fun j hj => hs13.lt j hj) j h2; omega
  replace hd19 : ∀ j, u19.ownBlock = some j → w0.heap.size ≤ j := fun j hj => Nat.le_trans hB.size (hd19 j hj)
  have hnb_hs20_b10 : ∀ j, u20.ownBlock = some j → j ≠ b10 := fun j hj => by have h1 := hd20 j hj; have h2 := lt_of_block hb10; omega
  have hnb_hs20_b17 : ∀ j, u20.ownBlock = some j → j ≠ b17 := fun j hj => by have h1 := hd20 j hj; have h2 := lt_of_block hb17; omega
  have hds_hs20_hs6 : ∀ j, u20.ownBlock = some j → u6.ownBlock ≠ some j := fun j h1 h2 => by have h3 := hd20 j h1; have h4 := (fun j hj => hs6.lt j hj) j h2; omega
  have hds_hs20_hs12 : ∀ j, u20.ownBlock = some j → u12.ownBlock ≠ some j := fun j h1 h2 => by have h3 := hd20 j h1; have h4 := (fun j hj => hs12.lt j hj) j h2; omega
  have hds_hs20_hs13 : ∀ j, u20.ownBlock = some j → u13.ownBlock ≠ some j := fun j h1 h2 => by have h3 := hd20 j h1; have h4 := (fun j hj => hs13.lt j hj) j h2; omega
  replace hd20 : ∀ j, u20.ownBlock = some j → w0.heap.size ≤ j := fun j hj => Nat.le_trans hB.size (hd20 j hj)
  have hnb_hs21_b10 : ∀ j, u21.ownBlock = some j → j ≠ b10 := fun j hj => by have h1 := hd21 j hj; have h2 := lt_of_block hb10; omega
  have hnb_hs21_b17 : ∀ j, u21.ownBlock = some j → j ≠ b17 := fun j hj => by have h1 := hd21 j hj; have h2 := lt_of_block hb17; omega
  have hds_hs21_hs6 : ∀ j, u21.ownBlock = some j → u6.ownBlock ≠ some j := fun j h1 h2 => by have h3 := hd21 j h1; have h4 := (fun j hj => hs6.lt j hj) j h2; omega
  have hds_hs21_hs12 : ∀ j, u21.ownBlock = some j → u12.ownBlock ≠ some j := fun j h1 h2 => by have h3 := hd21 j h1; have h4 := (fun j hj => hs12.lt j hj) j h2; omega
  have hds_hs21_hs13 : ∀ j, u21.ownBlock = some j → u13.ownBlock ≠ some j := fun j h1 h2 => by have h3 := hd21 j h1; have h4 := (fun j hj => hs13.lt j hj) j h2; omega
  replace hd21 : ∀ j, u21.ownBlock = some j → w0.heap.size ≤ j := fun j hj => Nat.le_trans hB.size (hd21 j hj)
  replace hB := keepB0 hg hB
  replace hb10 := keepO0 hg hb10
  replace hb17 := keepO0 hg hb17
  replace hs6 := keepS0 hg hs6
  replace hs12 := keepS0 hg hs12
  replace hs13 := keepS0 hg hs13
  clear hg
  refine ⟨_, rfl, ?_⟩; intro a ha
  refine sv ha (r_move ha rfl) rfl rfl rfl ?_; clear ha a; intro a ha
  refine sv ha (r_extract ha (vs := #[u19, u20, u21]) rfl rfl) rfl rfl rfl ?_; clear ha a; intro a ha
  refine sv ha (r_extract ha (vs := #[u19, u20, u21]) rfl rfl) rfl rfl rfl ?_; clear ha a; intro a ha
  refine sv ha (r_extract ha (vs := #[u19, u20, u21]) rfl rfl) rfl rfl rfl ?_; clear ha a; intro a ha
  refine sv ha (r_assign ha rfl) rfl rfl rfl ?_; clear ha a; intro a ha
  refine sv ha (r_assign ha rfl) rfl rfl rfl ?_; clear ha a; intro a ha
  refine sv ha (r_assign ha rfl) rfl rfl rfl ?_; clear ha a; intro a ha
  refine hK15 _ _ ?_; clear hK15 K14
  refine wp_seq_k fun K22 hK23 => ?_
  refine region ?_
  refine sv ha (r_move ha rfl) rfl rfl rfl ?_; clear ha a; intro a ha
  refine sv ha (r_lenS ha Tryd.runUnderlying22 hs6 rfl (by rw [List.length_map])) rfl rfl rfl ?_; clear ha a; intro a ha
  refine sv ha (r_eql ha ((32 : Nat) : Int) 32 true rfl rfl (decide_eq_true rfl)) rfl rfl rfl ?_; clear ha a; intro a ha
  refine sv ha (r_move ha rfl) rfl rfl rfl ?_; clear ha a; intro a ha
  refine svg ha (r_move ha rfl) rfl rfl rfl rfl rfl ?_; clear ha a; intro a ha
  refine svg ha (r_indexS (i := 0) ha Tryd.runUnderlying22 Tryd.sizeOf5 hs6 (C := (mac ([] : List UInt8) ([] : List UInt8)).map e8) rfl rfl (by rw [List.length_map, mac_len]; omega)) rfl rfl rfl rfl rfl ?_; clear ha a; intro a ha
  refine svg ha (r_loadS ha rfl Tryd.isAgg5 hs6 (get_map e8 (mac ([] : List UInt8) ([] : List UInt8)) 0 0 (by rw [mac_len]; omega))) rfl rfl rfl rfl rfl ?_; clear ha a; intro a ha
  refine svg ha (r_eql ha (((mac ([] : List UInt8) ([] : List UInt8)).getD 0 0).toNat : Int) 232 true rfl rfl (decide_eq_true (by rw [mac_nil]; rfl))) rfl rfl rfl rfl rfl ?_; clear ha a; intro a ha
  refine sv ha (r_pick ha true rfl rfl) rfl rfl rfl ?_; clear ha a; intro a ha
  refine sv ha (r_move ha rfl) rfl rfl rfl ?_; clear ha a; intro a ha
  refine svg ha (r_move ha rfl) rfl rfl rfl rfl rfl ?_; clear ha a; intro a ha
  refine svg ha (r_indexS (i := 1) ha Tryd.runUnderlying22 Tryd.sizeOf5 hs6 (C := (mac ([] : List UInt8) ([] : List UInt8)).map e8) rfl rfl (by rw [List.length_map, mac_len]; omega)) rfl rfl rfl rfl rfl ?_; clear ha a; intro a ha
  refine svg ha (r_loadS ha rfl Tryd.isAgg5 hs6 (get_map e8 (mac ([] : List UInt8) ([] : List UInt8)) 0 1 (by rw [mac_len]; omega))) rfl rfl rfl rfl rfl ?_; clear ha a; intro a ha
  refine svg ha (r_eql ha (((mac ([] : List UInt8) ([] : List UInt8)).getD 1 0).toNat : Int) 65 true rfl rfl (decide_eq_true (by rw [mac_nil]; rfl))) rfl rfl rfl rfl rfl ?_; clear ha a; intro a ha
  refine sv ha (r_pick ha true rfl rfl) rfl rfl rfl ?_; clear ha a; intro a ha
  refine sv ha (r_move ha rfl) rfl rfl rfl ?_; clear ha a; intro a ha
  refine svg ha (r_move ha rfl) rfl rfl rfl rfl rfl ?_; clear ha a; intro a ha
  refine svg ha (r_lenS ha Tryd.runUnderlying22 hs12 rfl (by rw [List.length_map])) rfl rfl rfl rfl rfl ?_; clear ha a; intro a ha
  refine svg ha (r_eql ha ((32 : Nat) : Int) 32 true rfl rfl (decide_eq_true rfl)) rfl rfl rfl rfl rfl ?_; clear ha a; intro a ha
  refine sv ha (r_pick ha true rfl rfl) rfl rfl rfl ?_; clear ha a; intro a ha
  refine sv ha (r_move ha rfl) rfl rfl rfl ?_; clear ha a; intro a ha
  refine svg ha (r_move ha rfl) rfl rfl rfl rfl rfl ?_; clear ha a; intro a ha
  refine svg ha (r_lenS ha Tryd.runUnderlying22 hs13 rfl (by rw [List.length_map])) rfl rfl rfl rfl rfl ?_; clear ha a; intro a ha
  refine svg ha (r_eql ha ((32 : Nat) : Int) 32 true rfl rfl (decide_eq_true rfl)) rfl rfl rfl rfl rfl ?_; clear ha a; intro a ha
  refine sv ha (r_pick ha true rfl rfl) rfl rfl rfl ?_; clear ha a; intro a ha
  refine sv ha (r_move ha rfl) rfl rfl rfl ?_; clear ha a; intro a ha
  refine svg ha (r_move ha rfl) rfl rfl rfl rfl rfl ?_; clear ha a; intro a ha
  refine svg ha (r_lenS ha Tryd.runUnderlying22 hs21 rfl (by rw [List.length_map])) rfl rfl rfl rfl rfl ?_; clear ha a; intro a ha
  refine svg ha (r_eql ha ((32 : Nat) : Int) 32 true rfl rfl (decide_eq_true rfl)) rfl rfl rfl rfl rfl ?_; clear ha a; intro a ha
  refine sv ha (r_pick ha true rfl rfl) rfl rfl rfl ?_; clear ha a; intro a ha
  refine sv ha (r_assign ha rfl) rfl rfl rfl ?_; clear ha a; intro a ha
  refine hK23 _ _ ?_; clear hK23 K22
  refine wp_ret ?_
  repeat (first | (with_reducible refine t_ret ?_) | (with_reducible refine x_ret ?_))
  exact ret1 ha Tryd.results30 rfl ⟨rfl, hB⟩

theorem law_HkdfMac (v : Value) (key : List UInt8) (u : Value) (b : List UInt8) (w0 : World) (hs : Sl w0 v (key.map e8)) (hsu : Sl w0 u (b.map e8)) (hG : Glob w0) :
    Calls Tryd.prog 8 #[v, u] w0 fun e w' => e = .returned (.bool true) ∧ Below w0.heap.size w0 w' := by
  refine enter (args := [_, _]) Tryd.func8 rfl Tryd.ntmps8 rfl ?_
  intro a ha
  have hB := Below.refl w0.heap.size w0
  refine wp_seq_k fun K1 hK2 => ?_
  refine region ?_
  refine sv ha (r_assign ha rfl) rfl rfl rfl ?_; clear ha a; intro a ha
  refine hK2 _ _ ?_; clear hK2 K1
  refine wp_seq_k fun K3 hK4 => ?_
  refine region ?_
  refine sc ha (r_call ha [] rfl Tryd.call30) rfl rfl rfl (c_awake04  _ (glob_keep hG hB)) ?_
  clear ha a
  rintro e w5 ⟨rfl, hBc⟩
  have hg := grown_call hBc; clear hBc
  replace hB := keepB0 hg hB
  clear hg
  refine ⟨_, rfl, ?_⟩; intro a ha
  refine sv ha (r_assign ha rfl) rfl rfl rfl ?_; clear ha a; intro a ha
  refine hK4 _ _ ?_; clear hK4 K3
  refine wp_seq_k fun K6 hK7 => ?_
  refine wp_seq_k fun K8 hK9 => ?_
  refine region ?_
  refine sv ha (r_move ha rfl) rfl rfl rfl ?_; clear ha a; intro a ha
  refine sv ha (r_not ha true false rfl rfl) rfl rfl rfl ?_; clear ha a; intro a ha
  refine hK9 _ _ ?_; clear hK9 K8
  refine cond_f ha rfl ?_
  refine wp_skip ?_
  refine hK7 _ _ ?_; clear hK7 K6
  refine wp_seq_k fun K10 hK11 => ?_
  refine wp_seq_k fun K12 hK13 => ?_
  refine region ?_
  refine sv ha (r_move ha rfl) rfl rfl rfl ?_; clear ha a; intro a ha
  refine sv ha (r_lenS ha Tryd.runUnderlying22 (hs.below hB) rfl (by rw [List.length_map])) rfl rfl rfl ?_; clear ha a; intro a ha
  refine sv ha (r_gtr ha ((key.length : Nat) : Int) 1000 (decide (key.length > 1000)) rfl rfl (decide_eq_decide.2 (by omega))) rfl rfl rfl ?_; clear ha a; intro a ha
  refine sv ha (r_move ha rfl) rfl rfl rfl ?_; clear ha a; intro a ha
  cases hq14 : (decide (key.length > 1000))
  all_goals rw [hq14] at ha
  case false =>
    replace hq14 := of_decide_eq_false hq14
    refine svg ha (r_move ha rfl) rfl rfl rfl rfl rfl ?_; clear ha a; intro a ha
    refine svg ha (r_lenS ha Tryd.runUnderlying22 (hsu.below hB) rfl (by rw [List.length_map])) rfl rfl rfl rfl rfl ?_; clear ha a; intro a ha
    refine svg ha (r_gtr ha ((b.length : Nat) : Int) 1000 (decide (b.length > 1000)) rfl rfl (decide_eq_decide.2 (by omega))) rfl rfl rfl rfl rfl ?_; clear ha a; intro a ha
    refine sv ha (r_pick ha false rfl rfl) rfl rfl rfl ?_; clear ha a; intro a ha
    refine hK13 _ _ ?_; clear hK13 K12
    refine cond_if ha rfl (fun hc15 => ?_) (fun hc15 => ?_)
    · skip
      replace hc15 := of_decide_eq_true hc15
      refine wp_seq_k fun K16 hK17 => ?_
      refine region ?_
      refine sv ha (r_assign ha rfl) rfl rfl rfl ?_; clear ha a; intro a ha
      refine hK17 _ _ ?_; clear hK17 K16
      refine wp_ret ?_
      repeat (first | (with_reducible refine t_ret ?_) | (with_reducible refine x_ret ?_))
      exact ret1 ha Tryd.results8 rfl ⟨rfl, hB⟩
    · skip
      replace hc15 := of_decide_eq_false hc15
      refine wp_skip ?_
      refine hK11 _ _ ?_; clear hK11 K10
      refine wp_seq_k fun K18 hK19 => ?_
      refine region ?_
      refine sv ha (r_move ha rfl) rfl rfl rfl ?_; clear ha a; intro a ha
      refine sv ha (r_str (l := key) ha Tryd.underlying22 Tryd.underlying5 Tryd.underlying9 rfl (hs.below hB)) rfl rfl rfl ?_; clear ha a; intro a ha
      refine sv ha (r_assign ha rfl) rfl rfl rfl ?_; clear ha a; intro a ha
      refine hK19 _ _ ?_; clear hK19 K18
      refine wp_seq_k fun K20 hK21 => ?_
      refine regionD (S := fun w => Below w0.heap.size w0 w ∧ True) [] [0, 1, 4, 5, 3, 7, 8, 9, 10, 11, 12, 13, 14, 15] [0, 1, 4, 5, 2, 3, 6, 7, 8, 9, 10, 11, 12, 13, 14, 15] mixed (by kernel_rfl) (fun w hg => ⟨keepB0 hg hB, trivial⟩) ?_
      intro w22 hg
      replace hB := keepB0 hg hB
      clear hg
      refine cv ha rfl rfl (fun w _ => r_move ha rfl) rfl rfl rfl ?_; clear ha a; intro a ha
      refine cv ha rfl rfl (fun w _ => r_move ha rfl) rfl rfl rfl ?_; clear ha a; intro a ha
      refine cv ha rfl rfl (fun w _ => r_move ha rfl) rfl rfl rfl ?_; clear ha a; intro a ha
      refine cv ha rfl rfl (fun w _ => r_move ha rfl) rfl rfl rfl ?_; clear ha a; intro a ha
      refine ccx ha rfl rfl (r_call ha [v, u] rfl Tryd.call31) rfl rfl rfl (c_mac v key u b _ (hs.below hB) (hsu.below hB) (by omega) (glob_keep hG hB)) ?_
      clear ha a
      rintro e w23 ⟨u24, rfl, hBc, hs24, hd24⟩
      have hg := grown_call hBc; clear hBc
      replace hd24 : ∀ j, u24.ownBlock = some j → w0.heap.size ≤ j := fun j hj => Nat.le_trans hB.size (hd24 j hj)
      replace hB := keepB0 hg hB
      clear hg
      refine ⟨fun w => (Sl w u24 ((mac key b).map e8)) ∧ Below w0.heap.size w0 w ∧ True, fun w h => h.2, fun _ => ⟨hs24, hB, trivial⟩, _, rfl, ?_⟩; intro a ha
      refine cv ha rfl rfl (fun w ⟨hs24, hB, _⟩ => r_str (l := mac key b) ha Tryd.underlying22 Tryd.underlying5 Tryd.underlying9 rfl hs24) rfl rfl rfl ?_; clear ha a; intro a ha
      refine ccx ha rfl rfl (r_call ha [v, u] rfl Tryd.call32) rfl rfl rfl (c_rmac v key u b _ (hs.below hB) (hsu.below hB) (by omega) (by omega)) ?_
      clear ha a
      rintro e w25 ⟨u26, rfl, hBc, hs26, hd26⟩
      have hg := grown_call hBc; clear hBc
      have hds_hs26_hs24 : ∀ j, u26.ownBlock = some j → u24.ownBlock ≠ some j := fun j h1 h2 => by have h3 := hd26 j h1; have h4 := (fun j hj => hs24.lt j hj) j h2; omega
      replace hd26 : ∀ j, u26.ownBlock = some j → w0.heap.size ≤ j := fun j hj => Nat.le_trans hB.size (hd26 j hj)
      replace hB := keepB0 hg hB
      replace hs24 := keepS0 hg hs24
      clear hg
      refine ⟨fun w => (Sl w u26 ((mac key b).map e8)) ∧ (Sl w u24 ((mac key b).map e8)) ∧ Below w0.heap.size w0 w ∧ True, fun w h => h.2, fun _ => ⟨hs26, hs24, hB, trivial⟩, _, rfl, ?_⟩; intro a ha
      refine cv ha rfl rfl (fun w ⟨hs26, hs24, hB, _⟩ => r_str (l := mac key b) ha Tryd.underlying22 Tryd.underlying5 Tryd.underlying9 rfl hs26) rfl rfl rfl ?_; clear ha a; intro a ha
      refine cv ha rfl rfl (fun w _ => r_eqlS ha (mac key b) (mac key b) true rfl rfl (decide_eq_true rfl)) rfl rfl rfl ?_; clear ha a; intro a ha
      refine cv ha rfl rfl (fun w _ => r_move ha rfl) rfl rfl rfl ?_; clear ha a; intro a ha
      refine cvg ha rfl rfl (fun w _ => r_move ha rfl) rfl rfl rfl rfl rfl ?_; clear ha a; intro a ha
      refine cvg ha rfl rfl (fun w ⟨hs26, hs24, hB, _⟩ => r_str (l := key) ha Tryd.underlying22 Tryd.underlying5 Tryd.underlying9 rfl (hs.below hB)) rfl rfl rfl rfl rfl ?_; clear ha a; intro a ha
      refine cvg ha rfl rfl (fun w _ => r_move ha rfl) rfl rfl rfl rfl rfl ?_; clear ha a; intro a ha
      refine cvg ha rfl rfl (fun w _ => r_eqlS ha key key true rfl rfl (decide_eq_true rfl)) rfl rfl rfl rfl rfl ?_; clear ha a; intro a ha
      refine cv ha rfl rfl (fun w _ => r_pick ha true rfl rfl) rfl rfl rfl ?_; clear ha a; intro a ha
      refine cv ha rfl rfl (fun w _ => r_assign ha rfl) rfl rfl rfl ?_; clear ha a; intro a ha
      refine cfin (hK21 _ _ ?_); clear hK21 K20
      refine wp_ret ?_
      repeat (first | (with_reducible refine t_ret ?_) | (with_reducible refine x_ret ?_))
      exact ret1 ha Tryd.results8 rfl ⟨rfl, hB⟩
  case true =>
    replace hq14 := of_decide_eq_true hq14
    refine sno ha rfl rfl rfl rfl rfl rfl ?_; clear ha a; intro a ha
    refine sno ha rfl rfl rfl rfl rfl rfl ?_; clear ha a; intro a ha
    refine sno ha rfl rfl rfl rfl rfl rfl ?_; clear ha a; intro a ha
    refine sv ha (r_pick ha true rfl rfl) rfl rfl rfl ?_; clear ha a; intro a ha
    refine hK13 _ _ ?_; clear hK13 K12
    refine cond_t ha rfl ?_
    refine wp_seq_k fun K27 hK28 => ?_
    refine region ?_
    refine sv ha (r_assign ha rfl) rfl rfl rfl ?_; clear ha a; intro a ha
    refine hK28 _ _ ?_; clear hK28 K27
    refine wp_ret ?_
    repeat (first | (with_reducible refine t_ret ?_) | (with_reducible refine x_ret ?_))
    exact ret1 ha Tryd.results8 rfl ⟨rfl, hB⟩

theorem law_HkdfKeys (v : Value) (ck : List UInt8) (u : Value) (i : List UInt8) (w0 : World) (hs : Sl w0 v (ck.map e8)) (hsu : Sl w0 u (i.map e8)) (hG : Glob w0) :
    Calls Tryd.prog 9 #[v, u] w0 fun e w' => e = .returned (.bool true) ∧ Below w0.heap.size w0 w' := by
  refine enter (args := [_, _]) Tryd.func9 rfl Tryd.ntmps9 rfl ?_
  intro a ha
  have hB := Below.refl w0.heap.size w0
  refine wp_seq_k fun K1 hK2 => ?_
  refine region ?_
  refine sv ha (r_assign ha rfl) rfl rfl rfl ?_; clear ha a; intro a ha
  refine hK2 _ _ ?_; clear hK2 K1
  refine wp_seq_k fun K3 hK4 => ?_
  refine region ?_
  refine sc ha (r_call ha [] rfl Tryd.call30) rfl rfl rfl (c_awake04  _ (glob_keep hG hB)) ?_
  clear ha a
  rintro e w5 ⟨rfl, hBc⟩
  have hg := grown_call hBc; clear hBc
  replace hB := keepB0 hg hB
  clear hg
  refine ⟨_, rfl, ?_⟩; intro a ha
  refine sv ha (r_assign ha rfl) rfl rfl rfl ?_; clear ha a; intro a ha
  refine hK4 _ _ ?_; clear hK4 K3
  refine wp_seq_k fun K6 hK7 => ?_
  refine wp_seq_k fun K8 hK9 => ?_
  refine region ?_
  refine sv ha (r_move ha rfl) rfl rfl rfl ?_; clear ha a; intro a ha
  refine sv ha (r_not ha true false rfl rfl) rfl rfl rfl ?_; clear ha a; intro a ha
  refine hK9 _ _ ?_; clear hK9 K8
  refine cond_f ha rfl ?_
  refine wp_skip ?_
  refine hK7 _ _ ?_; clear hK7 K6
  refine wp_seq_k fun K10 hK11 => ?_
  refine wp_seq_k fun K12 hK13 => ?_
  refine region ?_
  refine sv ha (r_move ha rfl) rfl rfl rfl ?_; clear ha a; intro a ha
  refine sv ha (r_lenS ha Tryd.runUnderlying22 (hs.below hB) rfl (by rw [List.length_map])) rfl rfl rfl ?_; clear ha a; intro a ha
  refine sv ha (r_gtr ha ((ck.length : Nat) : Int) 1000 (decide (ck.length > 1000)) rfl rfl (decide_eq_decide.2 (by omega))) rfl rfl rfl ?_; clear ha a; intro a ha
  refine sv ha (r_move ha rfl) rfl rfl rfl ?_; clear ha a; intro a ha
  cases hq14 : (decide (ck.length > 1000))
  all_goals rw [hq14] at ha
  case false =>
    replace hq14 := of_decide_eq_false hq14
    refine svg ha (r_move ha rfl) rfl rfl rfl rfl rfl ?_; clear ha a; intro a ha
    refine svg ha (r_lenS ha Tryd.runUnderlying22 (hsu.below hB) rfl (by rw [List.length_map])) rfl rfl rfl rfl rfl ?_; clear ha a; intro a ha
    refine svg ha (r_gtr ha ((i.length : Nat) : Int) 1000 (decide (i.length > 1000)) rfl rfl (decide_eq_decide.2 (by omega))) rfl rfl rfl rfl rfl ?_; clear ha a; intro a ha
    refine sv ha (r_pick ha false rfl rfl) rfl rfl rfl ?_; clear ha a; intro a ha
    refine hK13 _ _ ?_; clear hK13 K12
    refine cond_if ha rfl (fun hc15 => ?_) (fun hc15 => ?_)
    · skip
      replace hc15 := of_decide_eq_true hc15
      refine wp_seq_k fun K16 hK17 => ?_
      refine region ?_
      refine sv ha (r_assign ha rfl) rfl rfl rfl ?_; clear ha a; intro a ha
      refine hK17 _ _ ?_; clear hK17 K16
      refine wp_ret ?_
      repeat (first | (with_reducible refine t_ret ?_) | (with_reducible refine x_ret ?_))
      exact ret1 ha Tryd.results9 rfl ⟨rfl, hB⟩
    · skip
      replace hc15 := of_decide_eq_false hc15
      refine wp_skip ?_
      refine hK11 _ _ ?_; clear hK11 K10
      refine wp_seq_k fun K18 hK19 => ?_
      refine region ?_
      refine sv ha (r_move ha rfl) rfl rfl rfl ?_; clear ha a; intro a ha
      refine sv ha (r_move ha rfl) rfl rfl rfl ?_; clear ha a; intro a ha
      refine sc ha (r_call ha [v, u] rfl Tryd.call33) rfl rfl rfl (c_two v ck u i _ (hs.below hB) (hsu.below hB) (by omega) (glob_keep hG hB)) ?_
      clear ha a
      rintro e w20 ⟨u21, u22, rfl, hBc, hs21, hd21, hs22, hd22⟩
      have hg := grown_call hBc; clear hBc
      replace hd21 : ∀ j, u21.ownBlock = some j → w0.heap.size ≤ j := fun j hj => Nat.le_trans hB.size (hd21 j hj)
      replace hd22 : ∀ j, u22.ownBlock = some j → w0.heap.size ≤ j := fun j hj => Nat.le_trans hB.size (hd22 j hj)
      replace hB := keepB0 hg hB
      clear hg
      refine ⟨_, rfl, ?_⟩; intro a ha
      refine sv ha (r_move ha rfl) rfl rfl rfl ?_; clear ha a; intro a ha
      refine sv ha (r_extract ha (vs := #[u21, u22]) rfl rfl) rfl rfl rfl ?_; clear ha a; intro a ha
      refine sv ha (r_extract ha (vs := #[u21, u22]) rfl rfl) rfl rfl rfl ?_; clear ha a; intro a ha
      refine sv ha (r_assign ha rfl) rfl rfl rfl ?_; clear ha a; intro a ha
      refine sv ha (r_assign ha rfl) rfl rfl rfl ?_; clear ha a; intro a ha
      refine hK19 _ _ ?_; clear hK19 K18
      refine wp_seq_k fun K23 hK24 => ?_
      refine region ?_
      refine sv ha (r_move ha rfl) rfl rfl rfl ?_; clear ha a; intro a ha
      refine sv ha (r_move ha rfl) rfl rfl rfl ?_; clear ha a; intro a ha
      refine sc ha (r_call ha [v, u] rfl Tryd.call34) rfl rfl rfl (c_three v ck u i _ (hs.below hB) (hsu.below hB) (by omega) (glob_keep hG hB)) ?_
      clear ha a
      rintro e w25 ⟨u26, u27, u28, rfl, hBc, hs26, hd26, hs27, hd27, hs28, hd28⟩
      have hg := grown_call hBc; clear hBc
      have hds_hs26_hs21 : ∀ j, u26.ownBlock = some j → u21.ownBlock ≠ some j := fun j h1 h2 => by have h3 := hd26 j h1; have h4 := (fun j hj => hs21.lt j hj) j h2; omega
      have hds_hs26_hs22 : ∀ j, u26.ownBlock = some j → u22.ownBlock ≠ some j := fun j h1 h2 => by have h3 := hd26 j h1; have h4 := (fun j hj => hs22.lt j hj) j h2; omega
      replace hd26 : ∀ j, u26.ownBlock = some j → w0.heap.size ≤ j := fun j hj => Nat.le_trans hB.size (hd26 j hj)
      have hds_hs27_hs21 : ∀ j, u27.ownBlock = some j → u21.ownBlock ≠ some j := fun j h1 h2 => by have h3 := hd27 j h1; have h4 := (fun j hj => hs21.lt j hj) j h2; omega
      have hds_hs27_hs22 : ∀ j, u27.ownBlock = some j → u22.ownBlock ≠ some j := fun j h1 h2 => by have h3 := hd27 j h1; have h4 := (fun j hj => hs22.lt j hj) j h2; omega
      replace hd27 : ∀ j, u27.ownBlock = some j → w0.heap.size ≤ j := fun j hj => Nat.le_trans hB.size (hd27 j hj)
      have hds_hs28_hs21 : ∀ j, u28.ownBlock = some j → u21.ownBlock ≠ some j := fun j h1 h2 => by have h3 := hd28 j h1; have h4 := (fun j hj => hs21.lt j hj) j h2; omega
      have hds_hs28_hs22 : ∀ j, u28.ownBlock = some j → u22.ownBlock ≠ some j := fun j h1 h2 => by have h3 := hd28 j h1; have h4 := (fun j hj => hs22.lt j hj) j h2; omega
      replace hd28 : ∀ j, u28.ownBlock = some j → w0.heap.size ≤ j := fun j hj => Nat.le_trans hB.size (hd28 j hj)
      replace hB := keepB0 hg hB
      replace hs21 := keepS0 hg hs21
      replace hs22 := keepS0 hg hs22
      clear hg
      refine ⟨_, rfl, ?_⟩; intro a ha
      refine sv ha (r_move ha rfl) rfl rfl rfl ?_; clear ha a; intro a ha
      refine sv ha (r_extract ha (vs := #[u26, u27, u28]) rfl rfl) rfl rfl rfl ?_; clear ha a; intro a ha
      refine sv ha (r_extract ha (vs := #[u26, u27, u28]) rfl rfl) rfl rfl rfl ?_; clear ha a; intro a ha
      refine sv ha (r_extract ha (vs := #[u26, u27, u28]) rfl rfl) rfl rfl rfl ?_; clear ha a; intro a ha
      refine sv ha (r_assign ha rfl) rfl rfl rfl ?_; clear ha a; intro a ha
      refine sv ha (r_assign ha rfl) rfl rfl rfl ?_; clear ha a; intro a ha
      refine sv ha (r_assign ha rfl) rfl rfl rfl ?_; clear ha a; intro a ha
      refine hK24 _ _ ?_; clear hK24 K23
      refine wp_seq_k fun K29 hK30 => ?_
      refine region ?_
      refine sv ha (r_move ha rfl) rfl rfl rfl ?_; clear ha a; intro a ha
      refine sv ha (r_move ha rfl) rfl rfl rfl ?_; clear ha a; intro a ha
      refine sc ha (r_call ha [v, u] rfl Tryd.call35) rfl rfl rfl (c_rthree v ck u i _ (hs.below hB) (hsu.below hB) (by omega) (by omega)) ?_
      clear ha a
      rintro e w31 ⟨u32, u33, u34, rfl, hBc, hs32, hd32, hs33, hd33, hs34, hd34⟩
      have hg := grown_call hBc; clear hBc
      have hds_hs32_hs21 : ∀ j, u32.ownBlock = some j → u21.ownBlock ≠ some j := fun j h1 h2 => by have h3 := hd32 j h1; have h4 := (fun j hj => hs21.lt j hj) j h2; omega
      have hds_hs32_hs22 : ∀ j, u32.ownBlock = some j → u22.ownBlock ≠ some j := fun j h1 h2 => by have h3 := hd32 j h1; have h4 := (fun j hj => hs22.lt j hj) j h2; omega
      have hds_hs32_hs26 : ∀ j, u32.ownBlock = some j → u26.ownBlock ≠ some j := fun j h1 h2 => by have h3 := hd32 j h1; have h4 := (fun j hj => hs26.lt j hj) j h2; omega
      have hds_hs32_hs27 : ∀ j, u32.ownBlock = some j → u27.ownBlock ≠ some j := fun j h1 h2 => by have h3 := hd32 j h1; have h4 := (fun j hj => hs27.lt j hj) j h2; omega
      have hds_hs32_hs28 : ∀ j, u32.ownBlock = some j → u28.ownBlock ≠ some j := fun j h1 h2 => by have h3 := hd32 j h1; have h4 := (fun j hj => hs28.lt j hj) j h2; omega
      replace hd32 : ∀ j, u32.ownBlock = some j → w0.heap.size ≤ j := fun j hj => Nat.le_trans hB.size (hd32 j hj)
      have hds_hs33_hs21 : ∀ j, u33.ownBlock = some j → u21.ownBlock ≠ some j := fun j h1 h2 => by have h3 := hd33 j h1; have h4 := (fun j hj => hs21.lt j hj) j h2; omega
      have hds_hs33_hs22 : ∀ j, u33.ownBlock = some j → u22.ownBlock ≠ some j := fun j h1 h2 => by have h3 := hd33 j h1; have h4 := (fun j hj => hs22.lt j hj) j h2; omega
      have hds_hs33_hs26 : ∀ j, u33.ownBlock = some j → u26.ownBlock ≠ some j := fun j h1 h2 => by have h3 := hd33 j h1; have h4 := (fun j hj => hs26.lt j hj) j h2; omega
      have hds_hs33_hs27 : ∀ j, u33.ownBlock = some j → u27.ownBlock ≠ some j := fun j h1 h2 => by have h3 := hd33 j h1; have h4 := (fun j hj => hs27.lt j hj) j h2; omega
      have hds_hs33_hs28 : ∀ j, u33.ownBlock = some j → u28.ownBlock ≠ some j := fun j h1 h2 => by have h3 := hd33 j h1; have h4 := (fun j hj => hs28.lt j hj) j h2; omega
      replace hd33 : ∀ j, u33.ownBlock = some j → w0.heap.size ≤ j := fun j hj => Nat.le_trans hB.size (hd33 j hj)
      have hds_hs34_hs21 : ∀ j, u34.ownBlock = some j → u21.ownBlock ≠ some j := fun j h1 h2 => by have h3 := hd34 j h1; have h4 := (fun j hj => hs21.lt j hj) j h2; omega
      have hds_hs34_hs22 : ∀ j, u34.ownBlock = some j → u22.ownBlock ≠ some j := fun j h1 h2 => by have h3 := hd34 j h1; have h4 := (fun j hj => hs22.lt j hj) j h2; omega
      have hds_hs34_hs26 : ∀ j, u34.ownBlock = some j → u26.ownBlock ≠ some j := fun j h1 h2 => by have h3 := hd34 j h1; have h4 := (fun j hj => hs26.lt j hj) j h2; omega
      have hds_hs34_hs27 : ∀ j, u34.ownBlock = some j → u27.ownBlock ≠ some j := fun j h1 h2 => by have h3 := hd34 j h1; have h4 := (fun j hj => hs27.lt j hj) j h2; omega
      have hds_hs34_hs28 : ∀ j, u34.ownBlock = some j → u28.ownBlock ≠ some j := fun j h1 h2 => by have h3 := hd34 j h1; have h4 := (fun j hj => hs28.lt j hj) j h2; omega
      replace hd34 : ∀ j, u34.ownBlock = some j → w0.heap.size ≤ j := fun j hj => Nat.le_trans hB.size (hd34 j hj)
      replace hB := keepB0 hg hB
      replace hs21 := keepS0 hg hs21
      replace hs22 := keepS0 hg hs22
      replace hs26 := keepS0 hg hs26
      replace hs27 := keepS0 hg hs27
      replace hs28 := keepS0 hg hs28
      clear hg
      refine ⟨_, rfl, ?_⟩; intro a ha
      refine sv ha (r_move ha rfl) rfl rfl rfl ?_; clear ha a; intro a ha
      refine sv ha (r_extract ha (vs := #[u32, u33, u34]) rfl rfl) rfl rfl rfl ?_; clear ha a; intro a ha
      refine sv ha (r_extract ha (vs := #[u32, u33, u34]) rfl rfl) rfl rfl rfl ?_; clear ha a; intro a ha
      refine sv ha (r_extract ha (vs := #[u32, u33, u34]) rfl rfl) rfl rfl rfl ?_; clear ha a; intro a ha
      refine sv ha (r_assign ha rfl) rfl rfl rfl ?_; clear ha a; intro a ha
      refine sv ha (r_assign ha rfl) rfl rfl rfl ?_; clear ha a; intro a ha
      refine sv ha (r_assign ha rfl) rfl rfl rfl ?_; clear ha a; intro a ha
      refine hK30 _ _ ?_; clear hK30 K29
      refine wp_seq_k fun K35 hK36 => ?_
      refine region ?_
      refine sv ha (r_move ha rfl) rfl rfl rfl ?_; clear ha a; intro a ha
      refine sv ha (r_str (l := th1 ck i) ha Tryd.underlying22 Tryd.underlying5 Tryd.underlying9 rfl hs21) rfl rfl rfl ?_; clear ha a; intro a ha
      refine sv ha (r_move ha rfl) rfl rfl rfl ?_; clear ha a; intro a ha
      refine sv ha (r_str (l := th1 ck i) ha Tryd.underlying22 Tryd.underlying5 Tryd.underlying9 rfl hs32) rfl rfl rfl ?_; clear ha a; intro a ha
      refine sv ha (r_eqlS ha (th1 ck i) (th1 ck i) true rfl rfl (decide_eq_true rfl)) rfl rfl rfl ?_; clear ha a; intro a ha
      refine sv ha (r_move ha rfl) rfl rfl rfl ?_; clear ha a; intro a ha
      refine svg ha (r_move ha rfl) rfl rfl rfl rfl rfl ?_; clear ha a; intro a ha
      refine svg ha (r_str (l := th2 ck i) ha Tryd.underlying22 Tryd.underlying5 Tryd.underlying9 rfl hs22) rfl rfl rfl rfl rfl ?_; clear ha a; intro a ha
      refine svg ha (r_move ha rfl) rfl rfl rfl rfl rfl ?_; clear ha a; intro a ha
      refine svg ha (r_str (l := th2 ck i) ha Tryd.underlying22 Tryd.underlying5 Tryd.underlying9 rfl hs33) rfl rfl rfl rfl rfl ?_; clear ha a; intro a ha
      refine svg ha (r_eqlS ha (th2 ck i) (th2 ck i) true rfl rfl (decide_eq_true rfl)) rfl rfl rfl rfl rfl ?_; clear ha a; intro a ha
      refine sv ha (r_pick ha true rfl rfl) rfl rfl rfl ?_; clear ha a; intro a ha
      refine sv ha (r_move ha rfl) rfl rfl rfl ?_; clear ha a; intro a ha
      refine svg ha (r_move ha rfl) rfl rfl rfl rfl rfl ?_; clear ha a; intro a ha
      refine svg ha (r_str (l := th1 ck i) ha Tryd.underlying22 Tryd.underlying5 Tryd.underlying9 rfl hs26) rfl rfl rfl rfl rfl ?_; clear ha a; intro a ha
      refine svg ha (r_move ha rfl) rfl rfl rfl rfl rfl ?_; clear ha a; intro a ha
      refine svg ha (r_str (l := th1 ck i) ha Tryd.underlying22 Tryd.underlying5 Tryd.underlying9 rfl hs32) rfl rfl rfl rfl rfl ?_; clear ha a; intro a ha
      refine svg ha (r_eqlS ha (th1 ck i) (th1 ck i) true rfl rfl (decide_eq_true rfl)) rfl rfl rfl rfl rfl ?_; clear ha a; intro a ha
      refine sv ha (r_pick ha true rfl rfl) rfl rfl rfl ?_; clear ha a; intro a ha
      refine sv ha (r_move ha rfl) rfl rfl rfl ?_; clear ha a; intro a ha
      refine svg ha (r_move ha rfl) rfl rfl rfl rfl rfl ?_; clear ha a; intro a ha
      refine svg ha (r_str (l := th2 ck i) ha Tryd.underlying22 Tryd.underlying5 Tryd.underlying9 rfl hs27) rfl rfl rfl rfl rfl ?_; clear ha a; intro a ha
      refine svg ha (r_move ha rfl) rfl rfl rfl rfl rfl ?_; clear ha a; intro a ha
      refine svg ha (r_str (l := th2 ck i) ha Tryd.underlying22 Tryd.underlying5 Tryd.underlying9 rfl hs33) rfl rfl rfl rfl rfl ?_; clear ha a; intro a ha
      refine svg ha (r_eqlS ha (th2 ck i) (th2 ck i) true rfl rfl (decide_eq_true rfl)) rfl rfl rfl rfl rfl ?_; clear ha a; intro a ha
      refine sv ha (r_pick ha true rfl rfl) rfl rfl rfl ?_; clear ha a; intro a ha
      refine sv ha (r_move ha rfl) rfl rfl rfl ?_; clear ha a; intro a ha
      refine svg ha (r_move ha rfl) rfl rfl rfl rfl rfl ?_; clear ha a; intro a ha
      refine svg ha (r_str (l := th3 ck i) ha Tryd.underlying22 Tryd.underlying5 Tryd.underlying9 rfl hs28) rfl rfl rfl rfl rfl ?_; clear ha a; intro a ha
      refine svg ha (r_move ha rfl) rfl rfl rfl rfl rfl ?_; clear ha a; intro a ha
      refine svg ha (r_str (l := th3 ck i) ha Tryd.underlying22 Tryd.underlying5 Tryd.underlying9 rfl hs34) rfl rfl rfl rfl rfl ?_; clear ha a; intro a ha
      refine svg ha (r_eqlS ha (th3 ck i) (th3 ck i) true rfl rfl (decide_eq_true rfl)) rfl rfl rfl rfl rfl ?_; clear ha a; intro a ha
      refine sv ha (r_pick ha true rfl rfl) rfl rfl rfl ?_; clear ha a; intro a ha
      refine sv ha (r_assign ha rfl) rfl rfl rfl ?_; clear ha a; intro a ha
      refine hK36 _ _ ?_; clear hK36 K35
      refine wp_ret ?_
      repeat (first | (with_reducible refine t_ret ?_) | (with_reducible refine x_ret ?_))
      exact ret1 ha Tryd.results9 rfl ⟨rfl, hB⟩
  case true =>
    replace hq14 := of_decide_eq_true hq14
    refine sno ha rfl rfl rfl rfl rfl rfl ?_; clear ha a; intro a ha
    refine sno ha rfl rfl rfl rfl rfl rfl ?_; clear ha a; intro a ha
    refine sno ha rfl rfl rfl rfl rfl rfl ?_; clear ha a; intro a ha
    refine sv ha (r_pick ha true rfl rfl) rfl rfl rfl ?_; clear ha a; intro a ha
    refine hK13 _ _ ?_; clear hK13 K12
    refine cond_t ha rfl ?_
    refine wp_seq_k fun K37 hK38 => ?_
    refine region ?_
    refine sv ha (r_assign ha rfl) rfl rfl rfl ?_; clear ha a; intro a ha
    refine hK38 _ _ ?_; clear hK38 K37
    refine wp_ret ?_
    repeat (first | (with_reducible refine t_ret ?_) | (with_reducible refine x_ret ?_))
    exact ret1 ha Tryd.results9 rfl ⟨rfl, hB⟩

theorem law_HkdfLong (c : UInt8) (n : Int) (u : Value) (b : List UInt8) (w0 : World) (hsu : Sl w0 u (b.map e8)) (hG : Glob w0) :
    Calls Tryd.prog 11 #[e8 c, ei n, u] w0 fun e w' => e = .returned (.bool true) ∧ Below w0.heap.size w0 w' := by
  refine enter (args := [_, _, _]) Tryd.func11 rfl Tryd.ntmps11 rfl ?_
  intro a ha
  have hB := Below.refl w0.heap.size w0
  refine wp_seq_k fun K1 hK2 => ?_
  refine region ?_
  refine sv ha (r_assign ha rfl) rfl rfl rfl ?_; clear ha a; intro a ha
  refine hK2 _ _ ?_; clear hK2 K1
  refine wp_seq_k fun K3 hK4 => ?_
  refine region ?_
  refine sc ha (r_call ha [] rfl Tryd.call30) rfl rfl rfl (c_awake04  _ (glob_keep hG hB)) ?_
  clear ha a
  rintro e w5 ⟨rfl, hBc⟩
  have hg := grown_call hBc; clear hBc
  replace hB := keepB0 hg hB
  clear hg
  refine ⟨_, rfl, ?_⟩; intro a ha
  refine sv ha (r_assign ha rfl) rfl rfl rfl ?_; clear ha a; intro a ha
  refine hK4 _ _ ?_; clear hK4 K3
  refine wp_seq_k fun K6 hK7 => ?_
  refine wp_seq_k fun K8 hK9 => ?_
  refine region ?_
  refine sv ha (r_move ha rfl) rfl rfl rfl ?_; clear ha a; intro a ha
  refine sv ha (r_not ha true false rfl rfl) rfl rfl rfl ?_; clear ha a; intro a ha
  refine hK9 _ _ ?_; clear hK9 K8
  refine cond_f ha rfl ?_
  refine wp_skip ?_
  refine hK7 _ _ ?_; clear hK7 K6
  refine wp_seq_k fun K10 hK11 => ?_
  refine wp_seq_k fun K12 hK13 => ?_
  refine region ?_
  refine sv ha (r_move ha rfl) rfl rfl rfl ?_; clear ha a; intro a ha
  refine sv ha (r_lenS ha Tryd.runUnderlying22 (hsu.below hB) rfl (by rw [List.length_map])) rfl rfl rfl ?_; clear ha a; intro a ha
  refine sv ha (r_gtr ha ((b.length : Nat) : Int) 500 (decide (b.length > 500)) rfl rfl (decide_eq_decide.2 (by omega))) rfl rfl rfl ?_; clear ha a; intro a ha
  refine hK13 _ _ ?_; clear hK13 K12
  refine cond_if ha rfl (fun hc14 => ?_) (fun hc14 => ?_)
  · skip
    replace hc14 := of_decide_eq_true hc14
    refine wp_seq_k fun K15 hK16 => ?_
    refine region ?_
    refine sv ha (r_assign ha rfl) rfl rfl rfl ?_; clear ha a; intro a ha
    refine hK16 _ _ ?_; clear hK16 K15
    refine wp_ret ?_
    repeat (first | (with_reducible refine t_ret ?_) | (with_reducible refine x_ret ?_))
    exact ret1 ha Tryd.results11 rfl ⟨rfl, hB⟩
  · skip
    replace hc14 := of_decide_eq_false hc14
    refine wp_skip ?_
    refine hK11 _ _ ?_; clear hK11 K10
    refine wp_seq_k fun K17 hK18 => ?_
    refine region ?_
    refine sv ha (r_assign ha rfl) rfl rfl rfl ?_; clear ha a; intro a ha
    refine hK18 _ _ ?_; clear hK18 K17
    refine wp_seq_k fun K19 hK20 => ?_
    refine wp_seq_k fun K21 hK22 => ?_
    refine region ?_
    refine sv ha (r_assign ha rfl) rfl rfl rfl ?_; clear ha a; intro a ha
    refine hK22 _ _ ?_; clear hK22 K21
    refine wp_block ?_
    refine loopG (fun (i : Nat) a w => ∃ vk : Value, (i ≤ (120 + (n % (2 ^ 5 : Nat)).toNat)) ∧ Has 54 [(0, e8 c), (1, ei n), (2, u), (6, .bool false), (11, .bool true), (7, .bool true), (12, .bool true), (13, .bool false), (14, u), (15, en b.length), (16, .bool (decide (b.length > 500))), (9, en i), (8, vk)] a ∧ Below w0.heap.size w0 w ∧ w.ownsRow w0.heap.size 5 1 vk (kcA c i).length ((kcA c i).map e8)) (fun i => (120 + (n % (2 ^ 5 : Nat)).toNat) - i) 0 ⟨.slice none 0 0, (by omega), ha.to [0, 1, 2, 6, 11, 7, 12, 13, 14, 15, 16, 9, 8] rfl, hB, (own_castl (l := ([] : List UInt8)) (World.ownsRow_nil _ _ _ _) rfl)⟩ ?_
    clear ha a hB
    intro i a w23 ⟨vk, hki, ha, hB, hovk⟩
    have hkc := kcA_len c i
    refine wp_seq_k fun K24 hK25 => ?_
    refine wp_seq_k fun K26 hK27 => ?_
    refine region ?_
    refine sv ha (r_move ha rfl) rfl rfl rfl ?_; clear ha a; intro a ha
    refine sv ha (r_move ha rfl) rfl rfl rfl ?_; clear ha a; intro a ha
    refine sv ha (r_mask ha n 5 (by omega) (m := 31) rfl rfl rfl) rfl rfl rfl ?_; clear ha a; intro a ha
    refine sv ha (rn_add ha 120 ((n % (2 ^ 5 : Nat)).toNat) rfl rfl (by omega)) rfl rfl rfl ?_; clear ha a; intro a ha
    refine sv ha (r_lss ha ((i : Nat) : Int) ((120 + ((n % (2 ^ 5 : Nat)).toNat) : Nat) : Int) (decide (i < 120 + ((n % (2 ^ 5 : Nat)).toNat))) rfl rfl (decide_eq_decide.2 (by omega))) rfl rfl rfl ?_; clear ha a; intro a ha
    refine hK27 _ _ ?_; clear hK27 K26
    refine cond_if ha rfl (fun hc28 => ?_) (fun hc28 => ?_)
    · skip
      replace hc28 := of_decide_eq_true hc28
      refine wp_skip ?_
      refine hK25 _ _ ?_; clear hK25 K24
      refine wp_seq_k fun K29 hK30 => ?_
      refine wp_block ?_
      refine region ?_
      refine sv ha (r_move ha rfl) rfl rfl rfl ?_; clear ha a; intro a ha
      refine sv ha (r_move ha rfl) rfl rfl rfl ?_; clear ha a; intro a ha
      refine sv ha (r_move ha rfl) rfl rfl rfl ?_; clear ha a; intro a ha
      refine sv ha (r_conv_n_u8w ha i Tryd.runUnderlying3 Tryd.runUnderlying5 rfl) rfl rfl rfl ?_; clear ha a; intro a ha
      refine sv ha (rb_add ha c (UInt8.ofNat i) rfl rfl) rfl rfl rfl ?_; clear ha a; intro a ha
      refine sbuildS ha [(0, e8 (c + (UInt8.ofNat i)))] (([c + (UInt8.ofNat i)] : List UInt8).map e8) rfl Tryd.runUnderlying22 Tryd.sizeOf5 Tryd.zeroValue5 rfl rfl rfl rfl rfl ?_
      clear ha a; intro a w31 b32 ha hg hb32 hge32 hlt32
      have hz32 : w0.heap.size ≤ b32 := Nat.le_trans hB.size hge32
      have hne_hovk_b32 : ∀ j, Value.ownBlock vk = some j → j ≠ b32 := fun j hj => by have := (hovk.lt j hj).2; omega
      replace hB := keepB0 hg hB
      replace hovk := keepW0 hg hovk
      clear hg hge32 hlt32
      refine sapp (C := ((kcA c i)).map e8) (D := (([c + (UInt8.ofNat i)] : List UInt8)).map e8) ha rfl rfl Tryd.underlying22 rfl rfl rfl rfl hovk (Sl.ofBlockM hb32 (by rw [show ([c + (UInt8.ofNat i)] : List UInt8).length = 1 from rfl]) (by omega)) (one_e8 _) (by simp only [List.length_map, List.length_append, List.length_replicate, List.length_cons, List.length_nil, inA_len, sum256_len, th1_len, th2_len, mac_len]; show _ * 1 ≤ _; omega) (by simp only [List.length_map, List.length_append, List.length_replicate, List.length_cons, List.length_nil, inA_len, sum256_len, th1_len, th2_len, mac_len]; omega) hB.size rfl ?_
      clear ha a; intro a w34 v33 ha hg ho33 hnl33 hpl33
      rw [← List.map_append, List.length_map, show ([c + (UInt8.ofNat i)] : List UInt8).length = 1 from rfl] at ho33
      rw [List.length_map, show ([c + (UInt8.ofNat i)] : List UInt8).length = 1 from rfl] at hnl33
      have hne_33_b32 : ∀ j, v33.ownBlock = some j → j ≠ b32 := fun j hj => (hpl33 j hj).elim (fun h => hne_hovk_b32 j h) (fun h => by have := lt_of_block hb32; omega)
      replace hB := keepBR hg (own_row hovk) hB
      replace hb32 := keepOR hg (ne_of_ap hne_hovk_b32) hb32
      clear hg
      refine sv ha (r_assign ha rfl) rfl rfl rfl ?_; clear ha a; intro a ha
      refine hK30 _ _ ?_; clear hK30 K29
      refine region ?_
      refine sv ha (r_move ha rfl) rfl rfl rfl ?_; clear ha a; intro a ha
      refine sv ha (rn_add ha i 1 rfl rfl (by omega)) rfl rfl rfl ?_; clear ha a; intro a ha
      refine sv ha (r_assign ha rfl) rfl rfl rfl ?_; clear ha a; intro a ha
      exact ⟨i + 1, by omega, v33, (by omega), ha.to [0, 1, 2, 6, 11, 7, 12, 13, 14, 15, 16, 9, 8] rfl, hB, (own_castl (own_len ho33) rfl)⟩
    · skip
      replace hc28 := of_decide_eq_false hc28
      refine wp_exit ?_
      obtain rfl : i = (120 + (n % (2 ^ 5 : Nat)).toNat) := by omega
      refine hK20 _ _ ?_; clear hK25 K24 hK20 K19
      refine wp_seq_k fun K35 hK36 => ?_
      refine region ?_
      refine sv ha (r_move ha rfl) rfl rfl rfl ?_; clear ha a; intro a ha
      refine sv ha (r_move ha rfl) rfl rfl rfl ?_; clear ha a; intro a ha
      refine sc ha (r_call ha [vk, u] rfl Tryd.call31) rfl rfl rfl (c_mac vk (kcA c (120 + (n % (2 ^ 5 : Nat)).toNat)) u b _ (Sl.ofOwns hovk) (hsu.below hB) (by omega) (glob_keep hG hB)) ?_
      clear ha a
      rintro e w37 ⟨u38, rfl, hBc, hs38, hd38⟩
      have hg := grown_call hBc; clear hBc
      have hds_hs38_hovk : ∀ j, u38.ownBlock = some j → vk.ownBlock ≠ some j := fun j h1 h2 => by have h3 := hd38 j h1; have h4 := (fun j hj => (hovk.lt j hj).2) j h2; omega
      replace hd38 : ∀ j, u38.ownBlock = some j → w0.heap.size ≤ j := fun j hj => Nat.le_trans hB.size (hd38 j hj)
      replace hB := keepB0 hg hB
      replace hovk := keepW0 hg hovk
      clear hg
      refine ⟨_, rfl, ?_⟩; intro a ha
      refine sv ha (r_assign ha rfl) rfl rfl rfl ?_; clear ha a; intro a ha
      refine hK36 _ _ ?_; clear hK36 K35
      refine wp_seq_k fun K39 hK40 => ?_
      refine wp_seq_k fun K41 hK42 => ?_
      refine regionD (S := fun w => Below w0.heap.size w0 w ∧ w.ownsRow w0.heap.size 5 1 vk (kcA c (120 + (n % (2 ^ 5 : Nat)).toNat)).length ((kcA c (120 + (n % (2 ^ 5 : Nat)).toNat)).map e8) ∧ Sl w u38 ((mac (kcA c (120 + (n % (2 ^ 5 : Nat)).toNat)) b).map e8) ∧ True) [] [0, 1, 2, 3, 5, 6] [0, 1, 2, 3, 4, 5, 6] mixed (by kernel_rfl) (fun w hg => ⟨keepB0 hg hB, keepW0 hg hovk, keepS0 hg hs38, trivial⟩) ?_
      intro w43 hg
      replace hB := keepB0 hg hB
      replace hovk := keepW0 hg hovk
      replace hs38 := keepS0 hg hs38
      clear hg
      refine cv ha rfl rfl (fun w _ => r_move ha rfl) rfl rfl rfl ?_; clear ha a; intro a ha
      refine cv ha rfl rfl (fun w ⟨hB, hovk, hs38, _⟩ => r_str (l := mac (kcA c (120 + (n % (2 ^ 5 : Nat)).toNat)) b) ha Tryd.underlying22 Tryd.underlying5 Tryd.underlying9 rfl hs38) rfl rfl rfl ?_; clear ha a; intro a ha
      refine cv ha rfl rfl (fun w _ => r_move ha rfl) rfl rfl rfl ?_; clear ha a; intro a ha
      refine cv ha rfl rfl (fun w _ => r_move ha rfl) rfl rfl rfl ?_; clear ha a; intro a ha
      refine ccx ha rfl rfl (r_call ha [vk, u] rfl Tryd.call32) rfl rfl rfl (c_rmac vk (kcA c (120 + (n % (2 ^ 5 : Nat)).toNat)) u b _ (Sl.ofOwns hovk) (hsu.below hB) (by omega) (by rw [kcA_len]; omega)) ?_
      clear ha a
      rintro e w44 ⟨u45, rfl, hBc, hs45, hd45⟩
      have hg := grown_call hBc; clear hBc
      have hds_hs45_hovk : ∀ j, u45.ownBlock = some j → vk.ownBlock ≠ some j := fun j h1 h2 => by have h3 := hd45 j h1; have h4 := (fun j hj => (hovk.lt j hj).2) j h2; omega
      have hds_hs45_hs38 : ∀ j, u45.ownBlock = some j → u38.ownBlock ≠ some j := fun j h1 h2 => by have h3 := hd45 j h1; have h4 := (fun j hj => hs38.lt j hj) j h2; omega
      replace hd45 : ∀ j, u45.ownBlock = some j → w0.heap.size ≤ j := fun j hj => Nat.le_trans hB.size (hd45 j hj)
      replace hB := keepB0 hg hB
      replace hovk := keepW0 hg hovk
      replace hs38 := keepS0 hg hs38
      clear hg
      refine ⟨fun w => (Sl w u45 ((mac (kcA c (120 + (n % (2 ^ 5 : Nat)).toNat)) b).map e8)) ∧ Below w0.heap.size w0 w ∧ w.ownsRow w0.heap.size 5 1 vk (kcA c (120 + (n % (2 ^ 5 : Nat)).toNat)).length ((kcA c (120 + (n % (2 ^ 5 : Nat)).toNat)).map e8) ∧ Sl w u38 ((mac (kcA c (120 + (n % (2 ^ 5 : Nat)).toNat)) b).map e8) ∧ True, fun w h => h.2, fun _ => ⟨hs45, hB, hovk, hs38, trivial⟩, _, rfl, ?_⟩; intro a ha
      refine cv ha rfl rfl (fun w ⟨hs45, hB, hovk, hs38, _⟩ => r_str (l := mac (kcA c (120 + (n % (2 ^ 5 : Nat)).toNat)) b) ha Tryd.underlying22 Tryd.underlying5 Tryd.underlying9 rfl hs45) rfl rfl rfl ?_; clear ha a; intro a ha
      refine cv ha rfl rfl (fun w _ => r_neqS ha (mac (kcA c (120 + (n % (2 ^ 5 : Nat)).toNat)) b) (mac (kcA c (120 + (n % (2 ^ 5 : Nat)).toNat)) b) false rfl rfl (decide_eq_false (by simp))) rfl rfl rfl ?_; clear ha a; intro a ha
      refine cfin (hK42 _ _ ?_); clear hK42 K41
      refine cond_f ha rfl ?_
      refine wp_skip ?_
      refine hK40 _ _ ?_; clear hK40 K39
      refine wp_seq_k fun K46 hK47 => ?_
      refine regionD (S := fun w => Below w0.heap.size w0 w ∧ w.ownsRow w0.heap.size 5 1 vk (kcA c (120 + (n % (2 ^ 5 : Nat)).toNat)).length ((kcA c (120 + (n % (2 ^ 5 : Nat)).toNat)).map e8) ∧ Sl w u38 ((mac (kcA c (120 + (n % (2 ^ 5 : Nat)).toNat)) b).map e8) ∧ Sl w u45 ((mac (kcA c (120 + (n % (2 ^ 5 : Nat)).toNat)) b).map e8) ∧ True) [] [0, 1, 2, 3, 4, 5, 6, 8, 10, 11, 12, 13] [0, 1, 2, 3, 4, 5, 6, 8, 7, 9, 10, 11, 12, 13] mixed (by kernel_rfl) (fun w hg => ⟨keepB0 hg hB, keepW0 hg hovk, keepS0 hg hs38, keepS0 hg hs45, trivial⟩) ?_
      intro w48 hg
      replace hB := keepB0 hg hB
      replace hovk := keepW0 hg hovk
      replace hs38 := keepS0 hg hs38
      replace hs45 := keepS0 hg hs45
      clear hg
      refine cv ha rfl rfl (fun w _ => r_move ha rfl) rfl rfl rfl ?_; clear ha a; intro a ha
      refine cv ha rfl rfl (fun w ⟨hB, hovk, hs38, hs45, _⟩ => r_lenS ha Tryd.runUnderlying22 (Sl.ofOwns hovk) rfl (by rw [List.length_map])) rfl rfl rfl ?_; clear ha a; intro a ha
      refine cv ha rfl rfl (fun w _ => r_leq ha (((kcA c (120 + (n % (2 ^ 5 : Nat)).toNat)).length : Nat) : Int) 136 (decide ((kcA c (120 + (n % (2 ^ 5 : Nat)).toNat)).length ≤ 136)) rfl rfl (decide_eq_decide.2 (by omega))) rfl rfl rfl ?_; clear ha a; intro a ha
      refine cv ha rfl rfl (fun w _ => r_move ha rfl) rfl rfl rfl ?_; clear ha a; intro a ha
      cases hq49 : (decide ((kcA c (120 + (n % (2 ^ 5 : Nat)).toNat)).length ≤ 136))
      all_goals rw [hq49] at ha
      case false =>
        replace hq49 := of_decide_eq_false hq49
        refine cvg ha rfl rfl (fun w _ => r_move ha rfl) rfl rfl rfl rfl rfl ?_; clear ha a; intro a ha
        refine cvg ha rfl rfl (fun w ⟨hB, hovk, hs38, hs45, _⟩ => r_str (l := mac (kcA c (120 + (n % (2 ^ 5 : Nat)).toNat)) b) ha Tryd.underlying22 Tryd.underlying5 Tryd.underlying9 rfl hs38) rfl rfl rfl rfl rfl ?_; clear ha a; intro a ha
        refine cvg ha rfl rfl (fun w _ => r_move ha rfl) rfl rfl rfl rfl rfl ?_; clear ha a; intro a ha
        refine cvg ha rfl rfl (fun w _ => r_move ha rfl) rfl rfl rfl rfl rfl ?_; clear ha a; intro a ha
        refine ccgx ha rfl rfl (r_call ha [vk] rfl Tryd.call21) rfl rfl rfl rfl rfl (c_sum256 vk (kcA c (120 + (n % (2 ^ 5 : Nat)).toNat)) _ (Sl.ofOwns hovk) (glob_keep hG hB)) ?_
        clear ha a
        rintro e w50 ⟨u51, rfl, hBc, hs51, hd51⟩
        have hg := grown_call hBc; clear hBc
        have hds_hs51_hovk : ∀ j, u51.ownBlock = some j → vk.ownBlock ≠ some j := fun j h1 h2 => by have h3 := hd51 j h1; have h4 := (fun j hj => (hovk.lt j hj).2) j h2; omega
        have hds_hs51_hs38 : ∀ j, u51.ownBlock = some j → u38.ownBlock ≠ some j := fun j h1 h2 => by have h3 := hd51 j h1; have h4 := (fun j hj => hs38.lt j hj) j h2; omega
        have hds_hs51_hs45 : ∀ j, u51.ownBlock = some j → u45.ownBlock ≠ some j := fun j h1 h2 => by have h3 := hd51 j h1; have h4 := (fun j hj => hs45.lt j hj) j h2; omega
        replace hd51 : ∀ j, u51.ownBlock = some j → w0.heap.size ≤ j := fun j hj => Nat.le_trans hB.size (hd51 j hj)
        replace hB := keepB0 hg hB
        replace hovk := keepW0 hg hovk
        replace hs38 := keepS0 hg hs38
        replace hs45 := keepS0 hg hs45
        clear hg
        refine ⟨fun w => (Sl w u51 ((sum256 (kcA c (120 + (n % (2 ^ 5 : Nat)).toNat))).map e8)) ∧ Below w0.heap.size w0 w ∧ w.ownsRow w0.heap.size 5 1 vk (kcA c (120 + (n % (2 ^ 5 : Nat)).toNat)).length ((kcA c (120 + (n % (2 ^ 5 : Nat)).toNat)).map e8) ∧ Sl w u38 ((mac (kcA c (120 + (n % (2 ^ 5 : Nat)).toNat)) b).map e8) ∧ Sl w u45 ((mac (kcA c (120 + (n % (2 ^ 5 : Nat)).toNat)) b).map e8) ∧ True, fun w h => h.2, fun _ => ⟨hs51, hB, hovk, hs38, hs45, trivial⟩, _, rfl, ?_⟩; intro a ha
        refine ccgx ha rfl rfl (r_call ha [u51, u] rfl Tryd.call31) rfl rfl rfl rfl rfl (c_mac u51 (sum256 (kcA c (120 + (n % (2 ^ 5 : Nat)).toNat))) u b _ hs51 (hsu.below hB) (by omega) (glob_keep hG hB)) ?_
        clear ha a
        rintro e w52 ⟨u53, rfl, hBc, hs53, hd53⟩
        have hg := grown_call hBc; clear hBc
        have hds_hs53_hovk : ∀ j, u53.ownBlock = some j → vk.ownBlock ≠ some j := fun j h1 h2 => by have h3 := hd53 j h1; have h4 := (fun j hj => (hovk.lt j hj).2) j h2; omega
        have hds_hs53_hs38 : ∀ j, u53.ownBlock = some j → u38.ownBlock ≠ some j := fun j h1 h2 => by have h3 := hd53 j h1; have h4 := (fun j hj => hs38.lt j hj) j h2; omega
        have hds_hs53_hs45 : ∀ j, u53.ownBlock = some j → u45.ownBlock ≠ some j := fun j h1 h2 => by have h3 := hd53 j h1; have h4 := (fun j hj => hs45.lt j hj) j h2; omega
        have hds_hs53_hs51 : ∀ j, u53.ownBlock = some j → u51.ownBlock ≠ some j := fun j h1 h2 => by have h3 := hd53 j h1; have h4 := (fun j hj => hs51.lt j hj) j h2; omega
        replace hd53 : ∀ j, u53.ownBlock = some j → w0.heap.size ≤ j := fun j hj => Nat.le_trans hB.size (hd53 j hj)
        replace hB := keepB0 hg hB
        replace hovk := keepW0 hg hovk
        replace hs38 := keepS0 hg hs38
        replace hs45 := keepS0 hg hs45
        replace hs51 := keepS0 hg hs51
        clear hg
        refine ⟨fun w => (Sl w u53 ((mac (sum256 (kcA c (120 + (n % (2 ^ 5 : Nat)).toNat))) b).map e8)) ∧ (Sl w u51 ((sum256 (kcA c (120 + (n % (2 ^ 5 : Nat)).toNat))).map e8)) ∧ Below w0.heap.size w0 w ∧ w.ownsRow w0.heap.size 5 1 vk (kcA c (120 + (n % (2 ^ 5 : Nat)).toNat)).length ((kcA c (120 + (n % (2 ^ 5 : Nat)).toNat)).map e8) ∧ Sl w u38 ((mac (kcA c (120 + (n % (2 ^ 5 : Nat)).toNat)) b).map e8) ∧ Sl w u45 ((mac (kcA c (120 + (n % (2 ^ 5 : Nat)).toNat)) b).map e8) ∧ True, fun w h => h.2, fun _ => ⟨hs53, hs51, hB, hovk, hs38, hs45, trivial⟩, _, rfl, ?_⟩; intro a ha
        refine cvg ha rfl rfl (fun w ⟨hs53, hs51, hB, hovk, hs38, hs45, _⟩ => r_str (l := mac (sum256 (kcA c (120 + (n % (2 ^ 5 : Nat)).toNat))) b) ha Tryd.underlying22 Tryd.underlying5 Tryd.underlying9 rfl hs53) rfl rfl rfl rfl rfl ?_; clear ha a; intro a ha
        refine cvg ha rfl rfl (fun w _ => r_eqlS ha (mac (kcA c (120 + (n % (2 ^ 5 : Nat)).toNat)) b) (mac (sum256 (kcA c (120 + (n % (2 ^ 5 : Nat)).toNat))) b) true rfl rfl (decide_eq_true (mac_sum _ _ (by omega)))) rfl rfl rfl rfl rfl ?_; clear ha a; intro a ha
        refine cv ha rfl rfl (fun w _ => r_pick ha false rfl rfl) rfl rfl rfl ?_; clear ha a; intro a ha
        refine cv ha rfl rfl (fun w _ => r_assign ha rfl) rfl rfl rfl ?_; clear ha a; intro a ha
        refine cfin (hK47 _ _ ?_); clear hK47 K46
        refine wp_ret ?_
        repeat (first | (with_reducible refine t_ret ?_) | (with_reducible refine x_ret ?_))
        exact ret1 ha Tryd.results11 rfl ⟨rfl, hB⟩
      case true =>
        replace hq49 := of_decide_eq_true hq49
        refine cno ha rfl rfl rfl rfl rfl rfl rfl rfl ?_; clear ha a; intro a ha
        refine cno ha rfl rfl rfl rfl rfl rfl rfl rfl ?_; clear ha a; intro a ha
        refine cno ha rfl rfl rfl rfl rfl rfl rfl rfl ?_; clear ha a; intro a ha
        refine cno ha rfl rfl rfl rfl rfl rfl rfl rfl ?_; clear ha a; intro a ha
        refine cnoU ha rfl rfl rfl rfl rfl rfl rfl rfl ⟨hB, hovk, hs38, hs45, trivial⟩ ?_; clear ha a; intro a ha
        refine cnoU ha rfl rfl rfl rfl rfl rfl rfl rfl ⟨hB, hovk, hs38, hs45, trivial⟩ ?_; clear ha a; intro a ha
        refine cno ha rfl rfl rfl rfl rfl rfl rfl rfl ?_; clear ha a; intro a ha
        refine cno ha rfl rfl rfl rfl rfl rfl rfl rfl ?_; clear ha a; intro a ha
        refine cv ha rfl rfl (fun w _ => r_pick ha true rfl rfl) rfl rfl rfl ?_; clear ha a; intro a ha
        refine cv ha rfl rfl (fun w _ => r_assign ha rfl) rfl rfl rfl ?_; clear ha a; intro a ha
        refine cfin (hK47 _ _ ?_); clear hK47 K46
        refine wp_ret ?_
        repeat (first | (with_reducible refine t_ret ?_) | (with_reducible refine x_ret ?_))
        exact ret1 ha Tryd.results11 rfl ⟨rfl, hB⟩
end Go.Proofs.YtdhgkfmniebghaaDoor
