/- WALKS written by gen.py (own program) out of specs. -/
import Derived.Test.YtdhgkfmniebghaaDoorH1
namespace Go.Proofs.YtdhgkfmniebghaaDoor
open Go.RowKit Go.Rx
set_option maxRecDepth 100000
set_option maxHeartbeats 4000000
set_option linter.unusedVariables false
set_option linter.unusedSimpArgs false

theorem c_rmacS (v : Value) (key : List UInt8) (u : Value) (b : List UInt8) (w0 : World) (hs : Sl w0 v (key.map e8)) (hsu : Sl w0 u (b.map e8)) (hb : b.length ≤ 50000) (hk : ¬ key.length > 136) (hk2 : key.length ≤ 50000) :
    Calls Tryd.prog 32 #[v, u] w0 fun e w' => ∃ u0 : Value, e = .returned (u0) ∧ Below w0.heap.size w0 w' ∧ Sl w' u0 ((mac key b).map e8) ∧ (∀ j, u0.ownBlock = some j → w0.heap.size ≤ j) := by
  refine enter (args := [_, _]) Tryd.func32 rfl Tryd.ntmps32 rfl ?_
  intro a ha
  have hB := Below.refl w0.heap.size w0
  have hkl : (key).length ≤ 136 := by first | omega | (rw [sum256_len]; omega)
  refine wp_seq_k fun K1 hK2 => ?_
  refine region ?_
  refine sv ha (r_assign ha rfl) rfl rfl rfl ?_; clear ha a; intro a ha
  refine hK2 _ _ ?_; clear hK2 K1
  refine wp_seq_k fun K3 hK4 => ?_
  refine region ?_
  refine sv ha (r_assign ha rfl) rfl rfl rfl ?_; clear ha a; intro a ha
  refine hK4 _ _ ?_; clear hK4 K3
  refine wp_seq_k fun K5 hK6 => ?_
  refine wp_seq_k fun K7 hK8 => ?_
  refine region ?_
  refine sv ha (r_move ha rfl) rfl rfl rfl ?_; clear ha a; intro a ha
  refine sv ha (r_lenS ha Tryd.runUnderlying22 (hs.below hB) rfl (by rw [List.length_map])) rfl rfl rfl ?_; clear ha a; intro a ha
  refine sv ha (r_gtr ha ((key.length : Nat) : Int) 136 false rfl rfl (decide_eq_false (by omega))) rfl rfl rfl ?_; clear ha a; intro a ha
  refine hK8 _ _ ?_; clear hK8 K7
  refine cond_f ha rfl ?_
  refine region ?_
  refine sv ha (r_move ha rfl) rfl rfl rfl ?_; clear ha a; intro a ha
  refine sv ha (r_move ha rfl) rfl rfl rfl ?_; clear ha a; intro a ha
  refine sapp (C := (([] : List UInt8)).map e8) (D := (key).map e8) ha rfl rfl Tryd.underlying22 rfl rfl rfl rfl (World.ownsRow_nil w0 w0.heap.size 5 1) (hs.below hB) (one_e8 _) (by simp only [List.length_map, List.length_append, List.length_replicate, List.length_cons, List.length_nil, inA_len, sum256_len, th1_len, th2_len, mac_len]; show _ * 1 ≤ _; omega) (by simp only [List.length_map, List.length_append, List.length_replicate, List.length_cons, List.length_nil, inA_len, sum256_len, th1_len, th2_len, mac_len]; omega) hB.size rfl ?_
  clear ha a; intro a w10 v9 ha hg ho9 hnl9 hpl9
  rw [← List.map_append, List.length_map] at ho9
  rw [List.nil_append, Nat.zero_add] at ho9
  have hg : World.grownBy w0 w10 none := hg
  replace hB := keepB0 hg hB
  clear hg
  refine sv ha (r_assign ha rfl) rfl rfl rfl ?_; clear ha a; intro a ha
  refine hK6 _ _ ?_; clear hK6 K5
  refine wp_seq_k fun K11 hK12 => ?_
  refine wp_block ?_
  refine loopG (fun (j : Nat) a w => ∃ vk : Value, (j ≤ (136 - (key).length)) ∧ Has 53 [(0, v), (1, u), (4, .slice none 0 0), (9, v), (10, en key.length), (11, .bool false), (16, .slice none 0 0), (17, v), (18, v9), (5, vk)] a ∧ Below w0.heap.size w0 w ∧ w.ownsRow w0.heap.size 5 1 vk (key ++ List.replicate j (0 : UInt8)).length ((key ++ List.replicate j (0 : UInt8)).map e8)) (fun j => (136 - (key).length) - j) 0 ⟨v9, (by omega), ha.to [0, 1, 4, 9, 10, 11, 16, 17, 18, 5] rfl, hB, (own_castl (own_len ho9) (by rw [List.replicate_zero, List.append_nil]))⟩ ?_
  clear ha a hB ho9
  intro j a w13 ⟨vk, hkj, ha, hB, hovk⟩
  refine wp_seq_k fun K14 hK15 => ?_
  refine wp_seq_k fun K16 hK17 => ?_
  refine region ?_
  refine sv ha (r_move ha rfl) rfl rfl rfl ?_; clear ha a; intro a ha
  refine sv ha (v_of (r_lenS ha Tryd.runUnderlying22 (Sl.ofOwns hovk) rfl (by rw [List.length_map])) (congrArg en ((by rw [List.length_append, List.length_replicate]) : (key ++ List.replicate j (0 : UInt8)).length = (key).length + j))) rfl rfl rfl ?_; clear ha a; intro a ha
  refine sv ha (r_lss ha (((key).length + j : Nat) : Int) 136 (decide ((key).length + j < 136)) rfl rfl (decide_eq_decide.2 (by omega))) rfl rfl rfl ?_; clear ha a; intro a ha
  refine hK17 _ _ ?_; clear hK17 K16
  refine cond_if ha rfl (fun hc18 => ?_) (fun hc18 => ?_)
  · skip
    replace hc18 := of_decide_eq_true hc18
    refine wp_skip ?_
    refine hK15 _ _ ?_; clear hK15 K14
    refine wp_block ?_
    refine region ?_
    refine sv ha (r_move ha rfl) rfl rfl rfl ?_; clear ha a; intro a ha
    refine sbuildS ha [(0, .int .u8 0)] (([(0 : UInt8)] : List UInt8).map e8) rfl Tryd.runUnderlying22 Tryd.sizeOf5 Tryd.zeroValue5 rfl rfl rfl rfl rfl ?_
    clear ha a; intro a w19 b20 ha hg hb20 hge20 hlt20
    have hz20 : w0.heap.size ≤ b20 := Nat.le_trans hB.size hge20
    have hne_hovk_b20 : ∀ j, Value.ownBlock vk = some j → j ≠ b20 := fun j hj => by have := (hovk.lt j hj).2; omega
    replace hB := keepB0 hg hB
    replace hovk := keepW0 hg hovk
    clear hg hge20 hlt20
    refine sapp (C := ((key ++ List.replicate j (0 : UInt8))).map e8) (D := (([(0 : UInt8)] : List UInt8)).map e8) ha rfl rfl Tryd.underlying22 rfl rfl rfl rfl hovk (Sl.ofBlockM hb20 (by rw [show ([(0 : UInt8)] : List UInt8).length = 1 from rfl]) (by omega)) (one_e8 _) (by simp only [List.length_map, List.length_append, List.length_replicate, List.length_cons, List.length_nil, inA_len, sum256_len, th1_len, th2_len, mac_len]; show _ * 1 ≤ _; omega) (by simp only [List.length_map, List.length_append, List.length_replicate, List.length_cons, List.length_nil, inA_len, sum256_len, th1_len, th2_len, mac_len]; omega) hB.size rfl ?_
    clear ha a; intro a w22 v21 ha hg ho21 hnl21 hpl21
    rw [← List.map_append, List.length_map, show ([(0 : UInt8)] : List UInt8).length = 1 from rfl] at ho21
    rw [List.length_map, show ([(0 : UInt8)] : List UInt8).length = 1 from rfl] at hnl21
    have hne_21_b20 : ∀ j, v21.ownBlock = some j → j ≠ b20 := fun j hj => (hpl21 j hj).elim (fun h => hne_hovk_b20 j h) (fun h => by have := lt_of_block hb20; omega)
    replace hB := keepBR hg (own_row hovk) hB
    replace hb20 := keepOR hg (ne_of_ap hne_hovk_b20) hb20
    clear hg
    replace ho21 := own_castl (own_len ho21) (rep_step _ j)
    refine sv ha (r_assign ha rfl) rfl rfl rfl ?_; clear ha a; intro a ha
    exact ⟨j + 1, by omega, v21, (by omega), ha.to [0, 1, 4, 9, 10, 11, 16, 17, 18, 5] rfl, hB, (own_castl (own_len ho21) rfl)⟩
  · skip
    replace hc18 := of_decide_eq_false hc18
    refine wp_exit ?_
    obtain rfl : j = (136 - (key).length) := by omega
    refine hK12 _ _ ?_; clear hK15 K14 hK12 K11
    refine wp_seq_k fun K23 hK24 => ?_
    refine region ?_
    refine sv ha (r_assign ha rfl) rfl rfl rfl ?_; clear ha a; intro a ha
    refine hK24 _ _ ?_; clear hK24 K23
    refine wp_seq_k fun K25 hK26 => ?_
    refine region ?_
    refine sv ha (r_assign ha rfl) rfl rfl rfl ?_; clear ha a; intro a ha
    refine hK26 _ _ ?_; clear hK26 K25
    refine wp_seq_k fun K27 hK28 => ?_
    refine wp_seq_k fun K29 hK30 => ?_
    refine region ?_
    refine sv ha (r_assign ha rfl) rfl rfl rfl ?_; clear ha a; intro a ha
    refine hK30 _ _ ?_; clear hK30 K29
    refine wp_block ?_
    refine loopG (fun (i : Nat) a w => ∃ vi : Value, ∃ vq : Value, (i ≤ 136) ∧ (∀ j, vq.ownBlock = some j → vi.ownBlock ≠ some j) ∧ (∀ j, vi.ownBlock = some j → vk.ownBlock ≠ some j) ∧ (∀ j, vq.ownBlock = some j → vk.ownBlock ≠ some j) ∧ Has 53 [(0, v), (1, u), (4, .slice none 0 0), (9, v), (10, en key.length), (11, .bool false), (16, .slice none 0 0), (17, v), (18, v9), (5, vk), (19, vk), (20, en ((key).length + (136 - (key).length))), (21, .bool (decide ((key).length + (136 - (key).length) < 136))), (8, en i), (6, vi), (7, vq)] a ∧ Below w0.heap.size w0 w ∧ w.ownsRow w0.heap.size 5 1 vk (key ++ List.replicate (136 - (key).length) (0 : UInt8)).length ((key ++ List.replicate (136 - (key).length) (0 : UInt8)).map e8) ∧ w.ownsRow w0.heap.size 5 1 vi (inA (key ++ List.replicate (136 - (key).length) (0 : UInt8)) 54 i).length ((inA (key ++ List.replicate (136 - (key).length) (0 : UInt8)) 54 i).map e8) ∧ w.ownsRow w0.heap.size 5 1 vq (inA (key ++ List.replicate (136 - (key).length) (0 : UInt8)) 92 i).length ((inA (key ++ List.replicate (136 - (key).length) (0 : UInt8)) 92 i).map e8)) (fun i => 136 - i) 0 ⟨.slice none 0 0, .slice none 0 0, (by omega), (fun j hj _ => (nil_own j hj).elim), (fun j hj _ => (nil_own j hj).elim), (fun j hj _ => (nil_own j hj).elim), ha.to [0, 1, 4, 9, 10, 11, 16, 17, 18, 5, 19, 20, 21, 8, 6, 7] rfl, hB, hovk, (own_castl (l := ([] : List UInt8)) (World.ownsRow_nil _ _ _ _) rfl), (own_castl (l := ([] : List UInt8)) (World.ownsRow_nil _ _ _ _) rfl)⟩ ?_
    clear ha a hB hovk
    intro i a w31 ⟨vi, vq, hki, hds_vq_vi, hds_vi_hovk, hds_vq_hovk, ha, hB, hovk, hovi, hovq⟩
    have hi1 := inA_len (key ++ List.replicate (136 - (key).length) (0 : UInt8)) 54 i
    have hi2 := inA_len (key ++ List.replicate (136 - (key).length) (0 : UInt8)) 92 i
    refine wp_seq_k fun K32 hK33 => ?_
    refine wp_seq_k fun K34 hK35 => ?_
    refine region ?_
    refine sv ha (r_move ha rfl) rfl rfl rfl ?_; clear ha a; intro a ha
    refine sv ha (r_lss ha ((i : Nat) : Int) 136 (decide (i < 136)) rfl rfl (decide_eq_decide.2 (by omega))) rfl rfl rfl ?_; clear ha a; intro a ha
    refine hK35 _ _ ?_; clear hK35 K34
    refine cond_if ha rfl (fun hc36 => ?_) (fun hc36 => ?_)
    · skip
      replace hc36 := of_decide_eq_true hc36
      refine wp_skip ?_
      refine hK33 _ _ ?_; clear hK33 K32
      refine wp_seq_k fun K37 hK38 => ?_
      refine wp_block ?_
      refine wp_seq_k fun K39 hK40 => ?_
      refine region ?_
      refine sv ha (r_move ha rfl) rfl rfl rfl ?_; clear ha a; intro a ha
      refine sv ha (r_move ha rfl) rfl rfl rfl ?_; clear ha a; intro a ha
      refine sv ha (r_move ha rfl) rfl rfl rfl ?_; clear ha a; intro a ha
      refine sv ha (r_indexS (i := i) ha Tryd.runUnderlying22 Tryd.sizeOf5 (Sl.ofOwns hovk) (C := (key ++ List.replicate (136 - (key).length) (0 : UInt8)).map e8) rfl rfl (by rw [List.length_map]; rw [List.length_append, List.length_replicate]; omega)) rfl rfl rfl ?_; clear ha a; intro a ha
      refine sv ha (r_loadS ha rfl Tryd.isAgg5 (Sl.ofOwns hovk) (get_map e8 (key ++ List.replicate (136 - (key).length) (0 : UInt8)) 0 i (by rw [List.length_append, List.length_replicate]; omega))) rfl rfl rfl ?_; clear ha a; intro a ha
      refine sv ha (rb_xor ha ((key ++ List.replicate (136 - (key).length) (0 : UInt8)).getD i 0) (54 : UInt8) rfl rfl) rfl rfl rfl ?_; clear ha a; intro a ha
      refine sbuildS ha [(0, e8 (((key ++ List.replicate (136 - (key).length) (0 : UInt8)).getD i 0) ^^^ (54 : UInt8)))] (([((key ++ List.replicate (136 - (key).length) (0 : UInt8)).getD i 0) ^^^ (54 : UInt8)] : List UInt8).map e8) rfl Tryd.runUnderlying22 Tryd.sizeOf5 Tryd.zeroValue5 rfl rfl rfl rfl rfl ?_
      clear ha a; intro a w41 b42 ha hg hb42 hge42 hlt42
      have hz42 : w0.heap.size ≤ b42 := Nat.le_trans hB.size hge42
      have hne_hovk_b42 : ∀ j, Value.ownBlock vk = some j → j ≠ b42 := fun j hj => by have := (hovk.lt j hj).2; omega
      have hne_hovi_b42 : ∀ j, Value.ownBlock vi = some j → j ≠ b42 := fun j hj => by have := (hovi.lt j hj).2; omega
      have hne_hovq_b42 : ∀ j, Value.ownBlock vq = some j → j ≠ b42 := fun j hj => by have := (hovq.lt j hj).2; omega
      replace hB := keepB0 hg hB
      replace hovk := keepW0 hg hovk
      replace hovi := keepW0 hg hovi
      replace hovq := keepW0 hg hovq
      clear hg hge42 hlt42
      refine sapp (C := ((inA (key ++ List.replicate (136 - (key).length) (0 : UInt8)) 54 i)).map e8) (D := (([((key ++ List.replicate (136 - (key).length) (0 : UInt8)).getD i 0) ^^^ (54 : UInt8)] : List UInt8)).map e8) ha rfl rfl Tryd.underlying22 rfl rfl rfl rfl hovi (Sl.ofBlockM hb42 (by rw [show ([((key ++ List.replicate (136 - (key).length) (0 : UInt8)).getD i 0) ^^^ (54 : UInt8)] : List UInt8).length = 1 from rfl]) (by omega)) (one_e8 _) (by simp only [List.length_map, List.length_append, List.length_replicate, List.length_cons, List.length_nil, inA_len, sum256_len, th1_len, th2_len, mac_len]; show _ * 1 ≤ _; omega) (by simp only [List.length_map, List.length_append, List.length_replicate, List.length_cons, List.length_nil, inA_len, sum256_len, th1_len, th2_len, mac_len]; omega) hB.size rfl ?_
      clear ha a; intro a w44 v43 ha hg ho43 hnl43 hpl43
      rw [← List.map_append, List.length_map, show ([((key ++ List.replicate (136 - (key).length) (0 : UInt8)).getD i 0) ^^^ (54 : UInt8)] : List UInt8).length = 1 from rfl] at ho43
      rw [List.length_map, show ([((key ++ List.replicate (136 - (key).length) (0 : UInt8)).getD i 0) ^^^ (54 : UInt8)] : List UInt8).length = 1 from rfl] at hnl43
      have hds_ho43_hovk : ∀ j, v43.ownBlock = some j → vk.ownBlock ≠ some j := fun j h1 h2 => (hpl43 j h1).elim (fun h => hds_vi_hovk j h h2) (fun h => by have h4 := (fun j hj => (hovk.lt j hj).2) j h2; omega)
      have hds_ho43_hovq : ∀ j, v43.ownBlock = some j → vq.ownBlock ≠ some j := fun j h1 h2 => (hpl43 j h1).elim (fun h => (fun j h1 h2 => hds_vq_vi j h2 h1) j h h2) (fun h => by have h4 := (fun j hj => (hovq.lt j hj).2) j h2; omega)
      have hne_43_b42 : ∀ j, v43.ownBlock = some j → j ≠ b42 := fun j hj => (hpl43 j hj).elim (fun h => hne_hovi_b42 j h) (fun h => by have := lt_of_block hb42; omega)
      replace hB := keepBR hg (own_row hovi) hB
      replace hb42 := keepOR hg (ne_of_ap hne_hovi_b42) hb42
      replace hovk := keepWR hg hds_vi_hovk hovk
      replace hovq := keepWR hg (fun j h1 h2 => hds_vq_vi j h2 h1) hovq
      clear hg
      refine sv ha (r_assign ha rfl) rfl rfl rfl ?_; clear ha a; intro a ha
      refine hK40 _ _ ?_; clear hK40 K39
      refine region ?_
      refine sv ha (r_move ha rfl) rfl rfl rfl ?_; clear ha a; intro a ha
      refine sv ha (r_move ha rfl) rfl rfl rfl ?_; clear ha a; intro a ha
      refine sv ha (r_move ha rfl) rfl rfl rfl ?_; clear ha a; intro a ha
      refine sv ha (r_indexS (i := i) ha Tryd.runUnderlying22 Tryd.sizeOf5 (Sl.ofOwns hovk) (C := (key ++ List.replicate (136 - (key).length) (0 : UInt8)).map e8) rfl rfl (by rw [List.length_map]; rw [List.length_append, List.length_replicate]; omega)) rfl rfl rfl ?_; clear ha a; intro a ha
      refine sv ha (r_loadS ha rfl Tryd.isAgg5 (Sl.ofOwns hovk) (get_map e8 (key ++ List.replicate (136 - (key).length) (0 : UInt8)) 0 i (by rw [List.length_append, List.length_replicate]; omega))) rfl rfl rfl ?_; clear ha a; intro a ha
      refine sv ha (rb_xor ha ((key ++ List.replicate (136 - (key).length) (0 : UInt8)).getD i 0) (92 : UInt8) rfl rfl) rfl rfl rfl ?_; clear ha a; intro a ha
      refine sbuildS ha [(0, e8 (((key ++ List.replicate (136 - (key).length) (0 : UInt8)).getD i 0) ^^^ (92 : UInt8)))] (([((key ++ List.replicate (136 - (key).length) (0 : UInt8)).getD i 0) ^^^ (92 : UInt8)] : List UInt8).map e8) rfl Tryd.runUnderlying22 Tryd.sizeOf5 Tryd.zeroValue5 rfl rfl rfl rfl rfl ?_
      clear ha a; intro a w45 b46 ha hg hb46 hge46 hlt46
      have hz46 : w0.heap.size ≤ b46 := Nat.le_trans hB.size hge46
      have hne_hovk_b46 : ∀ j, Value.ownBlock vk = some j → j ≠ b46 := fun j hj => by have := (hovk.lt j hj).2; omega
      have hne_hovq_b46 : ∀ j, Value.ownBlock vq = some j → j ≠ b46 := fun j hj => by have := (hovq.lt j hj).2; omega
      have hne_ho43_b46 : ∀ j, Value.ownBlock v43 = some j → j ≠ b46 := fun j hj => by have := (ho43.lt j hj).2; omega
      have hq42_46 : b42 < b46 := Nat.lt_of_lt_of_le (lt_of_block hb42) hge46
      replace hB := keepB0 hg hB
      replace hb42 := keepO0 hg hb42
      replace hovk := keepW0 hg hovk
      replace hovq := keepW0 hg hovq
      replace ho43 := keepW0 hg ho43
      clear hg hge46 hlt46
      refine sapp (C := ((inA (key ++ List.replicate (136 - (key).length) (0 : UInt8)) 92 i)).map e8) (D := (([((key ++ List.replicate (136 - (key).length) (0 : UInt8)).getD i 0) ^^^ (92 : UInt8)] : List UInt8)).map e8) ha rfl rfl Tryd.underlying22 rfl rfl rfl rfl hovq (Sl.ofBlockM hb46 (by rw [show ([((key ++ List.replicate (136 - (key).length) (0 : UInt8)).getD i 0) ^^^ (92 : UInt8)] : List UInt8).length = 1 from rfl]) (by omega)) (one_e8 _) (by simp only [List.length_map, List.length_append, List.length_replicate, List.length_cons, List.length_nil, inA_len, sum256_len, th1_len, th2_len, mac_len]; show _ * 1 ≤ _; omega) (by simp only [List.length_map, List.length_append, List.length_replicate, List.length_cons, List.length_nil, inA_len, sum256_len, th1_len, th2_len, mac_len]; omega) hB.size rfl ?_
      clear ha a; intro a w48 v47 ha hg ho47 hnl47 hpl47
      rw [← List.map_append, List.length_map, show ([((key ++ List.replicate (136 - (key).length) (0 : UInt8)).getD i 0) ^^^ (92 : UInt8)] : List UInt8).length = 1 from rfl] at ho47
      rw [List.length_map, show ([((key ++ List.replicate (136 - (key).length) (0 : UInt8)).getD i 0) ^^^ (92 : UInt8)] : List UInt8).length = 1 from rfl] at hnl47
      have hds_ho47_hovk : ∀ j, v47.ownBlock = some j → vk.ownBlock ≠ some j := fun j h1 h2 => (hpl47 j h1).elim (fun h => hds_vq_hovk j h h2) (fun h => by have h4 := (fun j hj => (hovk.lt j hj).2) j h2; omega)
      have hds_ho47_ho43 : ∀ j, v47.ownBlock = some j → v43.ownBlock ≠ some j := fun j h1 h2 => (hpl47 j h1).elim (fun h => (fun j h1 h2 => hds_ho43_hovq j h2 h1) j h h2) (fun h => by have h4 := (fun j hj => (ho43.lt j hj).2) j h2; omega)
      have hne_47_b42 : ∀ j, v47.ownBlock = some j → j ≠ b42 := fun j hj => (hpl47 j hj).elim (fun h => hne_hovq_b42 j h) (fun h => by have := lt_of_block hb42; omega)
      have hne_47_b46 : ∀ j, v47.ownBlock = some j → j ≠ b46 := fun j hj => (hpl47 j hj).elim (fun h => hne_hovq_b46 j h) (fun h => by have := lt_of_block hb46; omega)
      replace hB := keepBR hg (own_row hovq) hB
      replace hb42 := keepOR hg (ne_of_ap hne_hovq_b42) hb42
      replace hb46 := keepOR hg (ne_of_ap hne_hovq_b46) hb46
      replace hovk := keepWR hg hds_vq_hovk hovk
      replace ho43 := keepWR hg (fun j h1 h2 => hds_ho43_hovq j h2 h1) ho43
      clear hg
      refine sv ha (r_assign ha rfl) rfl rfl rfl ?_; clear ha a; intro a ha
      refine hK38 _ _ ?_; clear hK38 K37
      refine region ?_
      refine sv ha (r_move ha rfl) rfl rfl rfl ?_; clear ha a; intro a ha
      refine sv ha (rn_add ha i 1 rfl rfl (by omega)) rfl rfl rfl ?_; clear ha a; intro a ha
      refine sv ha (r_assign ha rfl) rfl rfl rfl ?_; clear ha a; intro a ha
      exact ⟨i + 1, by omega, v43, v47, (by omega), hds_ho47_ho43, hds_ho43_hovk, hds_ho47_hovk, ha.to [0, 1, 4, 9, 10, 11, 16, 17, 18, 5, 19, 20, 21, 8, 6, 7] rfl, hB, hovk, (own_castl (own_len ho43) rfl), (own_castl (own_len ho47) rfl)⟩
    · skip
      replace hc36 := of_decide_eq_false hc36
      refine wp_exit ?_
      obtain rfl : i = 136 := by omega
      refine hK28 _ _ ?_; clear hK33 K32 hK28 K27
      refine wp_seq_k fun K49 hK50 => ?_
      refine region ?_
      refine sv ha (r_move ha rfl) rfl rfl rfl ?_; clear ha a; intro a ha
      refine sv ha (r_move ha rfl) rfl rfl rfl ?_; clear ha a; intro a ha
      refine sapp (C := ((inA (key ++ List.replicate (136 - (key).length) (0 : UInt8)) 54 136)).map e8) (D := (b).map e8) ha rfl rfl Tryd.underlying22 rfl rfl rfl rfl hovi (hsu.below hB) (one_e8 _) (by simp only [List.length_map, List.length_append, List.length_replicate, List.length_cons, List.length_nil, inA_len, sum256_len, th1_len, th2_len, mac_len]; show _ * 1 ≤ _; omega) (by simp only [List.length_map, List.length_append, List.length_replicate, List.length_cons, List.length_nil, inA_len, sum256_len, th1_len, th2_len, mac_len]; omega) hB.size rfl ?_
      clear ha a; intro a w52 v51 ha hg ho51 hnl51 hpl51
      rw [← List.map_append, List.length_map] at ho51
      have hds_ho51_hovk : ∀ j, v51.ownBlock = some j → vk.ownBlock ≠ some j := fun j h1 h2 => (hpl51 j h1).elim (fun h => hds_vi_hovk j h h2) (fun h => by have h4 := (fun j hj => (hovk.lt j hj).2) j h2; omega)
      have hds_ho51_hovq : ∀ j, v51.ownBlock = some j → vq.ownBlock ≠ some j := fun j h1 h2 => (hpl51 j h1).elim (fun h => (fun j h1 h2 => hds_vq_vi j h2 h1) j h h2) (fun h => by have h4 := (fun j hj => (hovq.lt j hj).2) j h2; omega)
      replace hB := keepBR hg (own_row hovi) hB
      replace hovk := keepWR hg hds_vi_hovk hovk
      replace hovq := keepWR hg (fun j h1 h2 => hds_vq_vi j h2 h1) hovq
      clear hg
      refine sv ha (r_assign ha rfl) rfl rfl rfl ?_; clear ha a; intro a ha
      refine hK50 _ _ ?_; clear hK50 K49
      refine wp_seq_k fun K53 hK54 => ?_
      refine region ?_
      refine sv ha (r_move ha rfl) rfl rfl rfl ?_; clear ha a; intro a ha
      refine sv ha (r_move ha rfl) rfl rfl rfl ?_; clear ha a; intro a ha
      refine sc ha (r_call ha [v51] rfl Tryd.call22) rfl rfl rfl (c_rsum256 v51 ((inA (key ++ List.replicate (136 - (key).length) (0 : UInt8)) 54 136) ++ b) _ (Sl.ofOwns ho51) (by simp only [List.length_append, inA_len, sum256_len]; omega)) ?_
      clear ha a
      rintro e w55 ⟨u56, rfl, hBc, hs56, hd56⟩
      have hg := grown_call hBc; clear hBc
      have hds_hs56_hovk : ∀ j, u56.ownBlock = some j → vk.ownBlock ≠ some j := fun j h1 h2 => by have h3 := hd56 j h1; have h4 := (fun j hj => (hovk.lt j hj).2) j h2; omega
      have hds_hs56_hovq : ∀ j, u56.ownBlock = some j → vq.ownBlock ≠ some j := fun j h1 h2 => by have h3 := hd56 j h1; have h4 := (fun j hj => (hovq.lt j hj).2) j h2; omega
      have hds_hs56_ho51 : ∀ j, u56.ownBlock = some j → v51.ownBlock ≠ some j := fun j h1 h2 => by have h3 := hd56 j h1; have h4 := (fun j hj => (ho51.lt j hj).2) j h2; omega
      replace hd56 : ∀ j, u56.ownBlock = some j → w0.heap.size ≤ j := fun j hj => Nat.le_trans hB.size (hd56 j hj)
      replace hB := keepB0 hg hB
      replace hovk := keepW0 hg hovk
      replace hovq := keepW0 hg hovq
      replace ho51 := keepW0 hg ho51
      clear hg
      refine ⟨_, rfl, ?_⟩; intro a ha
      refine sapp (C := ((inA (key ++ List.replicate (136 - (key).length) (0 : UInt8)) 92 136)).map e8) (D := (sum256 ((inA (key ++ List.replicate (136 - (key).length) (0 : UInt8)) 54 136) ++ b)).map e8) ha rfl rfl Tryd.underlying22 rfl rfl rfl rfl hovq hs56 (one_e8 _) (by simp only [List.length_map, List.length_append, List.length_replicate, List.length_cons, List.length_nil, inA_len, sum256_len, th1_len, th2_len, mac_len]; show _ * 1 ≤ _; omega) (by simp only [List.length_map, List.length_append, List.length_replicate, List.length_cons, List.length_nil, inA_len, sum256_len, th1_len, th2_len, mac_len]; omega) hB.size rfl ?_
      clear ha a; intro a w58 v57 ha hg ho57 hnl57 hpl57
      rw [← List.map_append, List.length_map, sum256_len] at ho57
      rw [List.length_map, sum256_len] at hnl57
      have hds_ho57_hovk : ∀ j, v57.ownBlock = some j → vk.ownBlock ≠ some j := fun j h1 h2 => (hpl57 j h1).elim (fun h => hds_vq_hovk j h h2) (fun h => by have h4 := (fun j hj => (hovk.lt j hj).2) j h2; omega)
      have hds_ho57_ho51 : ∀ j, v57.ownBlock = some j → v51.ownBlock ≠ some j := fun j h1 h2 => (hpl57 j h1).elim (fun h => (fun j h1 h2 => hds_ho51_hovq j h2 h1) j h h2) (fun h => by have h4 := (fun j hj => (ho51.lt j hj).2) j h2; omega)
      have hds_ho57_hs56 : ∀ j, v57.ownBlock = some j → u56.ownBlock ≠ some j := fun j h1 h2 => (hpl57 j h1).elim (fun h => (fun j h1 h2 => hds_hs56_hovq j h2 h1) j h h2) (fun h => by have h4 := (fun j hj => hs56.lt j hj) j h2; omega)
      replace hB := keepBR hg (own_row hovq) hB
      replace hovk := keepWR hg hds_vq_hovk hovk
      replace ho51 := keepWR hg (fun j h1 h2 => hds_ho51_hovq j h2 h1) ho51
      replace hs56 := keepSR hg (fun j h1 h2 => hds_hs56_hovq j h2 h1) hs56
      clear hg
      refine sc ha (r_call ha [v57] rfl Tryd.call22) rfl rfl rfl (c_rsum256 v57 ((inA (key ++ List.replicate (136 - (key).length) (0 : UInt8)) 92 136) ++ (sum256 ((inA (key ++ List.replicate (136 - (key).length) (0 : UInt8)) 54 136) ++ b))) _ (Sl.ofOwns ho57) (by simp only [List.length_append, inA_len, sum256_len]; omega)) ?_
      clear ha a
      rintro e w59 ⟨u60, rfl, hBc, hs60, hd60⟩
      have hg := grown_call hBc; clear hBc
      have hds_hs60_hovk : ∀ j, u60.ownBlock = some j → vk.ownBlock ≠ some j := fun j h1 h2 => by have h3 := hd60 j h1; have h4 := (fun j hj => (hovk.lt j hj).2) j h2; omega
      have hds_hs60_ho51 : ∀ j, u60.ownBlock = some j → v51.ownBlock ≠ some j := fun j h1 h2 => by have h3 := hd60 j h1; have h4 := (fun j hj => (ho51.lt j hj).2) j h2; omega
      have hds_hs60_hs56 : ∀ j, u60.ownBlock = some j → u56.ownBlock ≠ some j := fun j h1 h2 => by have h3 := hd60 j h1; have h4 := (fun j hj => hs56.lt j hj) j h2; omega
      have hds_hs60_ho57 : ∀ j, u60.ownBlock = some j → v57.ownBlock ≠ some j := fun j h1 h2 => by have h3 := hd60 j h1; have h4 := (fun j hj => (ho57.lt j hj).2) j h2; omega
      replace hd60 : ∀ j, u60.ownBlock = some j → w0.heap.size ≤ j := fun j hj => Nat.le_trans hB.size (hd60 j hj)
      replace hB := keepB0 hg hB
      replace hovk := keepW0 hg hovk
      replace ho51 := keepW0 hg ho51
      replace hs56 := keepS0 hg hs56
      replace ho57 := keepW0 hg ho57
      clear hg
      refine ⟨_, rfl, ?_⟩; intro a ha
      refine sv ha (r_assign ha rfl) rfl rfl rfl ?_; clear ha a; intro a ha
      refine hK54 _ _ ?_; clear hK54 K53
      refine wp_ret ?_
      repeat (first | (with_reducible refine t_ret ?_) | (with_reducible refine x_ret ?_))
      exact ret1 ha Tryd.results32 rfl ⟨_, rfl, hB, (Sl.castM (l := sum256 ((inA (key ++ List.replicate (136 - (key).length) (0 : UInt8)) 92 136) ++ (sum256 ((inA (key ++ List.replicate (136 - (key).length) (0 : UInt8)) 54 136) ++ b)))) hs60 (by rw [mac_short key b hk, macK, in_eq _ hkl, in_eq _ hkl]; simp only [List.flatten_cons, List.flatten_nil, List.append_nil])), hd60⟩

theorem c_rmacL (v : Value) (key : List UInt8) (u : Value) (b : List UInt8) (w0 : World) (hs : Sl w0 v (key.map e8)) (hsu : Sl w0 u (b.map e8)) (hb : b.length ≤ 50000) (hk : key.length > 136) (hk2 : key.length ≤ 50000) :
    Calls Tryd.prog 32 #[v, u] w0 fun e w' => ∃ u0 : Value, e = .returned (u0) ∧ Below w0.heap.size w0 w' ∧ Sl w' u0 ((mac key b).map e8) ∧ (∀ j, u0.ownBlock = some j → w0.heap.size ≤ j) := by
  refine enter (args := [_, _]) Tryd.func32 rfl Tryd.ntmps32 rfl ?_
  intro a ha
  have hB := Below.refl w0.heap.size w0
  have hkl : ((sum256 key)).length ≤ 136 := by first | omega | (rw [sum256_len]; omega)
  refine wp_seq_k fun K1 hK2 => ?_
  refine region ?_
  refine sv ha (r_assign ha rfl) rfl rfl rfl ?_; clear ha a; intro a ha
  refine hK2 _ _ ?_; clear hK2 K1
  refine wp_seq_k fun K3 hK4 => ?_
  refine region ?_
  refine sv ha (r_assign ha rfl) rfl rfl rfl ?_; clear ha a; intro a ha
  refine hK4 _ _ ?_; clear hK4 K3
  refine wp_seq_k fun K5 hK6 => ?_
  refine wp_seq_k fun K7 hK8 => ?_
  refine region ?_
  refine sv ha (r_move ha rfl) rfl rfl rfl ?_; clear ha a; intro a ha
  refine sv ha (r_lenS ha Tryd.runUnderlying22 (hs.below hB) rfl (by rw [List.length_map])) rfl rfl rfl ?_; clear ha a; intro a ha
  refine sv ha (r_gtr ha ((key.length : Nat) : Int) 136 true rfl rfl (decide_eq_true (by omega))) rfl rfl rfl ?_; clear ha a; intro a ha
  refine hK8 _ _ ?_; clear hK8 K7
  refine cond_t ha rfl ?_
  refine region ?_
  refine sv ha (r_move ha rfl) rfl rfl rfl ?_; clear ha a; intro a ha
  refine sv ha (r_move ha rfl) rfl rfl rfl ?_; clear ha a; intro a ha
  refine sc ha (r_call ha [v] rfl Tryd.call22) rfl rfl rfl (c_rsum256 v key _ (hs.below hB) (by omega)) ?_
  clear ha a
  rintro e w9 ⟨u10, rfl, hBc, hs10, hd10⟩
  have hg := grown_call hBc; clear hBc
  replace hd10 : ∀ j, u10.ownBlock = some j → w0.heap.size ≤ j := fun j hj => Nat.le_trans hB.size (hd10 j hj)
  replace hB := keepB0 hg hB
  clear hg
  refine ⟨_, rfl, ?_⟩; intro a ha
  refine sapp (C := (([] : List UInt8)).map e8) (D := (sum256 key).map e8) ha rfl rfl Tryd.underlying22 rfl rfl rfl rfl (World.ownsRow_nil w9 w0.heap.size 5 1) hs10 (one_e8 _) (by simp only [List.length_map, List.length_append, List.length_replicate, List.length_cons, List.length_nil, inA_len, sum256_len, th1_len, th2_len, mac_len]; show _ * 1 ≤ _; omega) (by simp only [List.length_map, List.length_append, List.length_replicate, List.length_cons, List.length_nil, inA_len, sum256_len, th1_len, th2_len, mac_len]; omega) hB.size rfl ?_
  clear ha a; intro a w12 v11 ha hg ho11 hnl11 hpl11
  rw [← List.map_append, List.length_map, sum256_len] at ho11
  rw [List.length_map, sum256_len] at hnl11
  rw [List.nil_append, Nat.zero_add] at ho11
  have hds_ho11_hs10 : ∀ j, v11.ownBlock = some j → u10.ownBlock ≠ some j := fun j h1 h2 => (hpl11 j h1).elim (fun h => (nil_own j h).elim) (fun h => by have h4 := (fun j hj => hs10.lt j hj) j h2; omega)
  have hg : World.grownBy w9 w12 none := hg
  replace hB := keepB0 hg hB
  replace hs10 := keepS0 hg hs10
  clear hg
  refine sv ha (r_assign ha rfl) rfl rfl rfl ?_; clear ha a; intro a ha
  refine hK6 _ _ ?_; clear hK6 K5
  refine wp_seq_k fun K13 hK14 => ?_
  refine wp_block ?_
  generalize hsk : sum256 key = sk at *
  refine loopG (fun (j : Nat) a w => ∃ vk : Value, (j ≤ (136 - (sk).length)) ∧ (∀ j, vk.ownBlock = some j → u10.ownBlock ≠ some j) ∧ Has 53 [(0, v), (1, u), (4, .slice none 0 0), (9, v), (10, en key.length), (11, .bool true), (12, .slice none 0 0), (13, v), (14, u10), (15, v11), (5, vk)] a ∧ Below w0.heap.size w0 w ∧ Sl w u10 (sk.map e8) ∧ w.ownsRow w0.heap.size 5 1 vk (sk ++ List.replicate j (0 : UInt8)).length ((sk ++ List.replicate j (0 : UInt8)).map e8)) (fun j => (136 - (sk).length) - j) 0 ⟨v11, (by omega), hds_ho11_hs10, ha.to [0, 1, 4, 9, 10, 11, 12, 13, 14, 15, 5] rfl, hB, hs10, (own_castl (own_len ho11) (by rw [List.replicate_zero, List.append_nil]))⟩ ?_
  clear ha a hB hs10 ho11
  intro j a w15 ⟨vk, hkj, hds_vk_hs10, ha, hB, hs10, hovk⟩
  refine wp_seq_k fun K16 hK17 => ?_
  refine wp_seq_k fun K18 hK19 => ?_
  refine region ?_
  refine sv ha (r_move ha rfl) rfl rfl rfl ?_; clear ha a; intro a ha
  refine sv ha (v_of (r_lenS ha Tryd.runUnderlying22 (Sl.ofOwns hovk) rfl (by rw [List.length_map])) (congrArg en ((by rw [List.length_append, List.length_replicate]) : (sk ++ List.replicate j (0 : UInt8)).length = (sk).length + j))) rfl rfl rfl ?_; clear ha a; intro a ha
  refine sv ha (r_lss ha (((sk).length + j : Nat) : Int) 136 (decide ((sk).length + j < 136)) rfl rfl (decide_eq_decide.2 (by omega))) rfl rfl rfl ?_; clear ha a; intro a ha
  refine hK19 _ _ ?_; clear hK19 K18
  refine cond_if ha rfl (fun hc20 => ?_) (fun hc20 => ?_)
  · skip
    replace hc20 := of_decide_eq_true hc20
    refine wp_skip ?_
    refine hK17 _ _ ?_; clear hK17 K16
    refine wp_block ?_
    refine region ?_
    refine sv ha (r_move ha rfl) rfl rfl rfl ?_; clear ha a; intro a ha
    refine sbuildS ha [(0, .int .u8 0)] (([(0 : UInt8)] : List UInt8).map e8) rfl Tryd.runUnderlying22 Tryd.sizeOf5 Tryd.zeroValue5 rfl rfl rfl rfl rfl ?_
    clear ha a; intro a w21 b22 ha hg hb22 hge22 hlt22
    have hz22 : w0.heap.size ≤ b22 := Nat.le_trans hB.size hge22
    have hne_hs10_b22 : ∀ j, Value.ownBlock u10 = some j → j ≠ b22 := fun j hj => by have := hs10.lt j hj; omega
    have hne_hovk_b22 : ∀ j, Value.ownBlock vk = some j → j ≠ b22 := fun j hj => by have := (hovk.lt j hj).2; omega
    replace hB := keepB0 hg hB
    replace hs10 := keepS0 hg hs10
    replace hovk := keepW0 hg hovk
    clear hg hge22 hlt22
    refine sapp (C := ((sk ++ List.replicate j (0 : UInt8))).map e8) (D := (([(0 : UInt8)] : List UInt8)).map e8) ha rfl rfl Tryd.underlying22 rfl rfl rfl rfl hovk (Sl.ofBlockM hb22 (by rw [show ([(0 : UInt8)] : List UInt8).length = 1 from rfl]) (by omega)) (one_e8 _) (by simp only [List.length_map, List.length_append, List.length_replicate, List.length_cons, List.length_nil, inA_len, sum256_len, th1_len, th2_len, mac_len]; show _ * 1 ≤ _; omega) (by simp only [List.length_map, List.length_append, List.length_replicate, List.length_cons, List.length_nil, inA_len, sum256_len, th1_len, th2_len, mac_len]; omega) hB.size rfl ?_
    clear ha a; intro a w24 v23 ha hg ho23 hnl23 hpl23
    rw [← List.map_append, List.length_map, show ([(0 : UInt8)] : List UInt8).length = 1 from rfl] at ho23
    rw [List.length_map, show ([(0 : UInt8)] : List UInt8).length = 1 from rfl] at hnl23
    have hds_ho23_hs10 : ∀ j, v23.ownBlock = some j → u10.ownBlock ≠ some j := fun j h1 h2 => (hpl23 j h1).elim (fun h => hds_vk_hs10 j h h2) (fun h => by have h4 := (fun j hj => hs10.lt j hj) j h2; omega)
    have hne_23_b22 : ∀ j, v23.ownBlock = some j → j ≠ b22 := fun j hj => (hpl23 j hj).elim (fun h => hne_hovk_b22 j h) (fun h => by have := lt_of_block hb22; omega)
    replace hB := keepBR hg (own_row hovk) hB
    replace hb22 := keepOR hg (ne_of_ap hne_hovk_b22) hb22
    replace hs10 := keepSR hg hds_vk_hs10 hs10
    clear hg
    replace ho23 := own_castl (own_len ho23) (rep_step _ j)
    refine sv ha (r_assign ha rfl) rfl rfl rfl ?_; clear ha a; intro a ha
    exact ⟨j + 1, by omega, v23, (by omega), hds_ho23_hs10, ha.to [0, 1, 4, 9, 10, 11, 12, 13, 14, 15, 5] rfl, hB, hs10, (own_castl (own_len ho23) rfl)⟩
  · skip
    replace hc20 := of_decide_eq_false hc20
    refine wp_exit ?_
    obtain rfl : j = (136 - (sk).length) := by omega
    refine hK14 _ _ ?_; clear hK17 K16 hK14 K13
    refine wp_seq_k fun K25 hK26 => ?_
    refine region ?_
    refine sv ha (r_assign ha rfl) rfl rfl rfl ?_; clear ha a; intro a ha
    refine hK26 _ _ ?_; clear hK26 K25
    refine wp_seq_k fun K27 hK28 => ?_
    refine region ?_
    refine sv ha (r_assign ha rfl) rfl rfl rfl ?_; clear ha a; intro a ha
    refine hK28 _ _ ?_; clear hK28 K27
    refine wp_seq_k fun K29 hK30 => ?_
    refine wp_seq_k fun K31 hK32 => ?_
    refine region ?_
    refine sv ha (r_assign ha rfl) rfl rfl rfl ?_; clear ha a; intro a ha
    refine hK32 _ _ ?_; clear hK32 K31
    refine wp_block ?_
    refine loopG (fun (i : Nat) a w => ∃ vi : Value, ∃ vq : Value, (i ≤ 136) ∧ (∀ j, vq.ownBlock = some j → vi.ownBlock ≠ some j) ∧ (∀ j, vi.ownBlock = some j → u10.ownBlock ≠ some j) ∧ (∀ j, vi.ownBlock = some j → vk.ownBlock ≠ some j) ∧ (∀ j, vq.ownBlock = some j → u10.ownBlock ≠ some j) ∧ (∀ j, vq.ownBlock = some j → vk.ownBlock ≠ some j) ∧ Has 53 [(0, v), (1, u), (4, .slice none 0 0), (9, v), (10, en key.length), (11, .bool true), (12, .slice none 0 0), (13, v), (14, u10), (15, v11), (5, vk), (19, vk), (20, en ((sk).length + (136 - (sk).length))), (21, .bool (decide ((sk).length + (136 - (sk).length) < 136))), (8, en i), (6, vi), (7, vq)] a ∧ Below w0.heap.size w0 w ∧ Sl w u10 (sk.map e8) ∧ w.ownsRow w0.heap.size 5 1 vk (sk ++ List.replicate (136 - (sk).length) (0 : UInt8)).length ((sk ++ List.replicate (136 - (sk).length) (0 : UInt8)).map e8) ∧ w.ownsRow w0.heap.size 5 1 vi (inA (sk ++ List.replicate (136 - (sk).length) (0 : UInt8)) 54 i).length ((inA (sk ++ List.replicate (136 - (sk).length) (0 : UInt8)) 54 i).map e8) ∧ w.ownsRow w0.heap.size 5 1 vq (inA (sk ++ List.replicate (136 - (sk).length) (0 : UInt8)) 92 i).length ((inA (sk ++ List.replicate (136 - (sk).length) (0 : UInt8)) 92 i).map e8)) (fun i => 136 - i) 0 ⟨.slice none 0 0, .slice none 0 0, (by omega), (fun j hj _ => (nil_own j hj).elim), (fun j hj _ => (nil_own j hj).elim), (fun j hj _ => (nil_own j hj).elim), (fun j hj _ => (nil_own j hj).elim), (fun j hj _ => (nil_own j hj).elim), ha.to [0, 1, 4, 9, 10, 11, 12, 13, 14, 15, 5, 19, 20, 21, 8, 6, 7] rfl, hB, hs10, hovk, (own_castl (l := ([] : List UInt8)) (World.ownsRow_nil _ _ _ _) rfl), (own_castl (l := ([] : List UInt8)) (World.ownsRow_nil _ _ _ _) rfl)⟩ ?_
    clear ha a hB hs10 hovk
    intro i a w33 ⟨vi, vq, hki, hds_vq_vi, hds_vi_hs10, hds_vi_hovk, hds_vq_hs10, hds_vq_hovk, ha, hB, hs10, hovk, hovi, hovq⟩
    have hi1 := inA_len (sk ++ List.replicate (136 - (sk).length) (0 : UInt8)) 54 i
    have hi2 := inA_len (sk ++ List.replicate (136 - (sk).length) (0 : UInt8)) 92 i
    refine wp_seq_k fun K34 hK35 => ?_
    refine wp_seq_k fun K36 hK37 => ?_
    refine region ?_
    refine sv ha (r_move ha rfl) rfl rfl rfl ?_; clear ha a; intro a ha
    refine sv ha (r_lss ha ((i : Nat) : Int) 136 (decide (i < 136)) rfl rfl (decide_eq_decide.2 (by omega))) rfl rfl rfl ?_; clear ha a; intro a ha
    refine hK37 _ _ ?_; clear hK37 K36
    refine cond_if ha rfl (fun hc38 => ?_) (fun hc38 => ?_)
    · skip
      replace hc38 := of_decide_eq_true hc38
      refine wp_skip ?_
      refine hK35 _ _ ?_; clear hK35 K34
      refine wp_seq_k fun K39 hK40 => ?_
      refine wp_block ?_
      refine wp_seq_k fun K41 hK42 => ?_
      refine region ?_
      refine sv ha (r_move ha rfl) rfl rfl rfl ?_; clear ha a; intro a ha
      refine sv ha (r_move ha rfl) rfl rfl rfl ?_; clear ha a; intro a ha
      refine sv ha (r_move ha rfl) rfl rfl rfl ?_; clear ha a; intro a ha
      refine sv ha (r_indexS (i := i) ha Tryd.runUnderlying22 Tryd.sizeOf5 (Sl.ofOwns hovk) (C := (sk ++ List.replicate (136 - (sk).length) (0 : UInt8)).map e8) rfl rfl (by rw [List.length_map]; rw [List.length_append, List.length_replicate]; omega)) rfl rfl rfl ?_; clear ha a; intro a ha
      refine sv ha (r_loadS ha rfl Tryd.isAgg5 (Sl.ofOwns hovk) (get_map e8 (sk ++ List.replicate (136 - (sk).length) (0 : UInt8)) 0 i (by rw [List.length_append, List.length_replicate]; omega))) rfl rfl rfl ?_; clear ha a; intro a ha
      refine sv ha (rb_xor ha ((sk ++ List.replicate (136 - (sk).length) (0 : UInt8)).getD i 0) (54 : UInt8) rfl rfl) rfl rfl rfl ?_; clear ha a; intro a ha
      refine sbuildS ha [(0, e8 (((sk ++ List.replicate (136 - (sk).length) (0 : UInt8)).getD i 0) ^^^ (54 : UInt8)))] (([((sk ++ List.replicate (136 - (sk).length) (0 : UInt8)).getD i 0) ^^^ (54 : UInt8)] : List UInt8).map e8) rfl Tryd.runUnderlying22 Tryd.sizeOf5 Tryd.zeroValue5 rfl rfl rfl rfl rfl ?_
      clear ha a; intro a w43 b44 ha hg hb44 hge44 hlt44
      have hz44 : w0.heap.size ≤ b44 := Nat.le_trans hB.size hge44
      have hne_hs10_b44 : ∀ j, Value.ownBlock u10 = some j → j ≠ b44 := fun j hj => by have := hs10.lt j hj; omega
      have hne_hovk_b44 : ∀ j, Value.ownBlock vk = some j → j ≠ b44 := fun j hj => by have := (hovk.lt j hj).2; omega
      have hne_hovi_b44 : ∀ j, Value.ownBlock vi = some j → j ≠ b44 := fun j hj => by have := (hovi.lt j hj).2; omega
      have hne_hovq_b44 : ∀ j, Value.ownBlock vq = some j → j ≠ b44 := fun j hj => by have := (hovq.lt j hj).2; omega
      replace hB := keepB0 hg hB
      replace hs10 := keepS0 hg hs10
      replace hovk := keepW0 hg hovk
      replace hovi := keepW0 hg hovi
      replace hovq := keepW0 hg hovq
      clear hg hge44 hlt44
      refine sapp (C := ((inA (sk ++ List.replicate (136 - (sk).length) (0 : UInt8)) 54 i)).map e8) (D := (([((sk ++ List.replicate (136 - (sk).length) (0 : UInt8)).getD i 0) ^^^ (54 : UInt8)] : List UInt8)).map e8) ha rfl rfl Tryd.underlying22 rfl rfl rfl rfl hovi (Sl.ofBlockM hb44 (by rw [show ([((sk ++ List.replicate (136 - (sk).length) (0 : UInt8)).getD i 0) ^^^ (54 : UInt8)] : List UInt8).length = 1 from rfl]) (by omega)) (one_e8 _) (by simp only [List.length_map, List.length_append, List.length_replicate, List.length_cons, List.length_nil, inA_len, sum256_len, th1_len, th2_len, mac_len]; show _ * 1 ≤ _; omega) (by simp only [List.length_map, List.length_append, List.length_replicate, List.length_cons, List.length_nil, inA_len, sum256_len, th1_len, th2_len, mac_len]; omega) hB.size rfl ?_
      clear ha a; intro a w46 v45 ha hg ho45 hnl45 hpl45
      rw [← List.map_append, List.length_map, show ([((sk ++ List.replicate (136 - (sk).length) (0 : UInt8)).getD i 0) ^^^ (54 : UInt8)] : List UInt8).length = 1 from rfl] at ho45
      rw [List.length_map, show ([((sk ++ List.replicate (136 - (sk).length) (0 : UInt8)).getD i 0) ^^^ (54 : UInt8)] : List UInt8).length = 1 from rfl] at hnl45
      have hds_ho45_hs10 : ∀ j, v45.ownBlock = some j → u10.ownBlock ≠ some j := fun j h1 h2 => (hpl45 j h1).elim (fun h => hds_vi_hs10 j h h2) (fun h => by have h4 := (fun j hj => hs10.lt j hj) j h2; omega)
      have hds_ho45_hovk : ∀ j, v45.ownBlock = some j → vk.ownBlock ≠ some j := fun j h1 h2 => (hpl45 j h1).elim (fun h => hds_vi_hovk j h h2) (fun h => by have h4 := (fun j hj => (hovk.lt j hj).2) j h2; omega)
      have hds_ho45_hovq : ∀ j, v45.ownBlock = some j → vq.ownBlock ≠ some j := fun j h1 h2 => (hpl45 j h1).elim (fun h => (fun j h1 h2 => hds_vq_vi j h2 h1) j h h2) (fun h => by have h4 := (fun j hj => (hovq.lt j hj).2) j h2; omega)
      have hne_45_b44 : ∀ j, v45.ownBlock = some j → j ≠ b44 := fun j hj => (hpl45 j hj).elim (fun h => hne_hovi_b44 j h) (fun h => by have := lt_of_block hb44; omega)
      replace hB := keepBR hg (own_row hovi) hB
      replace hb44 := keepOR hg (ne_of_ap hne_hovi_b44) hb44
      replace hs10 := keepSR hg hds_vi_hs10 hs10
      replace hovk := keepWR hg hds_vi_hovk hovk
      replace hovq := keepWR hg (fun j h1 h2 => hds_vq_vi j h2 h1) hovq
      clear hg
      refine sv ha (r_assign ha rfl) rfl rfl rfl ?_; clear ha a; intro a ha
      refine hK42 _ _ ?_; clear hK42 K41
      refine region ?_
      refine sv ha (r_move ha rfl) rfl rfl rfl ?_; clear ha a; intro a ha
      refine sv ha (r_move ha rfl) rfl rfl rfl ?_; clear ha a; intro a ha
      refine sv ha (r_move ha rfl) rfl rfl rfl ?_; clear ha a; intro a ha
      refine sv ha (r_indexS (i := i) ha Tryd.runUnderlying22 Tryd.sizeOf5 (Sl.ofOwns hovk) (C := (sk ++ List.replicate (136 - (sk).length) (0 : UInt8)).map e8) rfl rfl (by rw [List.length_map]; rw [List.length_append, List.length_replicate]; omega)) rfl rfl rfl ?_; clear ha a; intro a ha
      refine sv ha (r_loadS ha rfl Tryd.isAgg5 (Sl.ofOwns hovk) (get_map e8 (sk ++ List.replicate (136 - (sk).length) (0 : UInt8)) 0 i (by rw [List.length_append, List.length_replicate]; omega))) rfl rfl rfl ?_; clear ha a; intro a ha
      refine sv ha (rb_xor ha ((sk ++ List.replicate (136 - (sk).length) (0 : UInt8)).getD i 0) (92 : UInt8) rfl rfl) rfl rfl rfl ?_; clear ha a; intro a ha
      refine sbuildS ha [(0, e8 (((sk ++ List.replicate (136 - (sk).length) (0 : UInt8)).getD i 0) ^^^ (92 : UInt8)))] (([((sk ++ List.replicate (136 - (sk).length) (0 : UInt8)).getD i 0) ^^^ (92 : UInt8)] : List UInt8).map e8) rfl Tryd.runUnderlying22 Tryd.sizeOf5 Tryd.zeroValue5 rfl rfl rfl rfl rfl ?_
      clear ha a; intro a w47 b48 ha hg hb48 hge48 hlt48
      have hz48 : w0.heap.size ≤ b48 := Nat.le_trans hB.size hge48
      have hne_hs10_b48 : ∀ j, Value.ownBlock u10 = some j → j ≠ b48 := fun j hj => by have := hs10.lt j hj; omega
      have hne_hovk_b48 : ∀ j, Value.ownBlock vk = some j → j ≠ b48 := fun j hj => by have := (hovk.lt j hj).2; omega
      have hne_hovq_b48 : ∀ j, Value.ownBlock vq = some j → j ≠ b48 := fun j hj => by have := (hovq.lt j hj).2; omega
      have hne_ho45_b48 : ∀ j, Value.ownBlock v45 = some j → j ≠ b48 := fun j hj => by have := (ho45.lt j hj).2; omega
      have hq44_48 : b44 < b48 := Nat.lt_of_lt_of_le (lt_of_block hb44) hge48
      replace hB := keepB0 hg hB
      replace hb44 := keepO0 hg hb44
      replace hs10 := keepS0 hg hs10
      replace hovk := keepW0 hg hovk
      replace hovq := keepW0 hg hovq
      replace ho45 := keepW0 hg ho45
      clear hg hge48 hlt48
      refine sapp (C := ((inA (sk ++ List.replicate (136 - (sk).length) (0 : UInt8)) 92 i)).map e8) (D := (([((sk ++ List.replicate (136 - (sk).length) (0 : UInt8)).getD i 0) ^^^ (92 : UInt8)] : List UInt8)).map e8) ha rfl rfl Tryd.underlying22 rfl rfl rfl rfl hovq (Sl.ofBlockM hb48 (by rw [show ([((sk ++ List.replicate (136 - (sk).length) (0 : UInt8)).getD i 0) ^^^ (92 : UInt8)] : List UInt8).length = 1 from rfl]) (by omega)) (one_e8 _) (by simp only [List.length_map, List.length_append, List.length_replicate, List.length_cons, List.length_nil, inA_len, sum256_len, th1_len, th2_len, mac_len]; show _ * 1 ≤ _; omega) (by simp only [List.length_map, List.length_append, List.length_replicate, List.length_cons, List.length_nil, inA_len, sum256_len, th1_len, th2_len, mac_len]; omega) hB.size rfl ?_
      clear ha a; intro a w50 v49 ha hg ho49 hnl49 hpl49
      rw [← List.map_append, List.length_map, show ([((sk ++ List.replicate (136 - (sk).length) (0 : UInt8)).getD i 0) ^^^ (92 : UInt8)] : List UInt8).length = 1 from rfl] at ho49
      rw [List.length_map, show ([((sk ++ List.replicate (136 - (sk).length) (0 : UInt8)).getD i 0) ^^^ (92 : UInt8)] : List UInt8).length = 1 from rfl] at hnl49
      have hds_ho49_hs10 : ∀ j, v49.ownBlock = some j → u10.ownBlock ≠ some j := fun j h1 h2 => (hpl49 j h1).elim (fun h => hds_vq_hs10 j h h2) (fun h => by have h4 := (fun j hj => hs10.lt j hj) j h2; omega)
      have hds_ho49_hovk : ∀ j, v49.ownBlock = some j → vk.ownBlock ≠ some j := fun j h1 h2 => (hpl49 j h1).elim (fun h => hds_vq_hovk j h h2) (fun h => by have h4 := (fun j hj => (hovk.lt j hj).2) j h2; omega)
      have hds_ho49_ho45 : ∀ j, v49.ownBlock = some j → v45.ownBlock ≠ some j := fun j h1 h2 => (hpl49 j h1).elim (fun h => (fun j h1 h2 => hds_ho45_hovq j h2 h1) j h h2) (fun h => by have h4 := (fun j hj => (ho45.lt j hj).2) j h2; omega)
      have hne_49_b44 : ∀ j, v49.ownBlock = some j → j ≠ b44 := fun j hj => (hpl49 j hj).elim (fun h => hne_hovq_b44 j h) (fun h => by have := lt_of_block hb44; omega)
      have hne_49_b48 : ∀ j, v49.ownBlock = some j → j ≠ b48 := fun j hj => (hpl49 j hj).elim (fun h => hne_hovq_b48 j h) (fun h => by have := lt_of_block hb48; omega)
      replace hB := keepBR hg (own_row hovq) hB
      replace hb44 := keepOR hg (ne_of_ap hne_hovq_b44) hb44
      replace hb48 := keepOR hg (ne_of_ap hne_hovq_b48) hb48
      replace hs10 := keepSR hg hds_vq_hs10 hs10
      replace hovk := keepWR hg hds_vq_hovk hovk
      replace ho45 := keepWR hg (fun j h1 h2 => hds_ho45_hovq j h2 h1) ho45
      clear hg
      refine sv ha (r_assign ha rfl) rfl rfl rfl ?_; clear ha a; intro a ha
      refine hK40 _ _ ?_; clear hK40 K39
      refine region ?_
      refine sv ha (r_move ha rfl) rfl rfl rfl ?_; clear ha a; intro a ha
      refine sv ha (rn_add ha i 1 rfl rfl (by omega)) rfl rfl rfl ?_; clear ha a; intro a ha
      refine sv ha (r_assign ha rfl) rfl rfl rfl ?_; clear ha a; intro a ha
      exact ⟨i + 1, by omega, v45, v49, (by omega), hds_ho49_ho45, hds_ho45_hs10, hds_ho45_hovk, hds_ho49_hs10, hds_ho49_hovk, ha.to [0, 1, 4, 9, 10, 11, 12, 13, 14, 15, 5, 19, 20, 21, 8, 6, 7] rfl, hB, hs10, hovk, (own_castl (own_len ho45) rfl), (own_castl (own_len ho49) rfl)⟩
    · skip
      replace hc38 := of_decide_eq_false hc38
      refine wp_exit ?_
      obtain rfl : i = 136 := by omega
      refine hK30 _ _ ?_; clear hK35 K34 hK30 K29
      refine wp_seq_k fun K51 hK52 => ?_
      refine region ?_
      refine sv ha (r_move ha rfl) rfl rfl rfl ?_; clear ha a; intro a ha
      refine sv ha (r_move ha rfl) rfl rfl rfl ?_; clear ha a; intro a ha
      refine sapp (C := ((inA (sk ++ List.replicate (136 - (sk).length) (0 : UInt8)) 54 136)).map e8) (D := (b).map e8) ha rfl rfl Tryd.underlying22 rfl rfl rfl rfl hovi (hsu.below hB) (one_e8 _) (by simp only [List.length_map, List.length_append, List.length_replicate, List.length_cons, List.length_nil, inA_len, sum256_len, th1_len, th2_len, mac_len]; show _ * 1 ≤ _; omega) (by simp only [List.length_map, List.length_append, List.length_replicate, List.length_cons, List.length_nil, inA_len, sum256_len, th1_len, th2_len, mac_len]; omega) hB.size rfl ?_
      clear ha a; intro a w54 v53 ha hg ho53 hnl53 hpl53
      rw [← List.map_append, List.length_map] at ho53
      have hds_ho53_hs10 : ∀ j, v53.ownBlock = some j → u10.ownBlock ≠ some j := fun j h1 h2 => (hpl53 j h1).elim (fun h => hds_vi_hs10 j h h2) (fun h => by have h4 := (fun j hj => hs10.lt j hj) j h2; omega)
      have hds_ho53_hovk : ∀ j, v53.ownBlock = some j → vk.ownBlock ≠ some j := fun j h1 h2 => (hpl53 j h1).elim (fun h => hds_vi_hovk j h h2) (fun h => by have h4 := (fun j hj => (hovk.lt j hj).2) j h2; omega)
      have hds_ho53_hovq : ∀ j, v53.ownBlock = some j → vq.ownBlock ≠ some j := fun j h1 h2 => (hpl53 j h1).elim (fun h => (fun j h1 h2 => hds_vq_vi j h2 h1) j h h2) (fun h => by have h4 := (fun j hj => (hovq.lt j hj).2) j h2; omega)
      replace hB := keepBR hg (own_row hovi) hB
      replace hs10 := keepSR hg hds_vi_hs10 hs10
      replace hovk := keepWR hg hds_vi_hovk hovk
      replace hovq := keepWR hg (fun j h1 h2 => hds_vq_vi j h2 h1) hovq
      clear hg
      refine sv ha (r_assign ha rfl) rfl rfl rfl ?_; clear ha a; intro a ha
      refine hK52 _ _ ?_; clear hK52 K51
      refine wp_seq_k fun K55 hK56 => ?_
      refine region ?_
      refine sv ha (r_move ha rfl) rfl rfl rfl ?_; clear ha a; intro a ha
      refine sv ha (r_move ha rfl) rfl rfl rfl ?_; clear ha a; intro a ha
      refine sc ha (r_call ha [v53] rfl Tryd.call22) rfl rfl rfl (c_rsum256 v53 ((inA (sk ++ List.replicate (136 - (sk).length) (0 : UInt8)) 54 136) ++ b) _ (Sl.ofOwns ho53) (by simp only [List.length_append, inA_len, sum256_len]; omega)) ?_
      clear ha a
      rintro e w57 ⟨u58, rfl, hBc, hs58, hd58⟩
      have hg := grown_call hBc; clear hBc
      have hds_hs58_hs10 : ∀ j, u58.ownBlock = some j → u10.ownBlock ≠ some j := fun j h1 h2 => by have h3 := hd58 j h1; have h4 := (fun j hj => hs10.lt j hj) j h2; omega
      have hds_hs58_hovk : ∀ j, u58.ownBlock = some j → vk.ownBlock ≠ some j := fun j h1 h2 => by have h3 := hd58 j h1; have h4 := (fun j hj => (hovk.lt j hj).2) j h2; omega
      have hds_hs58_hovq : ∀ j, u58.ownBlock = some j → vq.ownBlock ≠ some j := fun j h1 h2 => by have h3 := hd58 j h1; have h4 := (fun j hj => (hovq.lt j hj).2) j h2; omega
      have hds_hs58_ho53 : ∀ j, u58.ownBlock = some j → v53.ownBlock ≠ some j := fun j h1 h2 => by have h3 := hd58 j h1; have h4 := (fun j hj => (ho53.lt j hj).2) j h2; omega
      replace hd58 : ∀ j, u58.ownBlock = some j → w0.heap.size ≤ j := fun j hj => Nat.le_trans hB.size (hd58 j hj)
      replace hB := keepB0 hg hB
      replace hs10 := keepS0 hg hs10
      replace hovk := keepW0 hg hovk
      replace hovq := keepW0 hg hovq
      replace ho53 := keepW0 hg ho53
      clear hg
      refine ⟨_, rfl, ?_⟩; intro a ha
      refine sapp (C := ((inA (sk ++ List.replicate (136 - (sk).length) (0 : UInt8)) 92 136)).map e8) (D := (sum256 ((inA (sk ++ List.replicate (136 - (sk).length) (0 : UInt8)) 54 136) ++ b)).map e8) ha rfl rfl Tryd.underlying22 rfl rfl rfl rfl hovq hs58 (one_e8 _) (by simp only [List.length_map, List.length_append, List.length_replicate, List.length_cons, List.length_nil, inA_len, sum256_len, th1_len, th2_len, mac_len]; show _ * 1 ≤ _; omega) (by simp only [List.length_map, List.length_append, List.length_replicate, List.length_cons, List.length_nil, inA_len, sum256_len, th1_len, th2_len, mac_len]; omega) hB.size rfl ?_
      clear ha a; intro a w60 v59 ha hg ho59 hnl59 hpl59
      rw [← List.map_append, List.length_map, sum256_len] at ho59
      rw [List.length_map, sum256_len] at hnl59
      have hds_ho59_hs10 : ∀ j, v59.ownBlock = some j → u10.ownBlock ≠ some j := fun j h1 h2 => (hpl59 j h1).elim (fun h => hds_vq_hs10 j h h2) (fun h => by have h4 := (fun j hj => hs10.lt j hj) j h2; omega)
      have hds_ho59_hovk : ∀ j, v59.ownBlock = some j → vk.ownBlock ≠ some j := fun j h1 h2 => (hpl59 j h1).elim (fun h => hds_vq_hovk j h h2) (fun h => by have h4 := (fun j hj => (hovk.lt j hj).2) j h2; omega)
      have hds_ho59_ho53 : ∀ j, v59.ownBlock = some j → v53.ownBlock ≠ some j := fun j h1 h2 => (hpl59 j h1).elim (fun h => (fun j h1 h2 => hds_ho53_hovq j h2 h1) j h h2) (fun h => by have h4 := (fun j hj => (ho53.lt j hj).2) j h2; omega)
      have hds_ho59_hs58 : ∀ j, v59.ownBlock = some j → u58.ownBlock ≠ some j := fun j h1 h2 => (hpl59 j h1).elim (fun h => (fun j h1 h2 => hds_hs58_hovq j h2 h1) j h h2) (fun h => by have h4 := (fun j hj => hs58.lt j hj) j h2; omega)
      replace hB := keepBR hg (own_row hovq) hB
      replace hs10 := keepSR hg hds_vq_hs10 hs10
      replace hovk := keepWR hg hds_vq_hovk hovk
      replace ho53 := keepWR hg (fun j h1 h2 => hds_ho53_hovq j h2 h1) ho53
      replace hs58 := keepSR hg (fun j h1 h2 => hds_hs58_hovq j h2 h1) hs58
      clear hg
      refine sc ha (r_call ha [v59] rfl Tryd.call22) rfl rfl rfl (c_rsum256 v59 ((inA (sk ++ List.replicate (136 - (sk).length) (0 : UInt8)) 92 136) ++ (sum256 ((inA (sk ++ List.replicate (136 - (sk).length) (0 : UInt8)) 54 136) ++ b))) _ (Sl.ofOwns ho59) (by simp only [List.length_append, inA_len, sum256_len]; omega)) ?_
      clear ha a
      rintro e w61 ⟨u62, rfl, hBc, hs62, hd62⟩
      have hg := grown_call hBc; clear hBc
      have hds_hs62_hs10 : ∀ j, u62.ownBlock = some j → u10.ownBlock ≠ some j := fun j h1 h2 => by have h3 := hd62 j h1; have h4 := (fun j hj => hs10.lt j hj) j h2; omega
      have hds_hs62_hovk : ∀ j, u62.ownBlock = some j → vk.ownBlock ≠ some j := fun j h1 h2 => by have h3 := hd62 j h1; have h4 := (fun j hj => (hovk.lt j hj).2) j h2; omega
      have hds_hs62_ho53 : ∀ j, u62.ownBlock = some j → v53.ownBlock ≠ some j := fun j h1 h2 => by have h3 := hd62 j h1; have h4 := (fun j hj => (ho53.lt j hj).2) j h2; omega
      have hds_hs62_hs58 : ∀ j, u62.ownBlock = some j → u58.ownBlock ≠ some j := fun j h1 h2 => by have h3 := hd62 j h1; have h4 := (fun j hj => hs58.lt j hj) j h2; omega
      have hds_hs62_ho59 : ∀ j, u62.ownBlock = some j → v59.ownBlock ≠ some j := fun j h1 h2 => by have h3 := hd62 j h1; have h4 := (fun j hj => (ho59.lt j hj).2) j h2; omega
      replace hd62 : ∀ j, u62.ownBlock = some j → w0.heap.size ≤ j := fun j hj => Nat.le_trans hB.size (hd62 j hj)
      replace hB := keepB0 hg hB
      replace hs10 := keepS0 hg hs10
      replace hovk := keepW0 hg hovk
      replace ho53 := keepW0 hg ho53
      replace hs58 := keepS0 hg hs58
      replace ho59 := keepW0 hg ho59
      clear hg
      refine ⟨_, rfl, ?_⟩; intro a ha
      refine sv ha (r_assign ha rfl) rfl rfl rfl ?_; clear ha a; intro a ha
      refine hK56 _ _ ?_; clear hK56 K55
      refine wp_ret ?_
      repeat (first | (with_reducible refine t_ret ?_) | (with_reducible refine x_ret ?_))
      exact ret1 ha Tryd.results32 rfl ⟨_, rfl, hB, (Sl.castM (l := sum256 ((inA (sk ++ List.replicate (136 - (sk).length) (0 : UInt8)) 92 136) ++ (sum256 ((inA (sk ++ List.replicate (136 - (sk).length) (0 : UInt8)) 54 136) ++ b)))) hs62 (by rw [mac_long key b hk, hsk, macK, in_eq _ hkl, in_eq _ hkl]; simp only [List.flatten_cons, List.flatten_nil, List.append_nil])), hd62⟩

theorem c_rmac (v : Value) (key : List UInt8) (u : Value) (b : List UInt8) (w0 : World) (hs : Sl w0 v (key.map e8)) (hsu : Sl w0 u (b.map e8)) (hb : b.length ≤ 50000) (hk2 : key.length ≤ 50000) :
    Calls Tryd.prog 32 #[v, u] w0 fun e w' => ∃ u0 : Value, e = .returned (u0) ∧ Below w0.heap.size w0 w' ∧ Sl w' u0 ((mac key b).map e8) ∧ (∀ j, u0.ownBlock = some j → w0.heap.size ≤ j) := by
  by_cases hk : key.length > 136
  · exact c_rmacL v key u b w0 hs hsu hb hk hk2
  · exact c_rmacS v key u b w0 hs hsu hb hk hk2

theorem c_rthree (v : Value) (ck : List UInt8) (u : Value) (i : List UInt8) (w0 : World) (hs : Sl w0 v (ck.map e8)) (hsu : Sl w0 u (i.map e8)) (hb : i.length ≤ 50000) (hk2 : ck.length ≤ 50000) :
    Calls Tryd.prog 35 #[v, u] w0 fun e w' => ∃ u0 u1 u2 : Value, e = .returned (.tuple #[u0, u1, u2]) ∧ Below w0.heap.size w0 w' ∧ Sl w' u0 ((th1 ck i).map e8) ∧ (∀ j, u0.ownBlock = some j → w0.heap.size ≤ j) ∧ Sl w' u1 ((th2 ck i).map e8) ∧ (∀ j, u1.ownBlock = some j → w0.heap.size ≤ j) ∧ Sl w' u2 ((th3 ck i).map e8) ∧ (∀ j, u2.ownBlock = some j → w0.heap.size ≤ j) := by
  refine enter (args := [_, _]) Tryd.func35 rfl Tryd.ntmps35 rfl ?_
  intro a ha
  have hB := Below.refl w0.heap.size w0
  refine wp_seq_k fun K1 hK2 => ?_
  refine region ?_
  refine sv ha (r_assign ha rfl) rfl rfl rfl ?_; clear ha a; intro a ha
  refine sv ha (r_assign ha rfl) rfl rfl rfl ?_; clear ha a; intro a ha
  refine sv ha (r_assign ha rfl) rfl rfl rfl ?_; clear ha a; intro a ha
  refine hK2 _ _ ?_; clear hK2 K1
  refine wp_seq_k fun K3 hK4 => ?_
  refine region ?_
  refine sv ha (r_move ha rfl) rfl rfl rfl ?_; clear ha a; intro a ha
  refine sv ha (r_move ha rfl) rfl rfl rfl ?_; clear ha a; intro a ha
  refine sc ha (r_call ha [v, u] rfl Tryd.call32) rfl rfl rfl (c_rmac v ck u i _ (hs.below hB) (hsu.below hB) (by omega) (by omega)) ?_
  clear ha a
  rintro e w5 ⟨u6, rfl, hBc, hs6, hd6⟩
  have hg := grown_call hBc; clear hBc
  replace hd6 : ∀ j, u6.ownBlock = some j → w0.heap.size ≤ j := fun j hj => Nat.le_trans hB.size (hd6 j hj)
  replace hB := keepB0 hg hB
  clear hg
  refine ⟨_, rfl, ?_⟩; intro a ha
  refine sv ha (r_assign ha rfl) rfl rfl rfl ?_; clear ha a; intro a ha
  refine hK4 _ _ ?_; clear hK4 K3
  refine wp_seq_k fun K7 hK8 => ?_
  refine region ?_
  refine sv ha (r_move ha rfl) rfl rfl rfl ?_; clear ha a; intro a ha
  refine sbuildS ha [(0, .int .u8 1)] (([(1 : UInt8)] : List UInt8).map e8) rfl Tryd.runUnderlying22 Tryd.sizeOf5 Tryd.zeroValue5 rfl rfl rfl rfl rfl ?_
  clear ha a; intro a w9 b10 ha hg hb10 hge10 hlt10
  have hz10 : w0.heap.size ≤ b10 := Nat.le_trans hB.size hge10
  have hne_hs6_b10 : ∀ j, Value.ownBlock u6 = some j → j ≠ b10 := fun j hj => by have := hs6.lt j hj; omega
  replace hB := keepB0 hg hB
  replace hs6 := keepS0 hg hs6
  clear hg hge10 hlt10
  refine sc ha (r_call ha [u6, (.slice (some ⟨b10, 0, none⟩) 1 1)] rfl Tryd.call32) rfl rfl rfl (c_rmac u6 (mac ck i) (.slice (some ⟨b10, 0, none⟩) 1 1) ([(1 : UInt8)] : List UInt8) _ hs6 (Sl.ofBlockM hb10 (by rw [show ([(1 : UInt8)] : List UInt8).length = 1 from rfl]) (Nat.le_refl _)) (by show 1 ≤ 50000; omega) (by rw [mac_len]; omega)) ?_
  clear ha a
  rintro e w11 ⟨u12, rfl, hBc, hs12, hd12⟩
  have hg := grown_call hBc; clear hBc
  have hnb_hs12_b10 : ∀ j, u12.ownBlock = some j → j ≠ b10 := fun j hj => by have h1 := hd12 j hj; have h2 := lt_of_block hb10; omega
  have hds_hs12_hs6 : ∀ j, u12.ownBlock = some j → u6.ownBlock ≠ some j := fun j h1 h2 => by have h3 := hd12 j h1; have h4 := (fun j hj => hs6.lt j hj) j h2; omega
  replace hd12 : ∀ j, u12.ownBlock = some j → w0.heap.size ≤ j := fun j hj => Nat.le_trans hB.size (hd12 j hj)
  replace hB := keepB0 hg hB
  replace hb10 := keepO0 hg hb10
  replace hs6 := keepS0 hg hs6
  clear hg
  refine ⟨_, rfl, ?_⟩; intro a ha
  refine sv ha (r_assign ha rfl) rfl rfl rfl ?_; clear ha a; intro a ha
  refine hK8 _ _ ?_; clear hK8 K7
  refine wp_seq_k fun K13 hK14 => ?_
  refine region ?_
  refine sv ha (r_assign ha rfl) rfl rfl rfl ?_; clear ha a; intro a ha
  refine hK14 _ _ ?_; clear hK14 K13
  refine wp_seq_k fun K15 hK16 => ?_
  refine region ?_
  refine sv ha (r_move ha rfl) rfl rfl rfl ?_; clear ha a; intro a ha
  refine sv ha (r_move ha rfl) rfl rfl rfl ?_; clear ha a; intro a ha
  refine sapp (C := (([] : List UInt8)).map e8) (D := (mac (mac ck i) ([(1 : UInt8)] : List UInt8)).map e8) ha rfl rfl Tryd.underlying22 rfl rfl rfl rfl (World.ownsRow_nil w11 w0.heap.size 5 1) hs12 (one_e8 _) (by simp only [List.length_map, List.length_append, List.length_replicate, List.length_cons, List.length_nil, inA_len, sum256_len, th1_len, th2_len, mac_len]; show _ * 1 ≤ _; omega) (by simp only [List.length_map, List.length_append, List.length_replicate, List.length_cons, List.length_nil, inA_len, sum256_len, th1_len, th2_len, mac_len]; omega) hB.size rfl ?_
  clear ha a; intro a w18 v17 ha hg ho17 hnl17 hpl17
  rw [← List.map_append, List.length_map, mac_len] at ho17
  rw [List.length_map, mac_len] at hnl17
  rw [List.nil_append, Nat.zero_add] at ho17
  have hds_ho17_hs6 : ∀ j, v17.ownBlock = some j → u6.ownBlock ≠ some j := fun j h1 h2 => (hpl17 j h1).elim (fun h => (nil_own j h).elim) (fun h => by have h4 := (fun j hj => hs6.lt j hj) j h2; omega)
  have hds_ho17_hs12 : ∀ j, v17.ownBlock = some j → u12.ownBlock ≠ some j := fun j h1 h2 => (hpl17 j h1).elim (fun h => (nil_own j h).elim) (fun h => by have h4 := (fun j hj => hs12.lt j hj) j h2; omega)
  have hg : World.grownBy w11 w18 none := hg
  have hne_17_b10 : ∀ j, v17.ownBlock = some j → j ≠ b10 := fun j hj => (hpl17 j hj).elim (fun h => by simp [Value.ownBlock] at h) (fun h => by have := lt_of_block hb10; omega)
  replace hB := keepB0 hg hB
  replace hb10 := keepO0 hg hb10
  replace hs6 := keepS0 hg hs6
  replace hs12 := keepS0 hg hs12
  clear hg
  refine sv ha (r_assign ha rfl) rfl rfl rfl ?_; clear ha a; intro a ha
  refine hK16 _ _ ?_; clear hK16 K15
  refine wp_seq_k fun K19 hK20 => ?_
  refine region ?_
  refine sv ha (r_move ha rfl) rfl rfl rfl ?_; clear ha a; intro a ha
  refine sv ha (r_move ha rfl) rfl rfl rfl ?_; clear ha a; intro a ha
  refine sbuildS ha [(0, .int .u8 2)] (([(2 : UInt8)] : List UInt8).map e8) rfl Tryd.runUnderlying22 Tryd.sizeOf5 Tryd.zeroValue5 rfl rfl rfl rfl rfl ?_
  clear ha a; intro a w21 b22 ha hg hb22 hge22 hlt22
  have hz22 : w0.heap.size ≤ b22 := Nat.le_trans hB.size hge22
  have hne_hs6_b22 : ∀ j, Value.ownBlock u6 = some j → j ≠ b22 := fun j hj => by have := hs6.lt j hj; omega
  have hne_hs12_b22 : ∀ j, Value.ownBlock u12 = some j → j ≠ b22 := fun j hj => by have := hs12.lt j hj; omega
  have hne_ho17_b22 : ∀ j, Value.ownBlock v17 = some j → j ≠ b22 := fun j hj => by have := (ho17.lt j hj).2; omega
  have hq10_22 : b10 < b22 := Nat.lt_of_lt_of_le (lt_of_block hb10) hge22
  replace hB := keepB0 hg hB
  replace hb10 := keepO0 hg hb10
  replace hs6 := keepS0 hg hs6
  replace hs12 := keepS0 hg hs12
  replace ho17 := keepW0 hg ho17
  clear hg hge22 hlt22
  refine sapp (C := ((mac (mac ck i) ([(1 : UInt8)] : List UInt8))).map e8) (D := (([(2 : UInt8)] : List UInt8)).map e8) ha rfl rfl Tryd.underlying22 rfl rfl rfl rfl ho17 (Sl.ofBlockM hb22 (by rw [show ([(2 : UInt8)] : List UInt8).length = 1 from rfl]) (by omega)) (one_e8 _) (by simp only [List.length_map, List.length_append, List.length_replicate, List.length_cons, List.length_nil, inA_len, sum256_len, th1_len, th2_len, mac_len]; show _ * 1 ≤ _; omega) (by simp only [List.length_map, List.length_append, List.length_replicate, List.length_cons, List.length_nil, inA_len, sum256_len, th1_len, th2_len, mac_len]; omega) hB.size rfl ?_
  clear ha a; intro a w24 v23 ha hg ho23 hnl23 hpl23
  rw [← List.map_append, List.length_map, show ([(2 : UInt8)] : List UInt8).length = 1 from rfl] at ho23
  rw [List.length_map, show ([(2 : UInt8)] : List UInt8).length = 1 from rfl] at hnl23
  have hds_ho23_hs6 : ∀ j, v23.ownBlock = some j → u6.ownBlock ≠ some j := fun j h1 h2 => (hpl23 j h1).elim (fun h => hds_ho17_hs6 j h h2) (fun h => by have h4 := (fun j hj => hs6.lt j hj) j h2; omega)
  have hds_ho23_hs12 : ∀ j, v23.ownBlock = some j → u12.ownBlock ≠ some j := fun j h1 h2 => (hpl23 j h1).elim (fun h => hds_ho17_hs12 j h h2) (fun h => by have h4 := (fun j hj => hs12.lt j hj) j h2; omega)
  have hne_23_b10 : ∀ j, v23.ownBlock = some j → j ≠ b10 := fun j hj => (hpl23 j hj).elim (fun h => hne_17_b10 j h) (fun h => by have := lt_of_block hb10; omega)
  have hne_23_b22 : ∀ j, v23.ownBlock = some j → j ≠ b22 := fun j hj => (hpl23 j hj).elim (fun h => hne_ho17_b22 j h) (fun h => by have := lt_of_block hb22; omega)
  replace hB := keepBR hg (own_row ho17) hB
  replace hb10 := keepOR hg (ne_of_ap hne_17_b10) hb10
  replace hb22 := keepOR hg (ne_of_ap hne_ho17_b22) hb22
  replace hs6 := keepSR hg hds_ho17_hs6 hs6
  replace hs12 := keepSR hg hds_ho17_hs12 hs12
  clear hg
  refine sc ha (r_call ha [u6, v23] rfl Tryd.call32) rfl rfl rfl (c_rmac u6 (mac ck i) v23 ((mac (mac ck i) ([(1 : UInt8)] : List UInt8)) ++ ([(2 : UInt8)] : List UInt8)) _ hs6 (Sl.ofOwns ho23) (by simp only [List.length_append, th1_len, th2_len, mac_len, List.length_cons, List.length_nil]; omega) (by rw [mac_len]; omega)) ?_
  clear ha a
  rintro e w25 ⟨u26, rfl, hBc, hs26, hd26⟩
  have hg := grown_call hBc; clear hBc
  have hnb_hs26_b10 : ∀ j, u26.ownBlock = some j → j ≠ b10 := fun j hj => by have h1 := hd26 j hj; have h2 := lt_of_block hb10; omega
  have hnb_hs26_b22 : ∀ j, u26.ownBlock = some j → j ≠ b22 := fun j hj => by have h1 := hd26 j hj; have h2 := lt_of_block hb22; omega
  have hds_hs26_hs6 : ∀ j, u26.ownBlock = some j → u6.ownBlock ≠ some j := fun j h1 h2 => by have h3 := hd26 j h1; have h4 := (fun j hj => hs6.lt j hj) j h2; omega
  have hds_hs26_hs12 : ∀ j, u26.ownBlock = some j → u12.ownBlock ≠ some j := fun j h1 h2 => by have h3 := hd26 j h1; have h4 := (fun j hj => hs12.lt j hj) j h2; omega
  have hds_hs26_ho23 : ∀ j, u26.ownBlock = some j → v23.ownBlock ≠ some j := fun j h1 h2 => by have h3 := hd26 j h1; have h4 := (fun j hj => (ho23.lt j hj).2) j h2; omega
  replace hd26 : ∀ j, u26.ownBlock = some j → w0.heap.size ≤ j := fun j hj => Nat.le_trans hB.size (hd26 j hj)
  replace hB := keepB0 hg hB
  replace hb10 := keepO0 hg hb10
  replace hb22 := keepO0 hg hb22
  replace hs6 := keepS0 hg hs6
  replace hs12 := keepS0 hg hs12
  replace ho23 := keepW0 hg ho23
  clear hg
  refine ⟨_, rfl, ?_⟩; intro a ha
  refine sv ha (r_assign ha rfl) rfl rfl rfl ?_; clear ha a; intro a ha
  refine hK20 _ _ ?_; clear hK20 K19
  refine wp_seq_k fun K27 hK28 => ?_
  refine region ?_
  refine sv ha (r_assign ha rfl) rfl rfl rfl ?_; clear ha a; intro a ha
  refine hK28 _ _ ?_; clear hK28 K27
  refine wp_seq_k fun K29 hK30 => ?_
  refine region ?_
  refine sv ha (r_move ha rfl) rfl rfl rfl ?_; clear ha a; intro a ha
  refine sv ha (r_move ha rfl) rfl rfl rfl ?_; clear ha a; intro a ha
  refine sapp (C := (([] : List UInt8)).map e8) (D := (mac (mac ck i) ((mac (mac ck i) ([(1 : UInt8)] : List UInt8)) ++ ([(2 : UInt8)] : List UInt8))).map e8) ha rfl rfl Tryd.underlying22 rfl rfl rfl rfl (World.ownsRow_nil w25 w0.heap.size 5 1) hs26 (one_e8 _) (by simp only [List.length_map, List.length_append, List.length_replicate, List.length_cons, List.length_nil, inA_len, sum256_len, th1_len, th2_len, mac_len]; show _ * 1 ≤ _; omega) (by simp only [List.length_map, List.length_append, List.length_replicate, List.length_cons, List.length_nil, inA_len, sum256_len, th1_len, th2_len, mac_len]; omega) hB.size rfl ?_
  clear ha a; intro a w32 v31 ha hg ho31 hnl31 hpl31
  rw [← List.map_append, List.length_map, mac_len] at ho31
  rw [List.length_map, mac_len] at hnl31
  rw [List.nil_append, Nat.zero_add] at ho31
  have hds_ho31_hs6 : ∀ j, v31.ownBlock = some j → u6.ownBlock ≠ some j := fun j h1 h2 => (hpl31 j h1).elim (fun h => (nil_own j h).elim) (fun h => by have h4 := (fun j hj => hs6.lt j hj) j h2; omega)
  have hds_ho31_hs12 : ∀ j, v31.ownBlock = some j → u12.ownBlock ≠ some j := fun j h1 h2 => (hpl31 j h1).elim (fun h => (nil_own j h).elim) (fun h => by have h4 := (fun j hj => hs12.lt j hj) j h2; omega)
  have hds_ho31_ho23 : ∀ j, v31.ownBlock = some j → v23.ownBlock ≠ some j := fun j h1 h2 => (hpl31 j h1).elim (fun h => (nil_own j h).elim) (fun h => by have h4 := (fun j hj => (ho23.lt j hj).2) j h2; omega)
  have hds_ho31_hs26 : ∀ j, v31.ownBlock = some j → u26.ownBlock ≠ some j := fun j h1 h2 => (hpl31 j h1).elim (fun h => (nil_own j h).elim) (fun h => by have h4 := (fun j hj => hs26.lt j hj) j h2; omega)
  have hg : World.grownBy w25 w32 none := hg
  have hne_31_b10 : ∀ j, v31.ownBlock = some j → j ≠ b10 := fun j hj => (hpl31 j hj).elim (fun h => by simp [Value.ownBlock] at h) (fun h => by have := lt_of_block hb10; omega)
  have hne_31_b22 : ∀ j, v31.ownBlock = some j → j ≠ b22 := fun j hj => (hpl31 j hj).elim (fun h => by simp [Value.ownBlock] at h) (fun h => by have := lt_of_block hb22; omega)
  replace hB := keepB0 hg hB
  replace hb10 := keepO0 hg hb10
  replace hb22 := keepO0 hg hb22
  replace hs6 := keepS0 hg hs6
  replace hs12 := keepS0 hg hs12
  replace ho23 := keepW0 hg ho23
  replace hs26 := keepS0 hg hs26
  clear hg
  refine sv ha (r_assign ha rfl) rfl rfl rfl ?_; clear ha a; intro a ha
  refine hK30 _ _ ?_; clear hK30 K29
  refine wp_seq_k fun K33 hK34 => ?_
  refine region ?_
  refine sv ha (r_move ha rfl) rfl rfl rfl ?_; clear ha a; intro a ha
  refine sv ha (r_move ha rfl) rfl rfl rfl ?_; clear ha a; intro a ha
  refine sv ha (r_move ha rfl) rfl rfl rfl ?_; clear ha a; intro a ha
  refine sv ha (r_move ha rfl) rfl rfl rfl ?_; clear ha a; intro a ha
  refine sbuildS ha [(0, .int .u8 3)] (([(3 : UInt8)] : List UInt8).map e8) rfl Tryd.runUnderlying22 Tryd.sizeOf5 Tryd.zeroValue5 rfl rfl rfl rfl rfl ?_
  clear ha a; intro a w35 b36 ha hg hb36 hge36 hlt36
  have hz36 : w0.heap.size ≤ b36 := Nat.le_trans hB.size hge36
  have hne_hs6_b36 : ∀ j, Value.ownBlock u6 = some j → j ≠ b36 := fun j hj => by have := hs6.lt j hj; omega
  have hne_hs12_b36 : ∀ j, Value.ownBlock u12 = some j → j ≠ b36 := fun j hj => by have := hs12.lt j hj; omega
  have hne_ho23_b36 : ∀ j, Value.ownBlock v23 = some j → j ≠ b36 := fun j hj => by have := (ho23.lt j hj).2; omega
  have hne_hs26_b36 : ∀ j, Value.ownBlock u26 = some j → j ≠ b36 := fun j hj => by have := hs26.lt j hj; omega
  have hne_ho31_b36 : ∀ j, Value.ownBlock v31 = some j → j ≠ b36 := fun j hj => by have := (ho31.lt j hj).2; omega
  have hq10_36 : b10 < b36 := Nat.lt_of_lt_of_le (lt_of_block hb10) hge36
  have hq22_36 : b22 < b36 := Nat.lt_of_lt_of_le (lt_of_block hb22) hge36
  replace hB := keepB0 hg hB
  replace hb10 := keepO0 hg hb10
  replace hb22 := keepO0 hg hb22
  replace hs6 := keepS0 hg hs6
  replace hs12 := keepS0 hg hs12
  replace ho23 := keepW0 hg ho23
  replace hs26 := keepS0 hg hs26
  replace ho31 := keepW0 hg ho31
  clear hg hge36 hlt36
  refine sapp (C := ((mac (mac ck i) ((mac (mac ck i) ([(1 : UInt8)] : List UInt8)) ++ ([(2 : UInt8)] : List UInt8)))).map e8) (D := (([(3 : UInt8)] : List UInt8)).map e8) ha rfl rfl Tryd.underlying22 rfl rfl rfl rfl ho31 (Sl.ofBlockM hb36 (by rw [show ([(3 : UInt8)] : List UInt8).length = 1 from rfl]) (by omega)) (one_e8 _) (by simp only [List.length_map, List.length_append, List.length_replicate, List.length_cons, List.length_nil, inA_len, sum256_len, th1_len, th2_len, mac_len]; show _ * 1 ≤ _; omega) (by simp only [List.length_map, List.length_append, List.length_replicate, List.length_cons, List.length_nil, inA_len, sum256_len, th1_len, th2_len, mac_len]; omega) hB.size rfl ?_
  clear ha a; intro a w38 v37 ha hg ho37 hnl37 hpl37
  rw [← List.map_append, List.length_map, show ([(3 : UInt8)] : List UInt8).length = 1 from rfl] at ho37
  rw [List.length_map, show ([(3 : UInt8)] : List UInt8).length = 1 from rfl] at hnl37
  have hds_ho37_hs6 : ∀ j, v37.ownBlock = some j → u6.ownBlock ≠ some j := fun j h1 h2 => (hpl37 j h1).elim (fun h => hds_ho31_hs6 j h h2) (fun h => by have h4 := (fun j hj => hs6.lt j hj) j h2; omega)
  have hds_ho37_hs12 : ∀ j, v37.ownBlock = some j → u12.ownBlock ≠ some j := fun j h1 h2 => (hpl37 j h1).elim (fun h => hds_ho31_hs12 j h h2) (fun h => by have h4 := (fun j hj => hs12.lt j hj) j h2; omega)
  have hds_ho37_ho23 : ∀ j, v37.ownBlock = some j → v23.ownBlock ≠ some j := fun j h1 h2 => (hpl37 j h1).elim (fun h => hds_ho31_ho23 j h h2) (fun h => by have h4 := (fun j hj => (ho23.lt j hj).2) j h2; omega)
  have hds_ho37_hs26 : ∀ j, v37.ownBlock = some j → u26.ownBlock ≠ some j := fun j h1 h2 => (hpl37 j h1).elim (fun h => hds_ho31_hs26 j h h2) (fun h => by have h4 := (fun j hj => hs26.lt j hj) j h2; omega)
  have hne_37_b10 : ∀ j, v37.ownBlock = some j → j ≠ b10 := fun j hj => (hpl37 j hj).elim (fun h => hne_31_b10 j h) (fun h => by have := lt_of_block hb10; omega)
  have hne_37_b22 : ∀ j, v37.ownBlock = some j → j ≠ b22 := fun j hj => (hpl37 j hj).elim (fun h => hne_31_b22 j h) (fun h => by have := lt_of_block hb22; omega)
  have hne_37_b36 : ∀ j, v37.ownBlock = some j → j ≠ b36 := fun j hj => (hpl37 j hj).elim (fun h => hne_ho31_b36 j h) (fun h => by have := lt_of_block hb36; omega)
  replace hB := keepBR hg (own_row ho31) hB
  replace hb10 := keepOR hg (ne_of_ap hne_31_b10) hb10
  replace hb22 := keepOR hg (ne_of_ap hne_31_b22) hb22
  replace hb36 := keepOR hg (ne_of_ap hne_ho31_b36) hb36
  replace hs6 := keepSR hg hds_ho31_hs6 hs6
  replace hs12 := keepSR hg hds_ho31_hs12 hs12
  replace ho23 := keepWR hg hds_ho31_ho23 ho23
  replace hs26 := keepSR hg hds_ho31_hs26 hs26
  clear hg
  refine sc ha (r_call ha [u6, v37] rfl Tryd.call32) rfl rfl rfl (c_rmac u6 (mac ck i) v37 ((mac (mac ck i) ((mac (mac ck i) ([(1 : UInt8)] : List UInt8)) ++ ([(2 : UInt8)] : List UInt8))) ++ ([(3 : UInt8)] : List UInt8)) _ hs6 (Sl.ofOwns ho37) (by simp only [List.length_append, th1_len, th2_len, mac_len, List.length_cons, List.length_nil]; omega) (by rw [mac_len]; omega)) ?_
  clear ha a
  rintro e w39 ⟨u40, rfl, hBc, hs40, hd40⟩
  have hg := grown_call hBc; clear hBc
  have hnb_hs40_b10 : ∀ j, u40.ownBlock = some j → j ≠ b10 := fun j hj => by have h1 := hd40 j hj; have h2 := lt_of_block hb10; omega
  have hnb_hs40_b22 : ∀ j, u40.ownBlock = some j → j ≠ b22 := fun j hj => by have h1 := hd40 j hj; have h2 := lt_of_block hb22; omega
  have hnb_hs40_b36 : ∀ j, u40.ownBlock = some j → j ≠ b36 := fun j hj => by have h1 := hd40 j hj; have h2 := lt_of_block hb36; omega
  have hds_hs40_hs6 : ∀ j, u40.ownBlock = some j → u6.ownBlock ≠ some j := fun j h1 h2 => by have h3 := hd40 j h1; have h4 := (fun j hj => hs6.lt j hj) j h2; omega
  have hds_hs40_hs12 : ∀ j, u40.ownBlock = some j → u12.ownBlock ≠ some j := fun j h1 h2 => by have h3 := hd40 j h1; have h4 := (fun j hj => hs12.lt j hj) j h2; omega
  have hds_hs40_ho23 : ∀ j, u40.ownBlock = some j → v23.ownBlock ≠ some j := fun j h1 h2 => by have h3 := hd40 j h1; have h4 := (fun j hj => (ho23.lt j hj).2) j h2; omega
  have hds_hs40_hs26 : ∀ j, u40.ownBlock = some j → u26.ownBlock ≠ some j := fun j h1 h2 => by have h3 := hd40 j h1; have h4 := (fun j hj => hs26.lt j hj) j h2; omega
  have hds_hs40_ho37 : ∀ j, u40.ownBlock = some j → v37.ownBlock ≠ some j := fun j h1 h2 => by have h3 := hd40 j h1; have h4 := (fun j hj => (ho37.lt j hj).2) j h2; omega
  replace hd40 : ∀ j, u40.ownBlock = some j → w0.heap.size ≤ j := fun j hj => Nat.le_trans hB.size (hd40 j hj)
  replace hB := keepB0 hg hB
  replace hb10 := keepO0 hg hb10
  replace hb22 := keepO0 hg hb22
  replace hb36 := keepO0 hg hb36
  replace hs6 := keepS0 hg hs6
  replace hs12 := keepS0 hg hs12
  replace ho23 := keepW0 hg ho23
  replace hs26 := keepS0 hg hs26
  replace ho37 := keepW0 hg ho37
  clear hg
  refine ⟨_, rfl, ?_⟩; intro a ha
  refine sv ha (r_assign ha rfl) rfl rfl rfl ?_; clear ha a; intro a ha
  refine sv ha (r_assign ha rfl) rfl rfl rfl ?_; clear ha a; intro a ha
  refine sv ha (r_assign ha rfl) rfl rfl rfl ?_; clear ha a; intro a ha
  refine hK34 _ _ ?_; clear hK34 K33
  refine wp_ret ?_
  repeat (first | (with_reducible refine t_ret ?_) | (with_reducible refine x_ret ?_))
  exact ret3 ha Tryd.results35 rfl rfl rfl ⟨_, _, _, rfl, hB, (Sl.castM (l := mac (mac ck i) ([(1 : UInt8)] : List UInt8)) hs12 rfl), hd12, (Sl.castM (l := mac (mac ck i) ((mac (mac ck i) ([(1 : UInt8)] : List UInt8)) ++ ([(2 : UInt8)] : List UInt8))) hs26 (by rw [th2]; simp only [List.flatten_cons, List.flatten_nil, List.append_nil]; rfl)), hd26, (Sl.castM (l := mac (mac ck i) ((mac (mac ck i) ((mac (mac ck i) ([(1 : UInt8)] : List UInt8)) ++ ([(2 : UInt8)] : List UInt8))) ++ ([(3 : UInt8)] : List UInt8))) hs40 (by rw [th3, th2]; simp only [List.flatten_cons, List.flatten_nil, List.append_nil]; rfl)), hd40⟩
end Go.Proofs.YtdhgkfmniebghaaDoor
