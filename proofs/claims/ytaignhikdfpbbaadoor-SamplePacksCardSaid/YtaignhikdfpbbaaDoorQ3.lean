/- WALKS written by gen.py (own program) out of specs. -/
import Derived.Test.YtaignhikdfpbbaaDoorQ2
namespace Go.Proofs.YtaignhikdfpbbaaDoor
open Go.RowKit Go.Rx
set_option maxRecDepth 100000
set_option maxHeartbeats 4000000
set_option linter.unusedVariables false
set_option linter.unusedSimpArgs false

theorem c_read (b : Nat) (p : List UInt64) (r : Nat) (v : Value) (l : List UInt8) (n : Int) (w0 : World) (hx : w0.heap[b]? = some (.cells (p.map e64 ++ [en r, v]).toArray 86 (0, 0))) (hla : p.length = 25) (hs : Sl w0 v (l.map e8)) (hvb : ∀ j, v.ownBlock = some j → j ≠ b) (hr : 1 ≤ r ∧ r ≤ 200) (hl0 : l.length ≤ 200) (hn : n ≤ 100000000) (hGk : ∀ w, w0.grownBy w (some b) → Glob w) :
    Calls Tryd.prog 31 #[.pointer (some ⟨b, 0, none⟩), ei n] w0 fun e w' => ∃ u v', e = .returned u ∧ w0.grownBy w' (some b) ∧ w'.heap[b]? = some (.cells ((xrun r n.toNat (p, l, [])).1.map e64 ++ [en r, v']).toArray 86 (0, 0)) ∧ Sl w' v' ((xrun r n.toNat (p, l, [])).2.1.map e8) ∧ (∀ j, v'.ownBlock = some j → v.ownBlock = some j ∨ w0.heap.size ≤ j) ∧ w'.ownsRow w0.heap.size 5 1 u (xrun r n.toNat (p, l, [])).2.2.length ((xrun r n.toNat (p, l, [])).2.2.map e8) ∧ (∀ j, u.ownBlock = some j → v'.ownBlock ≠ some j) := by
  refine enter (args := [_, _]) Tryd.func31 rfl Tryd.ntmps31 rfl ?_
  intro a ha
  have hB := grown_refl w0 (some b)
  have hlt0 := hs.lt
  have hbx := hx
  have hsl0 := hs
  refine wp_seq_k fun K1 hK2 => ?_
  refine region ?_
  refine sv ha (r_assign ha rfl) rfl rfl rfl ?_; clear ha a; intro a ha
  refine hK2 _ _ ?_; clear hK2 K1
  refine wp_seq_k fun K3 hK4 => ?_
  refine wp_seq_k fun K5 hK6 => ?_
  refine region ?_
  refine sv ha (r_move ha rfl) rfl rfl rfl ?_; clear ha a; intro a ha
  refine sv ha (r_eqlP ha false Tryd.runUnderlying50 rfl rfl rfl) rfl rfl rfl ?_; clear ha a; intro a ha
  refine hK6 _ _ ?_; clear hK6 K5
  refine cond_f ha rfl ?_
  refine wp_skip ?_
  refine hK4 _ _ ?_; clear hK4 K3
  refine wp_seq_k fun K7 hK8 => ?_
  refine region ?_
  refine sv ha (r_assign ha rfl) rfl rfl rfl ?_; clear ha a; intro a ha
  refine hK8 _ _ ?_; clear hK8 K7
  refine wp_seq_k fun K9 hK10 => ?_
  refine wp_block ?_
  refine loopG (fun (g : List UInt64 × List UInt8 × List UInt8) a w => ∃ vo : Value, ∃ vl : Value, (g.1.length = 25) ∧ (xrun r n.toNat g = xrun r n.toNat (p, l, [])) ∧ (g.2.1.length ≤ 200) ∧ (g.2.2.length ≤ n.toNat) ∧ (∀ j, vl.ownBlock = some j → v.ownBlock = some j ∨ w0.heap.size ≤ j) ∧ (∀ j, vo.ownBlock = some j → j ≠ b) ∧ (∀ j, vl.ownBlock = some j → j ≠ b) ∧ (∀ j, vl.ownBlock = some j → vo.ownBlock ≠ some j) ∧ Has 67 [(0, .pointer (some ⟨b, 0, none⟩)), (1, ei n), (4, .slice none 0 0), (7, .pointer (some ⟨b, 0, none⟩)), (8, .bool false), (5, vo)] a ∧ w0.grownBy w (some b) ∧ w.heap[b]? = some (.cells ((g.1).map e64 ++ [en r, vl]).toArray 86 (0, 0)) ∧ w.ownsRow w0.heap.size 5 1 vo g.2.2.length ((g.2.2).map e8) ∧ Sl w vl ((g.2.1).map e8)) (fun g => n.toNat - g.2.2.length) (p, l, []) ⟨.slice none 0 0, v, hla, rfl, hl0, (Nat.zero_le _), (fun j h => .inl h), (fun j hj => (nil_own j hj).elim), hvb, (fun j _ hj => (nil_own j hj).elim), ha.to [0, 1, 4, 7, 8, 5] rfl, hB, hbx, (own_castl (l := ([] : List UInt8)) (World.ownsRow_nil _ _ _ _) rfl), (Sl.castM (l := l) hsl0 rfl)⟩ ?_
  clear ha a hB hbx hsl0
  intro g a w11 ⟨vo, vl, hga, hgr, hgl, hgo, hov, hnb_vo_b, hnb_vl_b, hds_vl_vo, ha, hB, hbx, hovo, hsl⟩
  refine wp_seq_k fun K12 hK13 => ?_
  refine wp_seq_k fun K14 hK15 => ?_
  refine region ?_
  refine sv ha (r_move ha rfl) rfl rfl rfl ?_; clear ha a; intro a ha
  refine sv ha (r_move ha rfl) rfl rfl rfl ?_; clear ha a; intro a ha
  refine sv ha (r_lenS ha Tryd.runUnderlying22 (Sl.ofOwns hovo) rfl (by rw [List.length_map])) rfl rfl rfl ?_; clear ha a; intro a ha
  refine sv ha (r_gtr ha n ((g.2.2.length : Nat) : Int) (decide (n > ((g.2.2.length : Nat) : Int))) rfl rfl (decide_eq_decide.2 (by omega))) rfl rfl rfl ?_; clear ha a; intro a ha
  refine hK15 _ _ ?_; clear hK15 K14
  refine cond_if ha rfl (fun hc16 => ?_) (fun hc16 => ?_)
  · skip
    replace hc16 := of_decide_eq_true hc16
    refine wp_skip ?_
    refine hK13 _ _ ?_; clear hK13 K12
    refine wp_block ?_
    refine wp_seq_k fun K17 hK18 => ?_
    refine wp_seq_k fun K19 hK20 => ?_
    refine region ?_
    refine sv ha (r_move ha rfl) rfl rfl rfl ?_; clear ha a; intro a ha
    refine sv ha (r_nilCheck ha rfl) rfl rfl rfl ?_; clear ha a; intro a ha
    refine sv ha (r_field (k := 26) ha Tryd.runUnderlying86 rfl Tryd.sizeOf22 (by decide) rfl rfl) rfl rfl rfl ?_; clear ha a; intro a ha
    refine sv ha (r_load ha rfl Tryd.isAgg22 (cell_of hbx (get_cst (k := 25) 1 (by rw [List.length_map, hga]) rfl))) rfl rfl rfl ?_; clear ha a; intro a ha
    refine sv ha (r_lenS ha Tryd.runUnderlying22 hsl rfl (by rw [List.length_map])) rfl rfl rfl ?_; clear ha a; intro a ha
    refine sv ha (r_eql ha ((g.2.1.length : Nat) : Int) 0 (decide (g.2.1.length = 0)) rfl rfl (decide_eq_decide.2 (by omega))) rfl rfl rfl ?_; clear ha a; intro a ha
    refine hK20 _ _ ?_; clear hK20 K19
    refine cond_if ha rfl (fun hc21 => ?_) (fun hc21 => ?_)
    · skip
      replace hc21 := of_decide_eq_true hc21
      refine wp_seq_k fun K22 hK23 => ?_
      refine region ?_
      refine sv ha (r_move ha rfl) rfl rfl rfl ?_; clear ha a; intro a ha
      refine sv ha (r_move ha rfl) rfl rfl rfl ?_; clear ha a; intro a ha
      refine sv ha (r_nilCheck ha rfl) rfl rfl rfl ?_; clear ha a; intro a ha
      refine sv ha (r_field (k := 0) ha Tryd.runUnderlying86 rfl Tryd.sizeOf84 (by decide) rfl rfl) rfl rfl rfl ?_; clear ha a; intro a ha
      refine sv ha (r_loadR ha rfl Tryd.isAgg84 Tryd.sizeOf84 (C := (g.1).map e64) (by rw [List.length_map, hga]) (cells_of 0 hbx (by simp [List.take_append_of_le_length, hga]))) rfl rfl rfl ?_; clear ha a; intro a ha
      refine sc ha (r_call ha [.agg ((g.1).map e64).toArray] rfl Tryd.call65) rfl rfl rfl (c_kf g.1 _ (by rw [hga]) (hGk _ hB)) ?_
      clear ha a
      rintro e w24 ⟨rfl, hBc⟩
      have hg := grown_call hBc; clear hBc
      replace hB := keepM0 hg hB
      replace hbx := keepO0 hg hbx
      replace hovo := keepW0 hg hovo
      replace hsl := keepS0 hg hsl
      clear hg
      refine ⟨_, rfl, ?_⟩; intro a ha
      refine sv ha (r_nilCheck ha rfl) rfl rfl rfl ?_; clear ha a; intro a ha
      refine sv ha (r_field (k := 0) ha Tryd.runUnderlying86 rfl Tryd.sizeOf84 (by decide) rfl rfl) rfl rfl rfl ?_; clear ha a; intro a ha
      refine sstoreR ha rfl rfl (one_e64 _) Tryd.sizeOf84 (by rw [List.length_map, kf_len _ (by rw [hga])]) hbx (by simp [kf_len _ (by rw [hga]), hga]) ?_
      clear ha a; intro a w25 ha hg hbx'
      rw [head_set (A := (g.1).map e64) (D := (kf g.1).map e64) [en r, vl] (by rw [List.length_map, List.length_map, hga, kf_len _ (by rw [hga])])] at hbx'
      clear hbx; have hbx := hbx'; clear hbx'
      replace hB := keepM1 hg (by omega) hB
      replace hovo := keepW1 hg (ne_of_ap hnb_vo_b) hovo
      replace hsl := keepS1 hg (ne_of_ap hnb_vl_b) hsl
      clear hg
      refine hK23 _ _ ?_; clear hK23 K22
      refine regionD (S := fun w => w0.grownBy w (some b) ∧ w.heap[b]? = some (.cells ((kf g.1).map e64 ++ [en r, vl]).toArray 86 (0, 0)) ∧ w.ownsRow w0.heap.size 5 1 vo g.2.2.length ((g.2.2).map e8) ∧ Sl w vl ((g.2.1).map e8) ∧ True) [12] [0, 1, 2, 3, 4, 5, 6, 7, 8, 10, 11] [0, 1, 2, 3, 4, 5, 6, 7, 8, 9, 10, 11, 12] mixed (by kernel_rfl) (fun w hg => ⟨keepM0 hg hB, keepO0 hg hbx, keepW0 hg hovo, keepS0 hg hsl, trivial⟩) ?_
      intro w26 hg
      replace hB := keepM0 hg hB
      replace hbx := keepO0 hg hbx
      replace hovo := keepW0 hg hovo
      replace hsl := keepS0 hg hsl
      clear hg
      refine cv ha rfl rfl (fun w _ => r_move ha rfl) rfl rfl rfl ?_; clear ha a; intro a ha
      refine cv ha rfl rfl (fun w _ => r_move ha rfl) rfl rfl rfl ?_; clear ha a; intro a ha
      refine cv ha rfl rfl (fun w _ => r_nilCheck ha rfl) rfl rfl rfl ?_; clear ha a; intro a ha
      refine cv ha rfl rfl (fun w _ => r_field (k := 0) ha Tryd.runUnderlying86 rfl Tryd.sizeOf84 (by decide) rfl rfl) rfl rfl rfl ?_; clear ha a; intro a ha
      refine cv ha rfl rfl (fun w ⟨hB, hbx, hovo, hsl, _⟩ => r_loadR ha rfl Tryd.isAgg84 Tryd.sizeOf84 (C := (kf g.1).map e64) (by rw [List.length_map, kf_len _ (by rw [hga])]) (cells_of 0 hbx (by simp [List.take_append_of_le_length, kf_len _ (by rw [hga])]))) rfl rfl rfl ?_; clear ha a; intro a ha
      refine cv ha rfl rfl (fun w _ => r_move ha rfl) rfl rfl rfl ?_; clear ha a; intro a ha
      refine cv ha rfl rfl (fun w _ => r_nilCheck ha rfl) rfl rfl rfl ?_; clear ha a; intro a ha
      refine cv ha rfl rfl (fun w _ => r_field (k := 25) ha Tryd.runUnderlying86 rfl Tryd.sizeOf3 (by decide) rfl rfl) rfl rfl rfl ?_; clear ha a; intro a ha
      refine cv ha rfl rfl (fun w ⟨hB, hbx, hovo, hsl, _⟩ => r_load ha rfl Tryd.isAgg3 (cell_of hbx (get_cst (k := 25) 0 (by rw [List.length_map, kf_len _ (by rw [hga])]) rfl))) rfl rfl rfl ?_; clear ha a; intro a ha
      refine ccx ha rfl rfl (r_call ha [.agg (((kf g.1)).map e64).toArray, en r] rfl Tryd.call66) rfl rfl rfl (c_take (kf g.1) r _ (by rw [kf_len _ (by rw [hga])]) (by omega)) ?_
      clear ha a
      rintro e w27 ⟨u28, rfl, hBc, hs28, hd28⟩
      have hg := grown_call hBc; clear hBc
      have hnb_hs28_b : ∀ j, u28.ownBlock = some j → j ≠ b := fun j hj => by have h1 := hd28 j hj; have h2 := lt_of_block hbx; omega
      have hds_hs28_hovo : ∀ j, u28.ownBlock = some j → vo.ownBlock ≠ some j := fun j h1 h2 => by have h3 := hd28 j h1; have h4 := (fun j hj => (hovo.lt j hj).2) j h2; omega
      have hds_hs28_hsl : ∀ j, u28.ownBlock = some j → vl.ownBlock ≠ some j := fun j h1 h2 => by have h3 := hd28 j h1; have h4 := (fun j hj => hsl.lt j hj) j h2; omega
      replace hd28 : ∀ j, u28.ownBlock = some j → w0.heap.size ≤ j := fun j hj => Nat.le_trans hB.size (hd28 j hj)
      replace hB := keepM0 hg hB
      replace hbx := keepO0 hg hbx
      replace hovo := keepW0 hg hovo
      replace hsl := keepS0 hg hsl
      clear hg
      refine ⟨fun w => (Sl w u28 ((tk (kf g.1) r).map e8)) ∧ w0.grownBy w (some b) ∧ w.heap[b]? = some (.cells ((kf g.1).map e64 ++ [en r, vl]).toArray 86 (0, 0)) ∧ w.ownsRow w0.heap.size 5 1 vo g.2.2.length ((g.2.2).map e8) ∧ Sl w vl ((g.2.1).map e8) ∧ True, fun w h => h.2, fun _ => ⟨hs28, hB, hbx, hovo, hsl, trivial⟩, _, rfl, ?_⟩; intro a ha
      refine cv ha rfl rfl (fun w _ => r_nilCheck ha rfl) rfl rfl rfl ?_; clear ha a; intro a ha
      refine cv ha rfl rfl (fun w _ => r_field (k := 26) ha Tryd.runUnderlying86 rfl Tryd.sizeOf22 (by decide) rfl rfl) rfl rfl rfl ?_; clear ha a; intro a ha
      refine cstore ha rfl rfl rfl rfl (Sl.one' hs28) (Sl.one hs28) Tryd.sizeOf22 hbx (by simp [kf_len _ (by rw [hga])]) rfl ?_
      clear ha a; intro a w29 ha hg hbx'
      rw [show ((kf g.1).map e64 ++ [en r, vl]).set 26 u28 = ((kf g.1).map e64 ++ [en r, u28]) from tail_set (A := (kf g.1).map e64) (B := [en r, vl]) (x := u28) (k := 25) 1 (by rw [List.length_map, kf_len _ (by rw [hga])])] at hbx'
      clear hbx; have hbx := hbx'; clear hbx'
      replace hB := keepM1 hg (by omega) hB
      replace hovo := keepW1 hg (ne_of_ap hnb_vo_b) hovo
      replace hsl := keepS1 hg (ne_of_ap hnb_vl_b) hsl
      replace hs28 := keepS1 hg (ne_of_ap hnb_hs28_b) hs28
      clear hg
      refine cfin (hK18 _ _ ?_); clear hK18 K17
      refine wp_seq_k fun K30 hK31 => ?_
      refine region ?_
      refine sv ha (r_move ha rfl) rfl rfl rfl ?_; clear ha a; intro a ha
      refine sv ha (r_move ha rfl) rfl rfl rfl ?_; clear ha a; intro a ha
      refine sv ha (r_lenS ha Tryd.runUnderlying22 (Sl.ofOwns hovo) rfl (by rw [List.length_map])) rfl rfl rfl ?_; clear ha a; intro a ha
      refine sv ha (n_of (r_sub ha n ((g.2.2.length : Nat) : Int) rfl rfl (by omega)) (k := n.toNat - g.2.2.length) (by omega)) rfl rfl rfl ?_; clear ha a; intro a ha
      refine sv ha (r_move ha rfl) rfl rfl rfl ?_; clear ha a; intro a ha
      refine sv ha (r_nilCheck ha rfl) rfl rfl rfl ?_; clear ha a; intro a ha
      refine sv ha (r_field (k := 26) ha Tryd.runUnderlying86 rfl Tryd.sizeOf22 (by decide) rfl rfl) rfl rfl rfl ?_; clear ha a; intro a ha
      refine sv ha (r_load ha rfl Tryd.isAgg22 (cell_of hbx (get_cst (k := 25) 1 (by rw [List.length_map, kf_len _ (by rw [hga])]) rfl))) rfl rfl rfl ?_; clear ha a; intro a ha
      refine sv ha (r_lenS ha Tryd.runUnderlying22 hs28 rfl (by rw [List.length_map])) rfl rfl rfl ?_; clear ha a; intro a ha
      refine sv ha (rn_min ha (n.toNat - g.2.2.length) ((tk (kf g.1) r).length) rfl rfl) rfl rfl rfl ?_; clear ha a; intro a ha
      refine sv ha (r_assign ha rfl) rfl rfl rfl ?_; clear ha a; intro a ha
      refine hK31 _ _ ?_; clear hK31 K30
      refine wp_seq_k fun K32 hK33 => ?_
      refine region ?_
      refine sv ha (r_move ha rfl) rfl rfl rfl ?_; clear ha a; intro a ha
      refine sv ha (r_move ha rfl) rfl rfl rfl ?_; clear ha a; intro a ha
      refine sv ha (r_nilCheck ha rfl) rfl rfl rfl ?_; clear ha a; intro a ha
      refine sv ha (r_field (k := 26) ha Tryd.runUnderlying86 rfl Tryd.sizeOf22 (by decide) rfl rfl) rfl rfl rfl ?_; clear ha a; intro a ha
      refine sv ha (r_load ha rfl Tryd.isAgg22 (cell_of hbx (get_cst (k := 25) 1 (by rw [List.length_map, kf_len _ (by rw [hga])]) rfl))) rfl rfl rfl ?_; clear ha a; intro a ha
      refine sv ha (r_move ha rfl) rfl rfl rfl ?_; clear ha a; intro a ha
      refine sv ha (r_resl (C := (tk (kf g.1) r).map e8) ha 0 (min (n.toNat - g.2.2.length) ((tk (kf g.1) r).length)) Tryd.runUnderlying22 Tryd.sizeOf5 hs28 rfl rfl rfl (by omega) (by rw [List.length_map]; exact (by omega))) rfl rfl rfl ?_; clear ha a; intro a ha
      refine sapp (C := (g.2.2).map e8) (D := (((tk (kf g.1) r).drop 0).take ((min (n.toNat - g.2.2.length) ((tk (kf g.1) r).length)) - 0)).map e8) ha rfl rfl Tryd.underlying22 rfl rfl rfl rfl hovo (Sl.cutM (lo := 0) (hi := min (n.toNat - g.2.2.length) ((tk (kf g.1) r).length)) hs28 (by omega) (by omega)) (one_e8 _) (by simp only [List.length_map, List.length_take, List.length_drop]; show _ * 1 ≤ _; omega) (by simp only [List.length_map, List.length_take, List.length_drop]; omega) hB.size rfl ?_
      clear ha a; intro a w35 v34 ha hg ho34 hnl34 hpl34
      rw [← List.map_append, List.length_map] at ho34
      have hds_ho34_hsl : ∀ j, v34.ownBlock = some j → vl.ownBlock ≠ some j := fun j h1 h2 => (hpl34 j h1).elim (fun h => (fun j h1 h2 => hds_vl_vo j h2 h1) j h h2) (fun h => by have h4 := (fun j hj => hsl.lt j hj) j h2; omega)
      have hds_ho34_hs28 : ∀ j, v34.ownBlock = some j → u28.ownBlock ≠ some j := fun j h1 h2 => (hpl34 j h1).elim (fun h => (fun j h1 h2 => hds_hs28_hovo j h2 h1) j h h2) (fun h => by have h4 := (fun j hj => hs28.lt j hj) j h2; omega)
      have hne_34_b : ∀ j, v34.ownBlock = some j → j ≠ b := fun j hj => (hpl34 j hj).elim (fun h => hnb_vo_b j h) (fun h => by have := lt_of_block hbx; omega)
      replace hB := keepMR hg (fun j hj => .inr (own_row hovo j hj)) hB
      replace hbx := keepOR hg (ne_of_ap hnb_vo_b) hbx
      replace hsl := keepSR hg (fun j h1 h2 => hds_vl_vo j h2 h1) hsl
      replace hs28 := keepSR hg (fun j h1 h2 => hds_hs28_hovo j h2 h1) hs28
      clear hg
      refine sv ha (r_assign ha rfl) rfl rfl rfl ?_; clear ha a; intro a ha
      refine hK33 _ _ ?_; clear hK33 K32
      refine region ?_
      refine sv ha (r_move ha rfl) rfl rfl rfl ?_; clear ha a; intro a ha
      refine sv ha (r_move ha rfl) rfl rfl rfl ?_; clear ha a; intro a ha
      refine sv ha (r_nilCheck ha rfl) rfl rfl rfl ?_; clear ha a; intro a ha
      refine sv ha (r_field (k := 26) ha Tryd.runUnderlying86 rfl Tryd.sizeOf22 (by decide) rfl rfl) rfl rfl rfl ?_; clear ha a; intro a ha
      refine sv ha (r_load ha rfl Tryd.isAgg22 (cell_of hbx (get_cst (k := 25) 1 (by rw [List.length_map, kf_len _ (by rw [hga])]) rfl))) rfl rfl rfl ?_; clear ha a; intro a ha
      refine sv ha (r_move ha rfl) rfl rfl rfl ?_; clear ha a; intro a ha
      refine sv ha (r_resl (C := (tk (kf g.1) r).map e8) ha (min (n.toNat - g.2.2.length) ((tk (kf g.1) r).length)) ((tk (kf g.1) r).length) Tryd.runUnderlying22 Tryd.sizeOf5 hs28 rfl rfl (show (tk (kf g.1) r).length = _ by rw [List.length_map]) (by omega) (by rw [List.length_map]; exact (by omega))) rfl rfl rfl ?_; clear ha a; intro a ha
      refine sv ha (r_nilCheck ha rfl) rfl rfl rfl ?_; clear ha a; intro a ha
      refine sv ha (r_field (k := 26) ha Tryd.runUnderlying86 rfl Tryd.sizeOf22 (by decide) rfl rfl) rfl rfl rfl ?_; clear ha a; intro a ha
      refine sstore ha rfl rfl (Sl.one' (Sl.castM (Sl.cutM (lo := min (n.toNat - g.2.2.length) ((tk (kf g.1) r).length)) (hi := (tk (kf g.1) r).length) hs28 (by omega) (by omega)) (drop_take_all _ _))) (Sl.one (Sl.castM (Sl.cutM (lo := min (n.toNat - g.2.2.length) ((tk (kf g.1) r).length)) (hi := (tk (kf g.1) r).length) hs28 (by omega) (by omega)) (drop_take_all _ _))) Tryd.sizeOf22 hbx (by simp [kf_len _ (by rw [hga])]) ?_
      clear ha a; intro a w36 ha hg hbx'
      rw [show ((kf g.1).map e64 ++ [en r, u28]).set 26 (rsl u28 (min (n.toNat - g.2.2.length) ((tk (kf g.1) r).length)) ((tk (kf g.1) r).length)) = ((kf g.1).map e64 ++ [en r, rsl u28 (min (n.toNat - g.2.2.length) ((tk (kf g.1) r).length)) ((tk (kf g.1) r).length)]) from tail_set (A := (kf g.1).map e64) (B := [en r, u28]) (x := rsl u28 (min (n.toNat - g.2.2.length) ((tk (kf g.1) r).length)) ((tk (kf g.1) r).length)) (k := 25) 1 (by rw [List.length_map, kf_len _ (by rw [hga])])] at hbx'
      clear hbx; have hbx := hbx'; clear hbx'
      replace hB := keepM1 hg (by omega) hB
      replace hsl := keepS1 hg (ne_of_ap hnb_vl_b) hsl
      replace hs28 := keepS1 hg (ne_of_ap hnb_hs28_b) hs28
      replace ho34 := keepW1 hg (ne_of_ap hne_34_b) ho34
      clear hg
      have hkl := kf_len g.1 hga
      have htl := tk_len (kf g.1) r hr.2
      have hnew := xrun_new r n.toNat hr g (by omega)
      have hold := xrun_old r n.toNat hr g (by omega)
      generalize kf g.1 = a2 at *
      exact ⟨(a2, (tk a2 r).drop (min (n.toNat - g.2.2.length) ((tk a2 r).length)), g.2.2 ++ (((tk a2 r).drop 0).take ((min (n.toNat - g.2.2.length) ((tk a2 r).length)) - 0))), (by simp only [List.length_append, List.length_take, List.length_drop] at *; omega), v34, rsl u28 (min (n.toNat - g.2.2.length) ((tk a2 r).length)) ((tk a2 r).length), (by first | exact hga | exact hkl), (by first | exact (hold (by assumption)).symm.trans hgr | exact (hnew (by assumption)).symm.trans hgr), (by simp only [List.length_drop]; omega), (by simp only [List.length_append, List.length_take, List.length_drop]; omega), (fun j hj => .inr (hd28 j (own_rsl _ _ j hj))), hne_34_b, (fun j hj => hnb_hs28_b j (own_rsl _ _ j hj)), (fun j hj => (fun j h1 h2 => hds_ho34_hs28 j h2 h1) j (own_rsl _ _ j hj)), ha.to [0, 1, 4, 7, 8, 5] rfl, hB, hbx, (own_castl (own_len ho34) rfl), (Sl.castM (l := (tk a2 r).drop (min (n.toNat - g.2.2.length) ((tk a2 r).length))) (Sl.castM (Sl.cutM (lo := min (n.toNat - g.2.2.length) ((tk a2 r).length)) (hi := (tk a2 r).length) hs28 (by omega) (by omega)) (drop_take_all _ _)) rfl)⟩
    · skip
      replace hc21 := of_decide_eq_false hc21
      refine wp_skip ?_
      refine hK18 _ _ ?_; clear hK18 K17
      refine wp_seq_k fun K37 hK38 => ?_
      refine region ?_
      refine sv ha (r_move ha rfl) rfl rfl rfl ?_; clear ha a; intro a ha
      refine sv ha (r_move ha rfl) rfl rfl rfl ?_; clear ha a; intro a ha
      refine sv ha (r_lenS ha Tryd.runUnderlying22 (Sl.ofOwns hovo) rfl (by rw [List.length_map])) rfl rfl rfl ?_; clear ha a; intro a ha
      refine sv ha (n_of (r_sub ha n ((g.2.2.length : Nat) : Int) rfl rfl (by omega)) (k := n.toNat - g.2.2.length) (by omega)) rfl rfl rfl ?_; clear ha a; intro a ha
      refine sv ha (r_move ha rfl) rfl rfl rfl ?_; clear ha a; intro a ha
      refine sv ha (r_nilCheck ha rfl) rfl rfl rfl ?_; clear ha a; intro a ha
      refine sv ha (r_field (k := 26) ha Tryd.runUnderlying86 rfl Tryd.sizeOf22 (by decide) rfl rfl) rfl rfl rfl ?_; clear ha a; intro a ha
      refine sv ha (r_load ha rfl Tryd.isAgg22 (cell_of hbx (get_cst (k := 25) 1 (by rw [List.length_map, hga]) rfl))) rfl rfl rfl ?_; clear ha a; intro a ha
      refine sv ha (r_lenS ha Tryd.runUnderlying22 hsl rfl (by rw [List.length_map])) rfl rfl rfl ?_; clear ha a; intro a ha
      refine sv ha (rn_min ha (n.toNat - g.2.2.length) g.2.1.length rfl rfl) rfl rfl rfl ?_; clear ha a; intro a ha
      refine sv ha (r_assign ha rfl) rfl rfl rfl ?_; clear ha a; intro a ha
      refine hK38 _ _ ?_; clear hK38 K37
      refine wp_seq_k fun K39 hK40 => ?_
      refine region ?_
      refine sv ha (r_move ha rfl) rfl rfl rfl ?_; clear ha a; intro a ha
      refine sv ha (r_move ha rfl) rfl rfl rfl ?_; clear ha a; intro a ha
      refine sv ha (r_nilCheck ha rfl) rfl rfl rfl ?_; clear ha a; intro a ha
      refine sv ha (r_field (k := 26) ha Tryd.runUnderlying86 rfl Tryd.sizeOf22 (by decide) rfl rfl) rfl rfl rfl ?_; clear ha a; intro a ha
      refine sv ha (r_load ha rfl Tryd.isAgg22 (cell_of hbx (get_cst (k := 25) 1 (by rw [List.length_map, hga]) rfl))) rfl rfl rfl ?_; clear ha a; intro a ha
      refine sv ha (r_move ha rfl) rfl rfl rfl ?_; clear ha a; intro a ha
      refine sv ha (r_resl (C := (g.2.1).map e8) ha 0 (min (n.toNat - g.2.2.length) g.2.1.length) Tryd.runUnderlying22 Tryd.sizeOf5 hsl rfl rfl rfl (by omega) (by rw [List.length_map]; exact (by omega))) rfl rfl rfl ?_; clear ha a; intro a ha
      refine sapp (C := (g.2.2).map e8) (D := ((g.2.1.drop 0).take ((min (n.toNat - g.2.2.length) g.2.1.length) - 0)).map e8) ha rfl rfl Tryd.underlying22 rfl rfl rfl rfl hovo (Sl.cutM (lo := 0) (hi := min (n.toNat - g.2.2.length) g.2.1.length) hsl (by omega) (by omega)) (one_e8 _) (by simp only [List.length_map, List.length_take, List.length_drop]; show _ * 1 ≤ _; omega) (by simp only [List.length_map, List.length_take, List.length_drop]; omega) hB.size rfl ?_
      clear ha a; intro a w42 v41 ha hg ho41 hnl41 hpl41
      rw [← List.map_append, List.length_map] at ho41
      have hds_ho41_hsl : ∀ j, v41.ownBlock = some j → vl.ownBlock ≠ some j := fun j h1 h2 => (hpl41 j h1).elim (fun h => (fun j h1 h2 => hds_vl_vo j h2 h1) j h h2) (fun h => by have h4 := (fun j hj => hsl.lt j hj) j h2; omega)
      have hne_41_b : ∀ j, v41.ownBlock = some j → j ≠ b := fun j hj => (hpl41 j hj).elim (fun h => hnb_vo_b j h) (fun h => by have := lt_of_block hbx; omega)
      replace hB := keepMR hg (fun j hj => .inr (own_row hovo j hj)) hB
      replace hbx := keepOR hg (ne_of_ap hnb_vo_b) hbx
      replace hsl := keepSR hg (fun j h1 h2 => hds_vl_vo j h2 h1) hsl
      clear hg
      refine sv ha (r_assign ha rfl) rfl rfl rfl ?_; clear ha a; intro a ha
      refine hK40 _ _ ?_; clear hK40 K39
      refine region ?_
      refine sv ha (r_move ha rfl) rfl rfl rfl ?_; clear ha a; intro a ha
      refine sv ha (r_move ha rfl) rfl rfl rfl ?_; clear ha a; intro a ha
      refine sv ha (r_nilCheck ha rfl) rfl rfl rfl ?_; clear ha a; intro a ha
      refine sv ha (r_field (k := 26) ha Tryd.runUnderlying86 rfl Tryd.sizeOf22 (by decide) rfl rfl) rfl rfl rfl ?_; clear ha a; intro a ha
      refine sv ha (r_load ha rfl Tryd.isAgg22 (cell_of hbx (get_cst (k := 25) 1 (by rw [List.length_map, hga]) rfl))) rfl rfl rfl ?_; clear ha a; intro a ha
      refine sv ha (r_move ha rfl) rfl rfl rfl ?_; clear ha a; intro a ha
      refine sv ha (r_resl (C := (g.2.1).map e8) ha (min (n.toNat - g.2.2.length) g.2.1.length) g.2.1.length Tryd.runUnderlying22 Tryd.sizeOf5 hsl rfl rfl (show g.2.1.length = _ by rw [List.length_map]) (by omega) (by rw [List.length_map]; exact (by omega))) rfl rfl rfl ?_; clear ha a; intro a ha
      refine sv ha (r_nilCheck ha rfl) rfl rfl rfl ?_; clear ha a; intro a ha
      refine sv ha (r_field (k := 26) ha Tryd.runUnderlying86 rfl Tryd.sizeOf22 (by decide) rfl rfl) rfl rfl rfl ?_; clear ha a; intro a ha
      refine sstore ha rfl rfl (Sl.one' (Sl.castM (Sl.cutM (lo := min (n.toNat - g.2.2.length) g.2.1.length) (hi := g.2.1.length) hsl (by omega) (by omega)) (drop_take_all _ _))) (Sl.one (Sl.castM (Sl.cutM (lo := min (n.toNat - g.2.2.length) g.2.1.length) (hi := g.2.1.length) hsl (by omega) (by omega)) (drop_take_all _ _))) Tryd.sizeOf22 hbx (by simp [hga]) ?_
      clear ha a; intro a w43 ha hg hbx'
      rw [show ((g.1).map e64 ++ [en r, vl]).set 26 (rsl vl (min (n.toNat - g.2.2.length) g.2.1.length) g.2.1.length) = ((g.1).map e64 ++ [en r, rsl vl (min (n.toNat - g.2.2.length) g.2.1.length) g.2.1.length]) from tail_set (A := (g.1).map e64) (B := [en r, vl]) (x := rsl vl (min (n.toNat - g.2.2.length) g.2.1.length) g.2.1.length) (k := 25) 1 (by rw [List.length_map, hga])] at hbx'
      clear hbx; have hbx := hbx'; clear hbx'
      replace hB := keepM1 hg (by omega) hB
      replace hsl := keepS1 hg (ne_of_ap hnb_vl_b) hsl
      replace ho41 := keepW1 hg (ne_of_ap hne_41_b) ho41
      clear hg
      have hkl := kf_len g.1 hga
      have htl := tk_len (kf g.1) r hr.2
      have hnew := xrun_new r n.toNat hr g (by omega)
      have hold := xrun_old r n.toNat hr g (by omega)
      generalize kf g.1 = a2 at *
      exact ⟨(g.1, g.2.1.drop (min (n.toNat - g.2.2.length) g.2.1.length), g.2.2 ++ ((g.2.1.drop 0).take ((min (n.toNat - g.2.2.length) g.2.1.length) - 0))), (by simp only [List.length_append, List.length_take, List.length_drop] at *; omega), v41, rsl vl (min (n.toNat - g.2.2.length) g.2.1.length) g.2.1.length, (by first | exact hga | exact hkl), (by first | exact (hold (by assumption)).symm.trans hgr | exact (hnew (by assumption)).symm.trans hgr), (by simp only [List.length_drop]; omega), (by simp only [List.length_append, List.length_take, List.length_drop]; omega), (fun j hj => hov j (own_rsl _ _ j hj)), hne_41_b, (fun j hj => hnb_vl_b j (own_rsl _ _ j hj)), (fun j hj => (fun j h1 h2 => hds_ho41_hsl j h2 h1) j (own_rsl _ _ j hj)), ha.to [0, 1, 4, 7, 8, 5] rfl, hB, hbx, (own_castl (own_len ho41) rfl), (Sl.castM (l := g.2.1.drop (min (n.toNat - g.2.2.length) g.2.1.length)) (Sl.castM (Sl.cutM (lo := min (n.toNat - g.2.2.length) g.2.1.length) (hi := g.2.1.length) hsl (by omega) (by omega)) (drop_take_all _ _)) rfl)⟩
  · skip
    replace hc16 := of_decide_eq_false hc16
    refine wp_exit ?_
    refine hK10 _ _ ?_; clear hK13 K12 hK10 K9
    refine wp_seq_k fun K44 hK45 => ?_
    refine region ?_
    refine sv ha (r_move ha rfl) rfl rfl rfl ?_; clear ha a; intro a ha
    refine sv ha (r_assign ha rfl) rfl rfl rfl ?_; clear ha a; intro a ha
    refine hK45 _ _ ?_; clear hK45 K44
    refine wp_ret ?_
    repeat (first | (with_reducible refine t_ret ?_) | (with_reducible refine x_ret ?_))
    have hfin : xrun r n.toNat (p, l, []) = g := hgr.symm.trans (xrun_done _ _ _ (by omega))
    exact ret1 ha Tryd.results31 rfl (by rw [hfin]; exact ⟨_, _, rfl, hB, hbx, hsl, hov, hovo, fun j h1 h2 => hds_vl_vo j h2 h1⟩)
end Go.Proofs.YtaignhikdfpbbaaDoor
