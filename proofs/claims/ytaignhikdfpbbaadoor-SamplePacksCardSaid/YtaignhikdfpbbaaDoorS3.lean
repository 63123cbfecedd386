/- WALKS written by gen.py (own program) out of specs. -/
import Derived.Test.YtaignhikdfpbbaaDoorS1
import Derived.Test.YtaignhikdfpbbaaDoorRp
namespace Go.Proofs.YtaignhikdfpbbaaDoor
open Go.RowKit Go.Rx
set_option maxRecDepth 100000
set_option maxHeartbeats 4000000
set_option linter.unusedVariables false
set_option linter.unusedSimpArgs false

theorem c_rbits (v : Value) (b : List UInt8) (w0 : World) (hs : Sl w0 v (b.map e8)) (hb : b.length ≤ 100000) :
    Calls Tryd.prog 37 #[v] w0 fun e w' => ∃ u0 : Value, e = .returned (u0) ∧ Below w0.heap.size w0 w' ∧ Sl w' u0 ((rbits b).map en) ∧ (∀ j, u0.ownBlock = some j → w0.heap.size ≤ j) := by
  refine enter (args := [_]) Tryd.func37 rfl Tryd.ntmps37 rfl ?_
  intro a ha
  have hB := Below.refl w0.heap.size w0
  refine wp_seq_k fun K1 hK2 => ?_
  refine region ?_
  refine sv ha (r_assign ha rfl) rfl rfl rfl ?_; clear ha a; intro a ha
  refine hK2 _ _ ?_; clear hK2 K1
  refine wp_seq_k fun K3 hK4 => ?_
  refine region ?_
  refine sv ha (r_assign ha rfl) rfl rfl rfl ?_; clear ha a; intro a ha
  refine hK4 _ _ ?_; clear hK4 K3
  refine wp_seq_k fun K5 hK6 => ?_
  refine wp_seq_k fun K7 hK8 => ?_
  refine region ?_
  refine sv ha (r_assign ha rfl) rfl rfl rfl ?_; clear ha a; intro a ha
  refine hK8 _ _ ?_; clear hK8 K7
  refine wp_block ?_
  refine loopG (fun (i : Nat) a w => ∃ vo : Value, (i ≤ b.length) ∧ Has 30 [(0, v), (2, .slice none 0 0), (4, en i), (3, vo)] a ∧ Below w0.heap.size w0 w ∧ w.ownsRow w0.heap.size 3 1 vo (bbA b i).length ((bbA b i).map en)) (fun i => b.length - i) 0 ⟨.slice none 0 0, (by omega), ha.to [0, 2, 4, 3] rfl, hB, (own_castl (l := ([] : List Nat)) (World.ownsRow_nil _ _ _ _) rfl)⟩ ?_
  clear ha a hB
  intro i a w9 ⟨vo, hki, ha, hB, hovo⟩
  refine wp_seq_k fun K10 hK11 => ?_
  refine wp_seq_k fun K12 hK13 => ?_
  refine region ?_
  refine sv ha (r_move ha rfl) rfl rfl rfl ?_; clear ha a; intro a ha
  refine sv ha (r_move ha rfl) rfl rfl rfl ?_; clear ha a; intro a ha
  refine sv ha (r_lenS ha Tryd.runUnderlying22 (hs.below hB) rfl (by rw [List.length_map])) rfl rfl rfl ?_; clear ha a; intro a ha
  refine sv ha (r_lss ha ((i : Nat) : Int) ((b.length : Nat) : Int) (decide (i < b.length)) rfl rfl (decide_eq_decide.2 (by omega))) rfl rfl rfl ?_; clear ha a; intro a ha
  refine hK13 _ _ ?_; clear hK13 K12
  refine cond_if ha rfl (fun hc14 => ?_) (fun hc14 => ?_)
  · skip
    replace hc14 := of_decide_eq_true hc14
    refine wp_skip ?_
    refine hK11 _ _ ?_; clear hK11 K10
    refine wp_seq_k fun K15 hK16 => ?_
    refine wp_block ?_
    refine wp_seq_k fun K17 hK18 => ?_
    refine region ?_
    refine sv ha (r_move ha rfl) rfl rfl rfl ?_; clear ha a; intro a ha
    refine sv ha (r_move ha rfl) rfl rfl rfl ?_; clear ha a; intro a ha
    refine sv ha (r_indexS (i := i) ha Tryd.runUnderlying22 Tryd.sizeOf5 (hs.below hB) (C := (b).map e8) rfl rfl (by rw [List.length_map]; omega)) rfl rfl rfl ?_; clear ha a; intro a ha
    refine sv ha (r_loadS ha rfl Tryd.isAgg5 (hs.below hB) (get_map e8 b 0 i (by omega))) rfl rfl rfl ?_; clear ha a; intro a ha
    refine sv ha (r_conv_u8_i64 ha (b.getD i 0) Tryd.runUnderlying5 Tryd.runUnderlying3 rfl) rfl rfl rfl ?_; clear ha a; intro a ha
    refine sv ha (r_assign ha rfl) rfl rfl rfl ?_; clear ha a; intro a ha
    refine hK18 _ _ ?_; clear hK18 K17
    refine wp_seq_k fun K19 hK20 => ?_
    refine region ?_
    refine sv ha (r_assign ha rfl) rfl rfl rfl ?_; clear ha a; intro a ha
    refine hK20 _ _ ?_; clear hK20 K19
    refine wp_block ?_
    have hbl := (b.getD i 0).toNat_lt
    refine loopG (fun (j : Nat) a w => ∃ vq : Value, (j ≤ 8) ∧ Has 30 [(0, v), (2, .slice none 0 0), (4, en i), (7, en i), (8, v), (9, en b.length), (10, .bool (decide (i < b.length))), (13, v), (14, en i), (15, ptrOf v i), (16, e8 (b.getD i 0)), (17, en ((b.getD i 0).toNat)), (6, en j), (5, en ((b.getD i 0).toNat / 2 ^ j)), (3, vq)] a ∧ Below w0.heap.size w0 w ∧ w.ownsRow w0.heap.size 3 1 vq (bbA b i ++ nbits (b.getD i 0).toNat j).length ((bbA b i ++ nbits (b.getD i 0).toNat j).map en)) (fun j => 8 - j) 0 ⟨vo, (by omega), ha.to [0, 2, 4, 7, 8, 9, 10, 13, 14, 15, 16, 17, 6, 5, 3] (by rw [Nat.pow_zero, Nat.div_one]; rfl), hB, (own_castl (own_len hovo) (by rw [nbits, List.append_nil]))⟩ ?_
    clear ha a hB hovo
    intro j a w21 ⟨vq, hkj, ha, hB, hovq⟩
    have hdv : (b.getD i 0).toNat / 2 ^ j ≤ (b.getD i 0).toNat := Nat.div_le_self _ _
    refine wp_seq_k fun K22 hK23 => ?_
    refine wp_seq_k fun K24 hK25 => ?_
    refine region ?_
    refine sv ha (r_move ha rfl) rfl rfl rfl ?_; clear ha a; intro a ha
    refine sv ha (r_lss ha ((j : Nat) : Int) 8 (decide (j < 8)) rfl rfl (decide_eq_decide.2 (by omega))) rfl rfl rfl ?_; clear ha a; intro a ha
    refine hK25 _ _ ?_; clear hK25 K24
    refine cond_if ha rfl (fun hc26 => ?_) (fun hc26 => ?_)
    · skip
      replace hc26 := of_decide_eq_true hc26
      refine wp_skip ?_
      refine hK23 _ _ ?_; clear hK23 K22
      refine wp_seq_k fun K27 hK28 => ?_
      refine wp_block ?_
      refine wp_seq_k fun K29 hK30 => ?_
      refine region ?_
      refine sv ha (r_move ha rfl) rfl rfl rfl ?_; clear ha a; intro a ha
      refine sv ha (r_move ha rfl) rfl rfl rfl ?_; clear ha a; intro a ha
      refine sv ha (rn_rem ha ((b.getD i 0).toNat / 2 ^ j) 2 rfl rfl (by omega)) rfl rfl rfl ?_; clear ha a; intro a ha
      refine sbuildS ha [(0, en (((b.getD i 0).toNat / 2 ^ j) % 2))] (([((b.getD i 0).toNat / 2 ^ j) % 2] : List Nat).map en) rfl Tryd.runUnderlying60 Tryd.sizeOf3 Tryd.zeroValue3 rfl rfl rfl rfl rfl ?_
      clear ha a; intro a w31 b32 ha hg hb32 hge32 hlt32
      have hz32 : w0.heap.size ≤ b32 := Nat.le_trans hB.size hge32
      have hne_hovq_b32 : ∀ j, Value.ownBlock vq = some j → j ≠ b32 := fun j hj => by have := (hovq.lt j hj).2; omega
      replace hB := keepB0 hg hB
      replace hovq := keepW0 hg hovq
      clear hg hge32 hlt32
      refine sapp (C := ((bbA b i ++ nbits (b.getD i 0).toNat j)).map en) (D := (([((b.getD i 0).toNat / 2 ^ j) % 2] : List Nat)).map en) ha rfl rfl Tryd.underlying60 rfl rfl rfl rfl hovq (Sl.ofBlockM hb32 (by rw [show ([((b.getD i 0).toNat / 2 ^ j) % 2] : List Nat).length = 1 from rfl]) (by omega)) (one_en _) (by simp only [List.length_map, List.length_append, List.length_cons, List.length_nil, bbA_len, nbits_len]; show _ * 8 ≤ _; omega) (by simp only [List.length_map, List.length_append, List.length_cons, List.length_nil, bbA_len, nbits_len]; omega) hB.size rfl ?_
      clear ha a; intro a w34 v33 ha hg ho33 hnl33 hpl33
      rw [← List.map_append, List.length_map, show ([((b.getD i 0).toNat / 2 ^ j) % 2] : List Nat).length = 1 from rfl] at ho33
      rw [List.length_map, show ([((b.getD i 0).toNat / 2 ^ j) % 2] : List Nat).length = 1 from rfl] at hnl33
      have hne_33_b32 : ∀ j, v33.ownBlock = some j → j ≠ b32 := fun j hj => (hpl33 j hj).elim (fun h => hne_hovq_b32 j h) (fun h => by have := lt_of_block hb32; omega)
      replace hB := keepBR hg (own_row hovq) hB
      replace hb32 := keepOR hg (ne_of_ap hne_hovq_b32) hb32
      clear hg
      replace ho33 := own_castl (own_len ho33) (nbits_app _ _ _)
      refine sv ha (r_assign ha rfl) rfl rfl rfl ?_; clear ha a; intro a ha
      refine hK30 _ _ ?_; clear hK30 K29
      refine region ?_
      refine sv ha (r_move ha rfl) rfl rfl rfl ?_; clear ha a; intro a ha
      refine sv ha (v_of (rn_quo ha ((b.getD i 0).toNat / 2 ^ j) 2 rfl rfl (by omega) (by omega)) (congrArg en (half_pow _ _ : ((b.getD i 0).toNat / 2 ^ j) / 2 = (b.getD i 0).toNat / 2 ^ (j + 1)))) rfl rfl rfl ?_; clear ha a; intro a ha
      refine sv ha (r_assign ha rfl) rfl rfl rfl ?_; clear ha a; intro a ha
      refine hK28 _ _ ?_; clear hK28 K27
      refine region ?_
      refine sv ha (r_move ha rfl) rfl rfl rfl ?_; clear ha a; intro a ha
      refine sv ha (rn_add ha j 1 rfl rfl (by omega)) rfl rfl rfl ?_; clear ha a; intro a ha
      refine sv ha (r_assign ha rfl) rfl rfl rfl ?_; clear ha a; intro a ha
      exact ⟨j + 1, by omega, v33, (by omega), ha.to [0, 2, 4, 7, 8, 9, 10, 13, 14, 15, 16, 17, 6, 5, 3] rfl, hB, (own_castl (own_len ho33) rfl)⟩
    · skip
      replace hc26 := of_decide_eq_false hc26
      refine wp_exit ?_
      obtain rfl : j = 8 := by omega
      refine hK16 _ _ ?_; clear hK23 K22 hK16 K15
      refine region ?_
      refine sv ha (r_move ha rfl) rfl rfl rfl ?_; clear ha a; intro a ha
      refine sv ha (rn_add ha i 1 rfl rfl (by omega)) rfl rfl rfl ?_; clear ha a; intro a ha
      refine sv ha (r_assign ha rfl) rfl rfl rfl ?_; clear ha a; intro a ha
      exact ⟨i + 1, by omega, vq, (by omega), ha.to [0, 2, 4, 3] rfl, hB, (own_castl (own_len hovq) rfl)⟩
  · skip
    replace hc14 := of_decide_eq_false hc14
    refine wp_exit ?_
    obtain rfl : i = b.length := by omega
    refine hK6 _ _ ?_; clear hK11 K10 hK6 K5
    refine wp_seq_k fun K35 hK36 => ?_
    refine region ?_
    refine sv ha (r_move ha rfl) rfl rfl rfl ?_; clear ha a; intro a ha
    refine sv ha (r_assign ha rfl) rfl rfl rfl ?_; clear ha a; intro a ha
    refine hK36 _ _ ?_; clear hK36 K35
    refine wp_ret ?_
    repeat (first | (with_reducible refine t_ret ?_) | (with_reducible refine x_ret ?_))
    exact ret1 ha Tryd.results37 rfl ⟨_, rfl, hB, (Sl.castM (l := bbA b b.length) (Sl.ofOwns hovo) rfl), (own_row hovo)⟩

theorem zero_24S3 : ∀ w, (zeroValue 24).run Tryd.prog w = .ok (.agg ((List.replicate 256 (0 : Int)).map ei).toArray) w := fun _ => by kernel_rfl
theorem c_rnoise1 (eta : Nat) (v : Value) (b : List UInt8) (w0 : World) (he : 1 ≤ eta ∧ eta ≤ 3) (hs : Sl w0 v (b.map e8)) (hb : b.length = 64 * eta) :
    Calls Tryd.prog 15 #[en eta, v] w0 fun e w' => e = .returned (.tuple #[.agg ((noA eta b 256).map ei).toArray, en 0]) ∧ Below w0.heap.size w0 w' := by
  refine enter (args := [_, _]) Tryd.func15 rfl Tryd.ntmps15 rfl ?_
  intro a ha
  have hB := Below.refl w0.heap.size w0
  refine wp_seq_k fun K1 hK2 => ?_
  refine region ?_
  refine salloc ha zero_24S3 rfl ?_
  clear ha a; intro a w3 b4 ha hg hb4 hge4 hlt4
  have hz4 : w0.heap.size ≤ b4 := Nat.le_trans hB.size hge4
  replace hB := keepB0 hg hB
  clear hg hge4 hlt4
  refine sv ha (r_assign ha rfl) rfl rfl rfl ?_; clear ha a; intro a ha
  refine hK2 _ _ ?_; clear hK2 K1
  refine wp_seq_k fun K5 hK6 => ?_
  refine region ?_
  refine salloc ha zero_24S3 rfl ?_
  clear ha a; intro a w7 b8 ha hg hb8 hge8 hlt8
  have hz8 : w0.heap.size ≤ b8 := Nat.le_trans hB.size hge8
  have hq4_8 : b4 < b8 := Nat.lt_of_lt_of_le (lt_of_block hb4) hge8
  replace hB := keepB0 hg hB
  replace hb4 := keepO0 hg hb4
  clear hg hge8 hlt8
  refine hK6 _ _ ?_; clear hK6 K5
  refine wp_seq_k fun K9 hK10 => ?_
  refine wp_seq_k fun K11 hK12 => ?_
  refine region ?_
  refine sv ha (r_move ha rfl) rfl rfl rfl ?_; clear ha a; intro a ha
  refine sv ha (r_lss ha ((eta : Nat) : Int) 1 false rfl rfl (decide_eq_false (by omega))) rfl rfl rfl ?_; clear ha a; intro a ha
  refine sv ha (r_move ha rfl) rfl rfl rfl ?_; clear ha a; intro a ha
  refine svg ha (r_move ha rfl) rfl rfl rfl rfl rfl ?_; clear ha a; intro a ha
  refine svg ha (r_gtr ha ((eta : Nat) : Int) 3 false rfl rfl (decide_eq_false (by omega))) rfl rfl rfl rfl rfl ?_; clear ha a; intro a ha
  refine sv ha (r_pick ha false rfl rfl) rfl rfl rfl ?_; clear ha a; intro a ha
  refine sv ha (r_move ha rfl) rfl rfl rfl ?_; clear ha a; intro a ha
  refine svg ha (r_move ha rfl) rfl rfl rfl rfl rfl ?_; clear ha a; intro a ha
  refine svg ha (r_lenS ha Tryd.runUnderlying22 (hs.below hB) rfl (by rw [List.length_map])) rfl rfl rfl rfl rfl ?_; clear ha a; intro a ha
  refine svg ha (r_move ha rfl) rfl rfl rfl rfl rfl ?_; clear ha a; intro a ha
  refine svg ha (rn_mul ha 64 eta rfl rfl (by omega)) rfl rfl rfl rfl rfl ?_; clear ha a; intro a ha
  refine svg ha (r_neq ha ((b.length : Nat) : Int) ((64 * eta : Nat) : Int) false rfl rfl (decide_eq_false (by omega))) rfl rfl rfl rfl rfl ?_; clear ha a; intro a ha
  refine sv ha (r_pick ha false rfl rfl) rfl rfl rfl ?_; clear ha a; intro a ha
  refine hK12 _ _ ?_; clear hK12 K11
  refine cond_f ha rfl ?_
  refine wp_skip ?_
  refine hK10 _ _ ?_; clear hK10 K9
  refine wp_seq_k fun K13 hK14 => ?_
  refine region ?_
  refine sv ha (r_move ha rfl) rfl rfl rfl ?_; clear ha a; intro a ha
  refine sc ha (r_call ha [v] rfl Tryd.call37) rfl rfl rfl (c_rbits v b _ (hs.below hB) (by omega)) ?_
  clear ha a
  rintro e w15 ⟨u16, rfl, hBc, hs16, hd16⟩
  have hg := grown_call hBc; clear hBc
  have hnb_hs16_b4 : ∀ j, u16.ownBlock = some j → j ≠ b4 := fun j hj => by have h1 := hd16 j hj; have h2 := lt_of_block hb4; omega
  have hnb_hs16_b8 : ∀ j, u16.ownBlock = some j → j ≠ b8 := fun j hj => by have h1 := hd16 j hj; have h2 := lt_of_block hb8; omega
  replace hd16 : ∀ j, u16.ownBlock = some j → w0.heap.size ≤ j := fun j hj => Nat.le_trans hB.size (hd16 j hj)
  replace hB := keepB0 hg hB
  replace hb4 := keepO0 hg hb4
  replace hb8 := keepO0 hg hb8
  clear hg
  refine ⟨_, rfl, ?_⟩; intro a ha
  refine sv ha (r_assign ha rfl) rfl rfl rfl ?_; clear ha a; intro a ha
  refine hK14 _ _ ?_; clear hK14 K13
  refine wp_seq_k fun K17 hK18 => ?_
  refine wp_seq_k fun K19 hK20 => ?_
  refine region ?_
  refine sv ha (r_assign ha rfl) rfl rfl rfl ?_; clear ha a; intro a ha
  refine hK20 _ _ ?_; clear hK20 K19
  refine wp_block ?_
  have hbt := rbits_bt b
  refine loopG (fun (i : Nat) a w => (i ≤ 256) ∧ Has 64 [(0, en eta), (1, v), (4, .pointer (some ⟨b4, 0, none⟩)), (5, .int .i64 0), (6, .pointer (some ⟨b8, 0, none⟩)), (11, en eta), (12, .bool false), (13, .bool false), (14, en eta), (15, .bool false), (16, .bool false), (17, .bool false), (18, v), (19, en b.length), (20, en eta), (21, en (64 * eta)), (22, .bool false), (23, .bool false), (25, v), (26, u16), (7, u16), (8, en i)] a ∧ Below w0.heap.size w0 w ∧ w.heap[b4]? = some (.cells ((List.replicate 256 (0 : Int)).map ei).toArray 24 (0, 0)) ∧ w.heap[b8]? = some (.cells ((rnA (rbits b) eta i).map ei).toArray 24 (0, 0)) ∧ Sl w u16 ((rbits b).map en)) (fun i => 256 - i) 0 ⟨(by omega), ha.to [0, 1, 4, 5, 6, 11, 12, 13, 14, 15, 16, 17, 18, 19, 20, 21, 22, 23, 25, 26, 7, 8] rfl, hB, hb4, hb8, hs16⟩ ?_
  clear ha a hB hb4 hb8 hs16
  intro i a w21 ⟨hki, ha, hB, hb4, hb8, hs16⟩
  refine wp_seq_k fun K22 hK23 => ?_
  refine wp_seq_k fun K24 hK25 => ?_
  refine region ?_
  refine sv ha (r_move ha rfl) rfl rfl rfl ?_; clear ha a; intro a ha
  refine sv ha (r_lss ha ((i : Nat) : Int) 256 (decide (i < 256)) rfl rfl (decide_eq_decide.2 (by omega))) rfl rfl rfl ?_; clear ha a; intro a ha
  refine hK25 _ _ ?_; clear hK25 K24
  refine cond_if ha rfl (fun hc26 => ?_) (fun hc26 => ?_)
  · skip
    replace hc26 := of_decide_eq_true hc26
    refine wp_skip ?_
    refine hK23 _ _ ?_; clear hK23 K22
    refine wp_seq_k fun K27 hK28 => ?_
    refine wp_block ?_
    refine wp_seq_k fun K29 hK30 => ?_
    refine region ?_
    refine sv ha (r_assign ha rfl) rfl rfl rfl ?_; clear ha a; intro a ha
    refine hK30 _ _ ?_; clear hK30 K29
    refine wp_seq_k fun K31 hK32 => ?_
    refine wp_seq_k fun K33 hK34 => ?_
    refine region ?_
    refine sv ha (r_assign ha rfl) rfl rfl rfl ?_; clear ha a; intro a ha
    refine hK34 _ _ ?_; clear hK34 K33
    refine wp_block ?_
    have hmm := Nat.mul_le_mul_right eta (show 2 * i + 2 ≤ 512 by omega)
    rw [Nat.add_mul] at hmm
    refine loopG (fun (j : Nat) a w => (j ≤ eta) ∧ Has 64 [(0, en eta), (1, v), (4, .pointer (some ⟨b4, 0, none⟩)), (5, .int .i64 0), (6, .pointer (some ⟨b8, 0, none⟩)), (11, en eta), (12, .bool false), (13, .bool false), (14, en eta), (15, .bool false), (16, .bool false), (17, .bool false), (18, v), (19, en b.length), (20, en eta), (21, en (64 * eta)), (22, .bool false), (23, .bool false), (25, v), (26, u16), (7, u16), (8, en i), (27, en i), (28, .bool (decide (i < 256))), (10, en j), (9, ei (noE (rbits b) (2 * i * eta) eta j))] a ∧ Below w0.heap.size w0 w ∧ w.heap[b4]? = some (.cells ((List.replicate 256 (0 : Int)).map ei).toArray 24 (0, 0)) ∧ w.heap[b8]? = some (.cells ((rnA (rbits b) eta i).map ei).toArray 24 (0, 0)) ∧ Sl w u16 ((rbits b).map en)) (fun j => eta - j) 0 ⟨(by omega), ha.to [0, 1, 4, 5, 6, 11, 12, 13, 14, 15, 16, 17, 18, 19, 20, 21, 22, 23, 25, 26, 7, 8, 27, 28, 10, 9] rfl, hB, hb4, hb8, hs16⟩ ?_
    clear ha a hB hb4 hb8 hs16
    intro j a w35 ⟨hkj, ha, hB, hb4, hb8, hs16⟩
    have hne := noE_le _ hbt (2 * i * eta) eta j
    have hb1 := hbt (2 * i * eta + j)
    have hb2 := hbt (2 * i * eta + eta + j)
    refine wp_seq_k fun K36 hK37 => ?_
    refine wp_seq_k fun K38 hK39 => ?_
    refine region ?_
    refine sv ha (r_move ha rfl) rfl rfl rfl ?_; clear ha a; intro a ha
    refine sv ha (r_move ha rfl) rfl rfl rfl ?_; clear ha a; intro a ha
    refine sv ha (r_lss ha ((j : Nat) : Int) ((eta : Nat) : Int) (decide (j < eta)) rfl rfl (decide_eq_decide.2 (by omega))) rfl rfl rfl ?_; clear ha a; intro a ha
    refine hK39 _ _ ?_; clear hK39 K38
    refine cond_if ha rfl (fun hc40 => ?_) (fun hc40 => ?_)
    · skip
      replace hc40 := of_decide_eq_true hc40
      refine wp_skip ?_
      refine hK37 _ _ ?_; clear hK37 K36
      refine wp_seq_k fun K41 hK42 => ?_
      refine wp_block ?_
      refine regionD (S := fun w => Below w0.heap.size w0 w ∧ w.heap[b4]? = some (.cells ((List.replicate 256 (0 : Int)).map ei).toArray 24 (0, 0)) ∧ w.heap[b8]? = some (.cells ((rnA (rbits b) eta i).map ei).toArray 24 (0, 0)) ∧ Sl w u16 ((rbits b).map en) ∧ True) [] [0, 1, 2, 3, 4, 5, 6, 7, 8, 9, 10, 11, 12, 13, 14, 15, 16, 17, 18, 19, 20, 21, 22, 23] [0, 1, 2, 3, 4, 5, 6, 7, 8, 9, 10, 11, 12, 13, 14, 15, 16, 17, 18, 19, 20, 21, 22, 23] mixed (by kernel_rfl) (fun w hg => ⟨keepB0 hg hB, keepO0 hg hb4, keepO0 hg hb8, keepS0 hg hs16, trivial⟩) ?_
      intro w43 hg
      replace hB := keepB0 hg hB
      replace hb4 := keepO0 hg hb4
      replace hb8 := keepO0 hg hb8
      replace hs16 := keepS0 hg hs16
      clear hg
      refine cv ha rfl rfl (fun w _ => r_move ha rfl) rfl rfl rfl ?_; clear ha a; intro a ha
      refine cv ha rfl rfl (fun w _ => r_move ha rfl) rfl rfl rfl ?_; clear ha a; intro a ha
      refine cv ha rfl rfl (fun w _ => r_move ha rfl) rfl rfl rfl ?_; clear ha a; intro a ha
      refine cv ha rfl rfl (fun w _ => rn_mul ha 2 i rfl rfl (by omega)) rfl rfl rfl ?_; clear ha a; intro a ha
      refine cv ha rfl rfl (fun w _ => r_move ha rfl) rfl rfl rfl ?_; clear ha a; intro a ha
      refine cv ha rfl rfl (fun w _ => rn_mul ha (2 * i) eta rfl rfl (by omega)) rfl rfl rfl ?_; clear ha a; intro a ha
      refine cv ha rfl rfl (fun w _ => r_move ha rfl) rfl rfl rfl ?_; clear ha a; intro a ha
      refine cv ha rfl rfl (fun w _ => rn_add ha ((2 * i) * eta) j rfl rfl (by omega)) rfl rfl rfl ?_; clear ha a; intro a ha
      refine cv ha rfl rfl (fun w ⟨hB, hb4, hb8, hs16, _⟩ => r_indexS (i := ((2 * i) * eta) + j) ha Tryd.runUnderlying60 Tryd.sizeOf3 hs16 (C := (rbits b).map en) rfl rfl (by rw [List.length_map, rbits_len]; omega)) rfl rfl rfl ?_; clear ha a; intro a ha
      refine cv ha rfl rfl (fun w ⟨hB, hb4, hb8, hs16, _⟩ => r_loadS ha rfl Tryd.isAgg3 hs16 (get_map en (rbits b) 0 (((2 * i) * eta) + j) (by rw [rbits_len]; omega))) rfl rfl rfl ?_; clear ha a; intro a ha
      refine cv ha rfl rfl (fun w _ => r_move ha rfl) rfl rfl rfl ?_; clear ha a; intro a ha
      refine cv ha rfl rfl (fun w _ => r_move ha rfl) rfl rfl rfl ?_; clear ha a; intro a ha
      refine cv ha rfl rfl (fun w _ => rn_mul ha 2 i rfl rfl (by omega)) rfl rfl rfl ?_; clear ha a; intro a ha
      refine cv ha rfl rfl (fun w _ => r_move ha rfl) rfl rfl rfl ?_; clear ha a; intro a ha
      refine cv ha rfl rfl (fun w _ => rn_mul ha (2 * i) eta rfl rfl (by omega)) rfl rfl rfl ?_; clear ha a; intro a ha
      refine cv ha rfl rfl (fun w _ => r_move ha rfl) rfl rfl rfl ?_; clear ha a; intro a ha
      refine cv ha rfl rfl (fun w _ => rn_add ha ((2 * i) * eta) eta rfl rfl (by omega)) rfl rfl rfl ?_; clear ha a; intro a ha
      refine cv ha rfl rfl (fun w _ => r_move ha rfl) rfl rfl rfl ?_; clear ha a; intro a ha
      refine cv ha rfl rfl (fun w _ => rn_add ha (((2 * i) * eta) + eta) j rfl rfl (by omega)) rfl rfl rfl ?_; clear ha a; intro a ha
      refine cv ha rfl rfl (fun w ⟨hB, hb4, hb8, hs16, _⟩ => r_indexS (i := (((2 * i) * eta) + eta) + j) ha Tryd.runUnderlying60 Tryd.sizeOf3 hs16 (C := (rbits b).map en) rfl rfl (by rw [List.length_map, rbits_len]; omega)) rfl rfl rfl ?_; clear ha a; intro a ha
      refine cv ha rfl rfl (fun w ⟨hB, hb4, hb8, hs16, _⟩ => r_loadS ha rfl Tryd.isAgg3 hs16 (get_map en (rbits b) 0 ((((2 * i) * eta) + eta) + j) (by rw [rbits_len]; omega))) rfl rfl rfl ?_; clear ha a; intro a ha
      refine cv ha rfl rfl (fun w _ => r_sub ha (((rbits b).getD (((2 * i) * eta) + j) 0 : Nat) : Int) (((rbits b).getD ((((2 * i) * eta) + eta) + j) 0 : Nat) : Int) rfl rfl (by omega)) rfl rfl rfl ?_; clear ha a; intro a ha
      refine cv ha rfl rfl (fun w _ => r_add ha (noE (rbits b) (2 * i * eta) eta j) ((((rbits b).getD (((2 * i) * eta) + j) 0 : Nat) : Int) - (((rbits b).getD ((((2 * i) * eta) + eta) + j) 0 : Nat) : Int)) rfl rfl (by omega)) rfl rfl rfl ?_; clear ha a; intro a ha
      refine cv ha rfl rfl (fun w _ => r_assign ha rfl) rfl rfl rfl ?_; clear ha a; intro a ha
      refine cfin (hK42 _ _ ?_); clear hK42 K41
      refine region ?_
      refine sv ha (r_move ha rfl) rfl rfl rfl ?_; clear ha a; intro a ha
      refine sv ha (rn_add ha j 1 rfl rfl (by omega)) rfl rfl rfl ?_; clear ha a; intro a ha
      refine sv ha (r_assign ha rfl) rfl rfl rfl ?_; clear ha a; intro a ha
      exact ⟨j + 1, by omega, (by omega), ha.to [0, 1, 4, 5, 6, 11, 12, 13, 14, 15, 16, 17, 18, 19, 20, 21, 22, 23, 25, 26, 7, 8, 27, 28, 10, 9] rfl, hB, hb4, hb8, hs16⟩
    · skip
      replace hc40 := of_decide_eq_false hc40
      refine wp_exit ?_
      obtain rfl : eta = j := by omega
      refine hK32 _ _ ?_; clear hK37 K36 hK32 K31
      refine region ?_
      refine sv ha (r_move ha rfl) rfl rfl rfl ?_; clear ha a; intro a ha
      refine sv ha (r_move ha rfl) rfl rfl rfl ?_; clear ha a; intro a ha
      refine sv ha (r_rem ha (noE (rbits b) (2 * i * eta) eta eta) 3329 rfl rfl (by omega)) rfl rfl rfl ?_; clear ha a; intro a ha
      refine sv ha (r_indexArr (i := i) ha i Tryd.runUnderlying24 Tryd.sizeOf3 rfl rfl (by omega) (by omega)) rfl rfl rfl ?_; clear ha a; intro a ha
      refine sstore ha (v := ei ((noE (rbits b) (2 * i * eta) eta eta).tmod 3329)) rfl rfl rfl rfl Tryd.sizeOf3 hb8 (by rw [List.length_map, rnA_len]; omega) ?_
      clear ha a; intro a w44 ha hg hb8'
      rw [set_map] at hb8'
      clear hb8; have hb8 := hb8'; clear hb8'
      replace hB := keepB1 hg (by omega) hB
      replace hb4 := keepO1 hg (by omega) hb4
      replace hs16 := keepS1 hg (ne_of_ap hnb_hs16_b8) hs16
      clear hg
      refine hK28 _ _ ?_; clear hK28 K27
      refine region ?_
      refine sv ha (r_move ha rfl) rfl rfl rfl ?_; clear ha a; intro a ha
      refine sv ha (rn_add ha i 1 rfl rfl (by omega)) rfl rfl rfl ?_; clear ha a; intro a ha
      refine sv ha (r_assign ha rfl) rfl rfl rfl ?_; clear ha a; intro a ha
      exact ⟨i + 1, by omega, (by omega), ha.to [0, 1, 4, 5, 6, 11, 12, 13, 14, 15, 16, 17, 18, 19, 20, 21, 22, 23, 25, 26, 7, 8] rfl, hB, hb4, hb8, hs16⟩
  · skip
    replace hc26 := of_decide_eq_false hc26
    refine wp_exit ?_
    obtain rfl : i = 256 := by omega
    refine hK18 _ _ ?_; clear hK23 K22 hK18 K17
    refine wp_seq_k fun K45 hK46 => ?_
    refine region ?_
    refine sv ha (r_loadR ha rfl Tryd.isAgg24 Tryd.sizeOf24 (C := (rnA (rbits b) eta 256).map ei) (by rw [List.length_map, rnA_len]) (cells_all hb8)) rfl rfl rfl ?_; clear ha a; intro a ha
    refine sstoreW ha rfl rfl (one_ei _) Tryd.sizeOf24 (by rw [List.length_map, rnA_len]) hb4 (by rw [List.length_map, List.length_replicate]) ?_
    clear ha a; intro a w47 ha hg hb4'
    clear hb4; have hb4 := hb4'; clear hb4'
    replace hB := keepB1 hg (by omega) hB
    replace hb8 := keepO1 hg (by omega) hb8
    replace hs16 := keepS1 hg (ne_of_ap hnb_hs16_b4) hs16
    clear hg
    refine sv ha (r_assign ha rfl) rfl rfl rfl ?_; clear ha a; intro a ha
    refine hK46 _ _ ?_; clear hK46 K45
    refine wp_ret ?_
    repeat (first | (with_reducible refine t_ret ?_) | (with_reducible refine x_ret ?_))
    exact retCT _ ha Tryd.results15 rfl rfl hb4 Tryd.underlying24 rfl (by rw [List.length_map, rnA_len]; kernel_rfl) ⟨(by rw [rnA_eq b eta he hb 256 (by omega)]; rfl), hB⟩

theorem c_rnoise0 (eta : Int) (v : Value) (b : List UInt8) (w0 : World) (hs : Sl w0 v (b.map e8)) (hx : ¬ (1 ≤ eta ∧ eta ≤ 3 ∧ (b.length : Int) = 64 * eta)) :
    Calls Tryd.prog 15 #[ei eta, v] w0 fun e w' => e = .returned (.tuple #[.agg ((zero256).map ei).toArray, en 1]) ∧ Below w0.heap.size w0 w' := by
  refine enter (args := [_, _]) Tryd.func15 rfl Tryd.ntmps15 rfl ?_
  intro a ha
  have hB := Below.refl w0.heap.size w0
  refine wp_seq_k fun K1 hK2 => ?_
  refine region ?_
  refine salloc ha zero_24S3 rfl ?_
  clear ha a; intro a w3 b4 ha hg hb4 hge4 hlt4
  have hz4 : w0.heap.size ≤ b4 := Nat.le_trans hB.size hge4
  replace hB := keepB0 hg hB
  clear hg hge4 hlt4
  refine sv ha (r_assign ha rfl) rfl rfl rfl ?_; clear ha a; intro a ha
  refine hK2 _ _ ?_; clear hK2 K1
  refine wp_seq_k fun K5 hK6 => ?_
  refine region ?_
  refine salloc ha zero_24S3 rfl ?_
  clear ha a; intro a w7 b8 ha hg hb8 hge8 hlt8
  have hz8 : w0.heap.size ≤ b8 := Nat.le_trans hB.size hge8
  have hq4_8 : b4 < b8 := Nat.lt_of_lt_of_le (lt_of_block hb4) hge8
  replace hB := keepB0 hg hB
  replace hb4 := keepO0 hg hb4
  clear hg hge8 hlt8
  refine hK6 _ _ ?_; clear hK6 K5
  refine wp_seq_k fun K9 hK10 => ?_
  refine wp_seq_k fun K11 hK12 => ?_
  refine region ?_
  refine sv ha (r_move ha rfl) rfl rfl rfl ?_; clear ha a; intro a ha
  refine sv ha (r_lss ha eta 1 (decide (eta < 1)) rfl rfl (decide_eq_decide.2 (by omega))) rfl rfl rfl ?_; clear ha a; intro a ha
  refine sv ha (r_move ha rfl) rfl rfl rfl ?_; clear ha a; intro a ha
  cases hq13 : (decide (eta < 1))
  all_goals rw [hq13] at ha
  case false =>
    replace hq13 := of_decide_eq_false hq13
    refine svg ha (r_move ha rfl) rfl rfl rfl rfl rfl ?_; clear ha a; intro a ha
    refine svg ha (r_gtr ha eta 3 (decide (eta > 3)) rfl rfl (decide_eq_decide.2 (by omega))) rfl rfl rfl rfl rfl ?_; clear ha a; intro a ha
    refine sv ha (r_pick ha false rfl rfl) rfl rfl rfl ?_; clear ha a; intro a ha
    refine sv ha (r_move ha rfl) rfl rfl rfl ?_; clear ha a; intro a ha
    cases hq14 : (decide (eta > 3))
    all_goals rw [hq14] at ha
    case false =>
      replace hq14 := of_decide_eq_false hq14
      refine svg ha (r_move ha rfl) rfl rfl rfl rfl rfl ?_; clear ha a; intro a ha
      refine svg ha (r_lenS ha Tryd.runUnderlying22 (hs.below hB) rfl (by rw [List.length_map])) rfl rfl rfl rfl rfl ?_; clear ha a; intro a ha
      refine svg ha (r_move ha rfl) rfl rfl rfl rfl rfl ?_; clear ha a; intro a ha
      refine svg ha (r_mul ha 64 eta rfl rfl (by omega)) rfl rfl rfl rfl rfl ?_; clear ha a; intro a ha
      refine svg ha (r_neq ha ((b.length : Nat) : Int) (64 * eta) true rfl rfl (decide_eq_true (by omega))) rfl rfl rfl rfl rfl ?_; clear ha a; intro a ha
      refine sv ha (r_pick ha false rfl rfl) rfl rfl rfl ?_; clear ha a; intro a ha
      refine hK12 _ _ ?_; clear hK12 K11
      refine cond_t ha rfl ?_
      refine wp_seq_k fun K15 hK16 => ?_
      refine region ?_
      refine sv ha (r_loadR ha rfl Tryd.isAgg24 Tryd.sizeOf24 (C := (List.replicate 256 (0 : Int)).map ei) (by rw [List.length_map, List.length_replicate]) (cells_all hb8)) rfl rfl rfl ?_; clear ha a; intro a ha
      refine sstoreW ha rfl rfl (one_ei _) Tryd.sizeOf24 (by rw [List.length_map, List.length_replicate]) hb4 (by rw [List.length_map, List.length_replicate]) ?_
      clear ha a; intro a w17 ha hg hb4'
      clear hb4; have hb4 := hb4'; clear hb4'
      replace hB := keepB1 hg (by omega) hB
      replace hb8 := keepO1 hg (by omega) hb8
      clear hg
      refine sv ha (r_assign ha rfl) rfl rfl rfl ?_; clear ha a; intro a ha
      refine hK16 _ _ ?_; clear hK16 K15
      refine wp_ret ?_
      repeat (first | (with_reducible refine t_ret ?_) | (with_reducible refine x_ret ?_))
      exact retCT _ ha Tryd.results15 rfl rfl hb4 Tryd.underlying24 rfl (by rw [List.length_map, List.length_replicate]; kernel_rfl) ⟨rfl, hB⟩
    case true =>
      replace hq14 := of_decide_eq_true hq14
      refine sno ha rfl rfl rfl rfl rfl rfl ?_; clear ha a; intro a ha
      refine sno ha rfl rfl rfl rfl rfl rfl ?_; clear ha a; intro a ha
      refine sno ha rfl rfl rfl rfl rfl rfl ?_; clear ha a; intro a ha
      refine sno ha rfl rfl rfl rfl rfl rfl ?_; clear ha a; intro a ha
      refine sno ha rfl rfl rfl rfl rfl rfl ?_; clear ha a; intro a ha
      refine sv ha (r_pick ha true rfl rfl) rfl rfl rfl ?_; clear ha a; intro a ha
      refine hK12 _ _ ?_; clear hK12 K11
      refine cond_t ha rfl ?_
      refine wp_seq_k fun K18 hK19 => ?_
      refine region ?_
      refine sv ha (r_loadR ha rfl Tryd.isAgg24 Tryd.sizeOf24 (C := (List.replicate 256 (0 : Int)).map ei) (by rw [List.length_map, List.length_replicate]) (cells_all hb8)) rfl rfl rfl ?_; clear ha a; intro a ha
      refine sstoreW ha rfl rfl (one_ei _) Tryd.sizeOf24 (by rw [List.length_map, List.length_replicate]) hb4 (by rw [List.length_map, List.length_replicate]) ?_
      clear ha a; intro a w20 ha hg hb4'
      clear hb4; have hb4 := hb4'; clear hb4'
      replace hB := keepB1 hg (by omega) hB
      replace hb8 := keepO1 hg (by omega) hb8
      clear hg
      refine sv ha (r_assign ha rfl) rfl rfl rfl ?_; clear ha a; intro a ha
      refine hK19 _ _ ?_; clear hK19 K18
      refine wp_ret ?_
      repeat (first | (with_reducible refine t_ret ?_) | (with_reducible refine x_ret ?_))
      exact retCT _ ha Tryd.results15 rfl rfl hb4 Tryd.underlying24 rfl (by rw [List.length_map, List.length_replicate]; kernel_rfl) ⟨rfl, hB⟩
  case true =>
    replace hq13 := of_decide_eq_true hq13
    refine sno ha rfl rfl rfl rfl rfl rfl ?_; clear ha a; intro a ha
    refine sno ha rfl rfl rfl rfl rfl rfl ?_; clear ha a; intro a ha
    refine sv ha (r_pick ha true rfl rfl) rfl rfl rfl ?_; clear ha a; intro a ha
    refine sv ha (r_move ha rfl) rfl rfl rfl ?_; clear ha a; intro a ha
    refine sno ha rfl rfl rfl rfl rfl rfl ?_; clear ha a; intro a ha
    refine sno ha rfl rfl rfl rfl rfl rfl ?_; clear ha a; intro a ha
    refine sno ha rfl rfl rfl rfl rfl rfl ?_; clear ha a; intro a ha
    refine sno ha rfl rfl rfl rfl rfl rfl ?_; clear ha a; intro a ha
    refine sno ha rfl rfl rfl rfl rfl rfl ?_; clear ha a; intro a ha
    refine sv ha (r_pick ha true rfl rfl) rfl rfl rfl ?_; clear ha a; intro a ha
    refine hK12 _ _ ?_; clear hK12 K11
    refine cond_t ha rfl ?_
    refine wp_seq_k fun K21 hK22 => ?_
    refine region ?_
    refine sv ha (r_loadR ha rfl Tryd.isAgg24 Tryd.sizeOf24 (C := (List.replicate 256 (0 : Int)).map ei) (by rw [List.length_map, List.length_replicate]) (cells_all hb8)) rfl rfl rfl ?_; clear ha a; intro a ha
    refine sstoreW ha rfl rfl (one_ei _) Tryd.sizeOf24 (by rw [List.length_map, List.length_replicate]) hb4 (by rw [List.length_map, List.length_replicate]) ?_
    clear ha a; intro a w23 ha hg hb4'
    clear hb4; have hb4 := hb4'; clear hb4'
    replace hB := keepB1 hg (by omega) hB
    replace hb8 := keepO1 hg (by omega) hb8
    clear hg
    refine sv ha (r_assign ha rfl) rfl rfl rfl ?_; clear ha a; intro a ha
    refine hK22 _ _ ?_; clear hK22 K21
    refine wp_ret ?_
    repeat (first | (with_reducible refine t_ret ?_) | (with_reducible refine x_ret ?_))
    exact retCT _ ha Tryd.results15 rfl rfl hb4 Tryd.underlying24 rfl (by rw [List.length_map, List.length_replicate]; kernel_rfl) ⟨rfl, hB⟩

theorem c_rnoiseZ (eta : Int) (v : Value) (b : List UInt8) (w0 : World) (hs : Sl w0 v (b.map e8)) :
    Calls Tryd.prog 15 #[ei eta, v] w0 fun e w' => e = .returned (.tuple #[.agg ((noiP eta b).map ei).toArray, en (noiE eta b)]) ∧ Below w0.heap.size w0 w' := by
  by_cases h : 1 ≤ eta ∧ eta ≤ 3 ∧ (b.length : Int) = 64 * eta
  · obtain ⟨n, rfl⟩ := Int.eq_ofNat_of_zero_le (show 0 ≤ eta by omega)
    refine (c_rnoise1 n v b w0 (by omega) hs (by omega)).mono fun e w h' => ?_
    rw [noiP, noiE, if_pos h, if_pos h]; exact h'
  · refine (c_rnoise0 eta v b w0 hs h).mono fun e w h' => ?_
    rw [noiP, noiE, if_neg h, if_neg h]; exact h'

theorem c_rprf1 (eta : Nat) (v : Value) (seed : List UInt8) (n : UInt8) (w0 : World) (he : 1 ≤ eta ∧ eta ≤ 3) (hs : Sl w0 v (seed.map e8)) (hk : seed.length ≤ 50000) :
    Calls Tryd.prog 17 #[en eta, v, e8 n] w0 fun e w' => e = .returned (.tuple #[.agg ((noA eta (prfB (eta : Int) seed n) 256).map ei).toArray, en 0]) ∧ Below w0.heap.size w0 w' := by
  refine enter (args := [_, _, _]) Tryd.func17 rfl Tryd.ntmps17 rfl ?_
  intro a ha
  have hB := Below.refl w0.heap.size w0
  refine wp_seq_k fun K1 hK2 => ?_
  refine region ?_
  refine salloc ha zero_24S3 rfl ?_
  clear ha a; intro a w3 b4 ha hg hb4 hge4 hlt4
  have hz4 : w0.heap.size ≤ b4 := Nat.le_trans hB.size hge4
  replace hB := keepB0 hg hB
  clear hg hge4 hlt4
  refine sv ha (r_assign ha rfl) rfl rfl rfl ?_; clear ha a; intro a ha
  refine hK2 _ _ ?_; clear hK2 K1
  refine wp_seq_k fun K5 hK6 => ?_
  refine wp_seq_k fun K7 hK8 => ?_
  refine region ?_
  refine sv ha (r_move ha rfl) rfl rfl rfl ?_; clear ha a; intro a ha
  refine sv ha (r_lss ha ((eta : Nat) : Int) 1 false rfl rfl (decide_eq_false (by omega))) rfl rfl rfl ?_; clear ha a; intro a ha
  refine sv ha (r_move ha rfl) rfl rfl rfl ?_; clear ha a; intro a ha
  refine svg ha (r_move ha rfl) rfl rfl rfl rfl rfl ?_; clear ha a; intro a ha
  refine svg ha (r_gtr ha ((eta : Nat) : Int) 3 false rfl rfl (decide_eq_false (by omega))) rfl rfl rfl rfl rfl ?_; clear ha a; intro a ha
  refine sv ha (r_pick ha false rfl rfl) rfl rfl rfl ?_; clear ha a; intro a ha
  refine hK8 _ _ ?_; clear hK8 K7
  refine cond_f ha rfl ?_
  refine wp_skip ?_
  refine hK6 _ _ ?_; clear hK6 K5
  refine wp_seq_k fun K9 hK10 => ?_
  refine region ?_
  refine sv ha (r_assign ha rfl) rfl rfl rfl ?_; clear ha a; intro a ha
  refine hK10 _ _ ?_; clear hK10 K9
  refine wp_seq_k fun K11 hK12 => ?_
  refine region ?_
  refine sv ha (r_move ha rfl) rfl rfl rfl ?_; clear ha a; intro a ha
  refine sv ha (r_move ha rfl) rfl rfl rfl ?_; clear ha a; intro a ha
  refine sapp (C := (([] : List UInt8)).map e8) (D := (seed).map e8) ha rfl rfl Tryd.underlying22 rfl rfl rfl rfl (World.ownsRow_nil w3 w0.heap.size 5 1) (hs.below hB) (one_e8 _) (by simp only [List.length_map]; show _ * 1 ≤ _; omega) (by simp only [List.length_map]; omega) hB.size rfl ?_
  clear ha a; intro a w14 v13 ha hg ho13 hnl13 hpl13
  rw [← List.map_append, List.length_map] at ho13
  rw [List.nil_append, Nat.zero_add] at ho13
  have hg : World.grownBy w3 w14 none := hg
  have hne_13_b4 : ∀ j, v13.ownBlock = some j → j ≠ b4 := fun j hj => (hpl13 j hj).elim (fun h => by simp [Value.ownBlock] at h) (fun h => by have := lt_of_block hb4; omega)
  replace hB := keepB0 hg hB
  replace hb4 := keepO0 hg hb4
  clear hg
  refine sv ha (r_assign ha rfl) rfl rfl rfl ?_; clear ha a; intro a ha
  refine hK12 _ _ ?_; clear hK12 K11
  refine wp_seq_k fun K15 hK16 => ?_
  refine region ?_
  refine sv ha (r_move ha rfl) rfl rfl rfl ?_; clear ha a; intro a ha
  refine sv ha (r_move ha rfl) rfl rfl rfl ?_; clear ha a; intro a ha
  refine sv ha (r_move ha rfl) rfl rfl rfl ?_; clear ha a; intro a ha
  refine sbuildS ha [(0, e8 n)] (([n] : List UInt8).map e8) rfl Tryd.runUnderlying22 Tryd.sizeOf5 Tryd.zeroValue5 rfl rfl rfl rfl rfl ?_
  clear ha a; intro a w17 b18 ha hg hb18 hge18 hlt18
  have hz18 : w0.heap.size ≤ b18 := Nat.le_trans hB.size hge18
  have hne_ho13_b18 : ∀ j, Value.ownBlock v13 = some j → j ≠ b18 := fun j hj => by have := (ho13.lt j hj).2; omega
  have hq4_18 : b4 < b18 := Nat.lt_of_lt_of_le (lt_of_block hb4) hge18
  replace hB := keepB0 hg hB
  replace hb4 := keepO0 hg hb4
  replace ho13 := keepW0 hg ho13
  clear hg hge18 hlt18
  refine sapp (C := (seed).map e8) (D := (([n] : List UInt8)).map e8) ha rfl rfl Tryd.underlying22 rfl rfl rfl rfl ho13 (Sl.ofBlockM hb18 (by rw [show ([n] : List UInt8).length = 1 from rfl]) (by omega)) (one_e8 _) (by simp only [List.length_map, show ([n] : List UInt8).length = 1 from rfl]; show _ * 1 ≤ _; omega) (by simp only [List.length_map, show ([n] : List UInt8).length = 1 from rfl]; omega) hB.size rfl ?_
  clear ha a; intro a w20 v19 ha hg ho19 hnl19 hpl19
  rw [← List.map_append, List.length_map, show ([n] : List UInt8).length = 1 from rfl] at ho19
  rw [List.length_map, show ([n] : List UInt8).length = 1 from rfl] at hnl19
  have hne_19_b4 : ∀ j, v19.ownBlock = some j → j ≠ b4 := fun j hj => (hpl19 j hj).elim (fun h => hne_13_b4 j h) (fun h => by have := lt_of_block hb4; omega)
  have hne_19_b18 : ∀ j, v19.ownBlock = some j → j ≠ b18 := fun j hj => (hpl19 j hj).elim (fun h => hne_ho13_b18 j h) (fun h => by have := lt_of_block hb18; omega)
  replace hB := keepBR hg (own_row ho13) hB
  replace hb4 := keepOR hg (ne_of_ap hne_13_b4) hb4
  replace hb18 := keepOR hg (ne_of_ap hne_ho13_b18) hb18
  clear hg
  refine sv ha (r_move ha rfl) rfl rfl rfl ?_; clear ha a; intro a ha
  refine sv ha (rn_mul ha 64 eta rfl rfl (by omega)) rfl rfl rfl ?_; clear ha a; intro a ha
  refine sc ha (r_call ha [v19, en (64 * eta)] rfl Tryd.call40) rfl rfl rfl (c_rshake256 v19 (seed ++ ([n] : List UInt8)) (64 * eta) _ (Sl.ofOwns ho19) (by first | (simp only [List.length_append, List.length_cons, List.length_nil]; omega) | (rw [prfB_app, prfB_len _ _ _ (by omega)]; done) | (rw [prfB_app, prfB_len _ _ _ (by omega)]; omega)) (by omega)) ?_
  clear ha a
  rintro e w21 ⟨u22, rfl, hBc, hs22, hd22⟩
  have hg := grown_call hBc; clear hBc
  have hnb_hs22_b4 : ∀ j, u22.ownBlock = some j → j ≠ b4 := fun j hj => by have h1 := hd22 j hj; have h2 := lt_of_block hb4; omega
  have hnb_hs22_b18 : ∀ j, u22.ownBlock = some j → j ≠ b18 := fun j hj => by have h1 := hd22 j hj; have h2 := lt_of_block hb18; omega
  have hds_hs22_ho19 : ∀ j, u22.ownBlock = some j → v19.ownBlock ≠ some j := fun j h1 h2 => by have h3 := hd22 j h1; have h4 := (fun j hj => (ho19.lt j hj).2) j h2; omega
  replace hd22 : ∀ j, u22.ownBlock = some j → w0.heap.size ≤ j := fun j hj => Nat.le_trans hB.size (hd22 j hj)
  replace hB := keepB0 hg hB
  replace hb4 := keepO0 hg hb4
  replace hb18 := keepO0 hg hb18
  replace ho19 := keepW0 hg ho19
  clear hg
  refine ⟨_, rfl, ?_⟩; intro a ha
  refine sc ha (r_call ha [en eta, u22] rfl Tryd.call15) rfl rfl rfl (c_rnoise1 eta u22 (sqz (absR 136 31 noughts (seed ++ ([n] : List UInt8))) 136 (64 * eta)) _ (by omega) hs22 (by first | (simp only [List.length_append, List.length_cons, List.length_nil]; omega) | (rw [prfB_app, prfB_len _ _ _ (by omega)]; done) | (rw [prfB_app, prfB_len _ _ _ (by omega)]; omega))) ?_
  clear ha a
  rintro e w23 ⟨rfl, hBc⟩
  have hg := grown_call hBc; clear hBc
  replace hB := keepB0 hg hB
  replace hb4 := keepO0 hg hb4
  replace hb18 := keepO0 hg hb18
  replace ho19 := keepW0 hg ho19
  replace hs22 := keepS0 hg hs22
  clear hg
  refine ⟨_, rfl, ?_⟩; intro a ha
  refine sv ha (r_extract ha (vs := #[.agg ((noA eta (sqz (absR 136 31 noughts (seed ++ ([n] : List UInt8))) 136 (64 * eta)) 256).map ei).toArray, en 0]) rfl rfl) rfl rfl rfl ?_; clear ha a; intro a ha
  refine sv ha (r_extract ha (vs := #[.agg ((noA eta (sqz (absR 136 31 noughts (seed ++ ([n] : List UInt8))) 136 (64 * eta)) 256).map ei).toArray, en 0]) rfl rfl) rfl rfl rfl ?_; clear ha a; intro a ha
  refine sstoreW ha rfl rfl (one_ei _) Tryd.sizeOf24 (by rw [List.length_map, noA_len]) hb4 (by rw [List.length_map, List.length_replicate]) ?_
  clear ha a; intro a w24 ha hg hb4'
  clear hb4; have hb4 := hb4'; clear hb4'
  replace hB := keepB1 hg (by omega) hB
  replace hb18 := keepO1 hg (by omega) hb18
  replace ho19 := keepW1 hg (ne_of_ap hne_19_b4) ho19
  replace hs22 := keepS1 hg (ne_of_ap hnb_hs22_b4) hs22
  clear hg
  refine sv ha (r_assign ha rfl) rfl rfl rfl ?_; clear ha a; intro a ha
  refine hK16 _ _ ?_; clear hK16 K15
  refine wp_ret ?_
  repeat (first | (with_reducible refine t_ret ?_) | (with_reducible refine x_ret ?_))
  exact retCT _ ha Tryd.results17 rfl rfl hb4 Tryd.underlying24 rfl (by rw [List.length_map, noA_len]; kernel_rfl) ⟨(by rw [prfB_app]; rfl), hB⟩

theorem c_rprf0 (eta : Int) (v : Value) (seed : List UInt8) (n : UInt8) (w0 : World) (hs : Sl w0 v (seed.map e8)) (hx : ¬ (1 ≤ eta ∧ eta ≤ 3)) :
    Calls Tryd.prog 17 #[ei eta, v, e8 n] w0 fun e w' => e = .returned (.tuple #[.agg ((zero256).map ei).toArray, en 1]) ∧ Below w0.heap.size w0 w' := by
  refine enter (args := [_, _, _]) Tryd.func17 rfl Tryd.ntmps17 rfl ?_
  intro a ha
  have hB := Below.refl w0.heap.size w0
  refine wp_seq_k fun K1 hK2 => ?_
  refine region ?_
  refine salloc ha zero_24S3 rfl ?_
  clear ha a; intro a w3 b4 ha hg hb4 hge4 hlt4
  have hz4 : w0.heap.size ≤ b4 := Nat.le_trans hB.size hge4
  replace hB := keepB0 hg hB
  clear hg hge4 hlt4
  refine sv ha (r_assign ha rfl) rfl rfl rfl ?_; clear ha a; intro a ha
  refine hK2 _ _ ?_; clear hK2 K1
  refine wp_seq_k fun K5 hK6 => ?_
  refine wp_seq_k fun K7 hK8 => ?_
  refine region ?_
  refine sv ha (r_move ha rfl) rfl rfl rfl ?_; clear ha a; intro a ha
  refine sv ha (r_lss ha eta 1 (decide (eta < 1)) rfl rfl (decide_eq_decide.2 (by omega))) rfl rfl rfl ?_; clear ha a; intro a ha
  refine sv ha (r_move ha rfl) rfl rfl rfl ?_; clear ha a; intro a ha
  cases hq9 : (decide (eta < 1))
  all_goals rw [hq9] at ha
  case false =>
    replace hq9 := of_decide_eq_false hq9
    refine svg ha (r_move ha rfl) rfl rfl rfl rfl rfl ?_; clear ha a; intro a ha
    refine svg ha (r_gtr ha eta 3 true rfl rfl (decide_eq_true (by omega))) rfl rfl rfl rfl rfl ?_; clear ha a; intro a ha
    refine sv ha (r_pick ha false rfl rfl) rfl rfl rfl ?_; clear ha a; intro a ha
    refine hK8 _ _ ?_; clear hK8 K7
    refine cond_t ha rfl ?_
    refine wp_seq_k fun K10 hK11 => ?_
    refine region ?_
    refine sv ha (r_build0 zero_24S3 Tryd.runUnderlying24 Tryd.sizeOf3) rfl rfl rfl ?_; clear ha a; intro a ha
    refine sstoreW ha rfl rfl (one_ei _) Tryd.sizeOf24 (by rw [List.length_map, List.length_replicate]) hb4 (by rw [List.length_map, List.length_replicate]) ?_
    clear ha a; intro a w12 ha hg hb4'
    clear hb4; have hb4 := hb4'; clear hb4'
    replace hB := keepB1 hg (by omega) hB
    clear hg
    refine sv ha (r_assign ha rfl) rfl rfl rfl ?_; clear ha a; intro a ha
    refine hK11 _ _ ?_; clear hK11 K10
    refine wp_ret ?_
    repeat (first | (with_reducible refine t_ret ?_) | (with_reducible refine x_ret ?_))
    exact retCT _ ha Tryd.results17 rfl rfl hb4 Tryd.underlying24 rfl (by rw [List.length_map, List.length_replicate]; kernel_rfl) ⟨rfl, hB⟩
  case true =>
    replace hq9 := of_decide_eq_true hq9
    refine sno ha rfl rfl rfl rfl rfl rfl ?_; clear ha a; intro a ha
    refine sno ha rfl rfl rfl rfl rfl rfl ?_; clear ha a; intro a ha
    refine sv ha (r_pick ha true rfl rfl) rfl rfl rfl ?_; clear ha a; intro a ha
    refine hK8 _ _ ?_; clear hK8 K7
    refine cond_t ha rfl ?_
    refine wp_seq_k fun K13 hK14 => ?_
    refine region ?_
    refine sv ha (r_build0 zero_24S3 Tryd.runUnderlying24 Tryd.sizeOf3) rfl rfl rfl ?_; clear ha a; intro a ha
    refine sstoreW ha rfl rfl (one_ei _) Tryd.sizeOf24 (by rw [List.length_map, List.length_replicate]) hb4 (by rw [List.length_map, List.length_replicate]) ?_
    clear ha a; intro a w15 ha hg hb4'
    clear hb4; have hb4 := hb4'; clear hb4'
    replace hB := keepB1 hg (by omega) hB
    clear hg
    refine sv ha (r_assign ha rfl) rfl rfl rfl ?_; clear ha a; intro a ha
    refine hK14 _ _ ?_; clear hK14 K13
    refine wp_ret ?_
    repeat (first | (with_reducible refine t_ret ?_) | (with_reducible refine x_ret ?_))
    exact retCT _ ha Tryd.results17 rfl rfl hb4 Tryd.underlying24 rfl (by rw [List.length_map, List.length_replicate]; kernel_rfl) ⟨rfl, hB⟩

theorem c_rprfZ (eta : Int) (v : Value) (seed : List UInt8) (n : UInt8) (w0 : World) (hs : Sl w0 v (seed.map e8)) (hk : seed.length ≤ 50000) :
    Calls Tryd.prog 17 #[ei eta, v, e8 n] w0 fun e w' => e = .returned (.tuple #[.agg ((prfP eta seed n).map ei).toArray, en (prfE eta)]) ∧ Below w0.heap.size w0 w' := by
  by_cases h : 1 ≤ eta ∧ eta ≤ 3
  · obtain ⟨n', rfl⟩ := Int.eq_ofNat_of_zero_le (show 0 ≤ eta by omega)
    refine (c_rprf1 n' v seed n w0 (by omega) hs hk).mono fun e w h' => ?_
    rw [prfP, prfE, if_pos h, if_pos h]; exact h'
  · refine (c_rprf0 eta v seed n w0 hs h).mono fun e w h' => ?_
    rw [prfP, prfE, if_neg h, if_neg h]; exact h'

theorem c_rpack1 (d : Nat) (p : List Int) (w0 : World) (hd : 1 ≤ d ∧ d ≤ 12) (hp : p.length = 256) :
    Calls Tryd.prog 21 #[en d, .agg ((p).map ei).toArray] w0 fun e w' => ∃ u0 : Value, e = .returned (u0) ∧ Below w0.heap.size w0 w' ∧ Sl w' u0 ((paA d p 256).map e8) ∧ (∀ j, u0.ownBlock = some j → w0.heap.size ≤ j) := by
  refine enter (args := [_, _]) Tryd.func21 rfl Tryd.ntmps21 rfl ?_
  intro a ha
  have hB := Below.refl w0.heap.size w0
  refine wp_seq_k fun K1 hK2 => ?_
  refine region ?_
  refine sbox ha rfl rfl ?_
  clear ha a; intro a w3 b4 ha hg hb4 hge4 hlt4
  have hz4 : w0.heap.size ≤ b4 := Nat.le_trans hB.size hge4
  replace hB := keepB0 hg hB
  clear hg hge4 hlt4
  refine sv ha (r_assign ha rfl) rfl rfl rfl ?_; clear ha a; intro a ha
  refine hK2 _ _ ?_; clear hK2 K1
  refine wp_seq_k fun K5 hK6 => ?_
  refine wp_seq_k fun K7 hK8 => ?_
  refine region ?_
  refine sv ha (r_move ha rfl) rfl rfl rfl ?_; clear ha a; intro a ha
  refine sv ha (r_lss ha ((d : Nat) : Int) 1 false rfl rfl (decide_eq_false (by omega))) rfl rfl rfl ?_; clear ha a; intro a ha
  refine sv ha (r_move ha rfl) rfl rfl rfl ?_; clear ha a; intro a ha
  refine svg ha (r_move ha rfl) rfl rfl rfl rfl rfl ?_; clear ha a; intro a ha
  refine svg ha (r_gtr ha ((d : Nat) : Int) 12 false rfl rfl (decide_eq_false (by omega))) rfl rfl rfl rfl rfl ?_; clear ha a; intro a ha
  refine sv ha (r_pick ha false rfl rfl) rfl rfl rfl ?_; clear ha a; intro a ha
  refine hK8 _ _ ?_; clear hK8 K7
  refine cond_f ha rfl ?_
  refine wp_skip ?_
  refine hK6 _ _ ?_; clear hK6 K5
  refine wp_seq_k fun K9 hK10 => ?_
  refine region ?_
  refine sv ha (r_assign ha rfl) rfl rfl rfl ?_; clear ha a; intro a ha
  refine hK10 _ _ ?_; clear hK10 K9
  refine wp_seq_k fun K11 hK12 => ?_
  refine wp_seq_k fun K13 hK14 => ?_
  refine region ?_
  refine sv ha (r_assign ha rfl) rfl rfl rfl ?_; clear ha a; intro a ha
  refine hK14 _ _ ?_; clear hK14 K13
  refine wp_block ?_
  refine loopG (fun (i : Nat) a w => ∃ vo : Value, (i ≤ 256) ∧ (∀ j, vo.ownBlock = some j → j ≠ b4) ∧ Has 64 [(0, en d), (1, .agg ((p).map ei).toArray), (3, .pointer (some ⟨b4, 0, none⟩)), (4, .slice none 0 0), (13, en d), (14, .bool false), (15, .bool false), (16, en d), (17, .bool false), (18, .bool false), (6, en i), (5, vo)] a ∧ Below w0.heap.size w0 w ∧ w.heap[b4]? = some (.cells ((p).map ei).toArray 24 (0, 0)) ∧ w.ownsRow w0.heap.size 3 1 vo (pkA d p i).length ((pkA d p i).map en)) (fun i => 256 - i) 0 ⟨.slice none 0 0, (by omega), (fun j hj => (nil_own j hj).elim), ha.to [0, 1, 3, 4, 13, 14, 15, 16, 17, 18, 6, 5] rfl, hB, hb4, (own_castl (l := ([] : List Nat)) (World.ownsRow_nil _ _ _ _) rfl)⟩ ?_
  clear ha a hB hb4
  intro i a w15 ⟨vo, hki, hnb_vo_b4, ha, hB, hb4, hovo⟩
  have hmm := Nat.mul_le_mul hd.2 (show i ≤ 256 by omega)
  refine wp_seq_k fun K16 hK17 => ?_
  refine wp_seq_k fun K18 hK19 => ?_
  refine region ?_
  refine sv ha (r_move ha rfl) rfl rfl rfl ?_; clear ha a; intro a ha
  refine sv ha (r_lss ha ((i : Nat) : Int) 256 (decide (i < 256)) rfl rfl (decide_eq_decide.2 (by omega))) rfl rfl rfl ?_; clear ha a; intro a ha
  refine hK19 _ _ ?_; clear hK19 K18
  refine cond_if ha rfl (fun hc20 => ?_) (fun hc20 => ?_)
  · skip
    replace hc20 := of_decide_eq_true hc20
    refine wp_skip ?_
    refine hK17 _ _ ?_; clear hK17 K16
    refine wp_seq_k fun K21 hK22 => ?_
    refine wp_block ?_
    refine wp_seq_k fun K23 hK24 => ?_
    refine region ?_
    refine sv ha (r_move ha rfl) rfl rfl rfl ?_; clear ha a; intro a ha
    refine sv ha (r_indexArr (i := i) ha i Tryd.runUnderlying24 Tryd.sizeOf3 rfl rfl (by omega) (by omega)) rfl rfl rfl ?_; clear ha a; intro a ha
    refine sv ha (r_load ha rfl Tryd.isAgg3 (cell_of hb4 (get_map ei p 0 i (by rw [hp]; omega)))) rfl rfl rfl ?_; clear ha a; intro a ha
    refine sc ha (r_call ha [ei (p.getD i 0)] rfl Tryd.call43) rfl rfl rfl (c_rmod (p.getD i 0) _ ) ?_
    clear ha a
    rintro e w25 ⟨rfl, hBc⟩
    have hg := grown_call hBc; clear hBc
    replace hB := keepB0 hg hB
    replace hb4 := keepO0 hg hb4
    replace hovo := keepW0 hg hovo
    clear hg
    refine ⟨_, rfl, ?_⟩; intro a ha
    refine sv ha (r_assign ha rfl) rfl rfl rfl ?_; clear ha a; intro a ha
    refine hK24 _ _ ?_; clear hK24 K23
    refine wp_seq_k fun K26 hK27 => ?_
    refine region ?_
    refine sv ha (r_assign ha rfl) rfl rfl rfl ?_; clear ha a; intro a ha
    refine hK27 _ _ ?_; clear hK27 K26
    refine wp_block ?_
    have hzl := zmod_lt (p.getD i 0)
    refine loopG (fun (j : Nat) a w => ∃ vq : Value, (j ≤ d) ∧ (∀ j, vq.ownBlock = some j → j ≠ b4) ∧ Has 64 [(0, en d), (1, .agg ((p).map ei).toArray), (3, .pointer (some ⟨b4, 0, none⟩)), (4, .slice none 0 0), (13, en d), (14, .bool false), (15, .bool false), (16, en d), (17, .bool false), (18, .bool false), (6, en i), (19, en i), (20, .bool (decide (i < 256))), (23, en i), (24, .pointer (some ⟨b4, i, none⟩)), (25, ei (p.getD i 0)), (26, en (zmod (p.getD i 0))), (8, en j), (7, en (zmod (p.getD i 0) / 2 ^ j)), (5, vq)] a ∧ Below w0.heap.size w0 w ∧ w.heap[b4]? = some (.cells ((p).map ei).toArray 24 (0, 0)) ∧ w.ownsRow w0.heap.size 3 1 vq (pkA d p i ++ nbits (zmod (p.getD i 0)) j).length ((pkA d p i ++ nbits (zmod (p.getD i 0)) j).map en)) (fun j => d - j) 0 ⟨vo, (by omega), hnb_vo_b4, ha.to [0, 1, 3, 4, 13, 14, 15, 16, 17, 18, 6, 19, 20, 23, 24, 25, 26, 8, 7, 5] (by rw [Nat.pow_zero, Nat.div_one]; rfl), hB, hb4, (own_castl (own_len hovo) (by rw [nbits, List.append_nil]))⟩ ?_
    clear ha a hB hb4 hovo
    intro j a w28 ⟨vq, hkj, hnb_vq_b4, ha, hB, hb4, hovq⟩
    have hdv : zmod (p.getD i 0) / 2 ^ j ≤ zmod (p.getD i 0) := Nat.div_le_self _ _
    refine wp_seq_k fun K29 hK30 => ?_
    refine wp_seq_k fun K31 hK32 => ?_
    refine region ?_
    refine sv ha (r_move ha rfl) rfl rfl rfl ?_; clear ha a; intro a ha
    refine sv ha (r_move ha rfl) rfl rfl rfl ?_; clear ha a; intro a ha
    refine sv ha (r_lss ha ((j : Nat) : Int) ((d : Nat) : Int) (decide (j < d)) rfl rfl (decide_eq_decide.2 (by omega))) rfl rfl rfl ?_; clear ha a; intro a ha
    refine hK32 _ _ ?_; clear hK32 K31
    refine cond_if ha rfl (fun hc33 => ?_) (fun hc33 => ?_)
    · skip
      replace hc33 := of_decide_eq_true hc33
      refine wp_skip ?_
      refine hK30 _ _ ?_; clear hK30 K29
      refine wp_seq_k fun K34 hK35 => ?_
      refine wp_block ?_
      refine wp_seq_k fun K36 hK37 => ?_
      refine region ?_
      refine sv ha (r_move ha rfl) rfl rfl rfl ?_; clear ha a; intro a ha
      refine sv ha (r_move ha rfl) rfl rfl rfl ?_; clear ha a; intro a ha
      refine sv ha (rn_rem ha (zmod (p.getD i 0) / 2 ^ j) 2 rfl rfl (by omega)) rfl rfl rfl ?_; clear ha a; intro a ha
      refine sbuildS ha [(0, en ((zmod (p.getD i 0) / 2 ^ j) % 2))] (([(zmod (p.getD i 0) / 2 ^ j) % 2] : List Nat).map en) rfl Tryd.runUnderlying60 Tryd.sizeOf3 Tryd.zeroValue3 rfl rfl rfl rfl rfl ?_
      clear ha a; intro a w38 b39 ha hg hb39 hge39 hlt39
      have hz39 : w0.heap.size ≤ b39 := Nat.le_trans hB.size hge39
      have hne_hovq_b39 : ∀ j, Value.ownBlock vq = some j → j ≠ b39 := fun j hj => by have := (hovq.lt j hj).2; omega
      have hq4_39 : b4 < b39 := Nat.lt_of_lt_of_le (lt_of_block hb4) hge39
      replace hB := keepB0 hg hB
      replace hb4 := keepO0 hg hb4
      replace hovq := keepW0 hg hovq
      clear hg hge39 hlt39
      refine sapp (C := ((pkA d p i ++ nbits (zmod (p.getD i 0)) j)).map en) (D := (([(zmod (p.getD i 0) / 2 ^ j) % 2] : List Nat)).map en) ha rfl rfl Tryd.underlying60 rfl rfl rfl rfl hovq (Sl.ofBlockM hb39 (by rw [show ([(zmod (p.getD i 0) / 2 ^ j) % 2] : List Nat).length = 1 from rfl]) (by omega)) (one_en _) (by simp only [List.length_map, List.length_append, List.length_cons, List.length_nil, pkA_len, nbits_len]; show _ * 8 ≤ _; omega) (by simp only [List.length_map, List.length_append, List.length_cons, List.length_nil, pkA_len, nbits_len]; omega) hB.size rfl ?_
      clear ha a; intro a w41 v40 ha hg ho40 hnl40 hpl40
      rw [← List.map_append, List.length_map, show ([(zmod (p.getD i 0) / 2 ^ j) % 2] : List Nat).length = 1 from rfl] at ho40
      rw [List.length_map, show ([(zmod (p.getD i 0) / 2 ^ j) % 2] : List Nat).length = 1 from rfl] at hnl40
      have hne_40_b4 : ∀ j, v40.ownBlock = some j → j ≠ b4 := fun j hj => (hpl40 j hj).elim (fun h => hnb_vq_b4 j h) (fun h => by have := lt_of_block hb4; omega)
      have hne_40_b39 : ∀ j, v40.ownBlock = some j → j ≠ b39 := fun j hj => (hpl40 j hj).elim (fun h => hne_hovq_b39 j h) (fun h => by have := lt_of_block hb39; omega)
      replace hB := keepBR hg (own_row hovq) hB
      replace hb4 := keepOR hg (ne_of_ap hnb_vq_b4) hb4
      replace hb39 := keepOR hg (ne_of_ap hne_hovq_b39) hb39
      clear hg
      replace ho40 := own_castl (own_len ho40) (nbits_app _ _ _)
      refine sv ha (r_assign ha rfl) rfl rfl rfl ?_; clear ha a; intro a ha
      refine hK37 _ _ ?_; clear hK37 K36
      refine region ?_
      refine sv ha (r_move ha rfl) rfl rfl rfl ?_; clear ha a; intro a ha
      refine sv ha (v_of (rn_quo ha (zmod (p.getD i 0) / 2 ^ j) 2 rfl rfl (by omega) (by omega)) (congrArg en (half_pow _ _ : (zmod (p.getD i 0) / 2 ^ j) / 2 = zmod (p.getD i 0) / 2 ^ (j + 1)))) rfl rfl rfl ?_; clear ha a; intro a ha
      refine sv ha (r_assign ha rfl) rfl rfl rfl ?_; clear ha a; intro a ha
      refine hK35 _ _ ?_; clear hK35 K34
      refine region ?_
      refine sv ha (r_move ha rfl) rfl rfl rfl ?_; clear ha a; intro a ha
      refine sv ha (rn_add ha j 1 rfl rfl (by omega)) rfl rfl rfl ?_; clear ha a; intro a ha
      refine sv ha (r_assign ha rfl) rfl rfl rfl ?_; clear ha a; intro a ha
      exact ⟨j + 1, by omega, v40, (by omega), hne_40_b4, ha.to [0, 1, 3, 4, 13, 14, 15, 16, 17, 18, 6, 19, 20, 23, 24, 25, 26, 8, 7, 5] rfl, hB, hb4, (own_castl (own_len ho40) rfl)⟩
    · skip
      replace hc33 := of_decide_eq_false hc33
      refine wp_exit ?_
      obtain rfl : d = j := by omega
      refine hK22 _ _ ?_; clear hK30 K29 hK22 K21
      refine region ?_
      refine sv ha (r_move ha rfl) rfl rfl rfl ?_; clear ha a; intro a ha
      refine sv ha (rn_add ha i 1 rfl rfl (by omega)) rfl rfl rfl ?_; clear ha a; intro a ha
      refine sv ha (r_assign ha rfl) rfl rfl rfl ?_; clear ha a; intro a ha
      exact ⟨i + 1, by omega, vq, (by omega), hnb_vq_b4, ha.to [0, 1, 3, 4, 13, 14, 15, 16, 17, 18, 6, 5] rfl, hB, hb4, (own_castl (own_len hovq) rfl)⟩
  · skip
    replace hc20 := of_decide_eq_false hc20
    refine wp_exit ?_
    obtain rfl : i = 256 := by omega
    refine hK12 _ _ ?_; clear hK17 K16 hK12 K11
    refine wp_seq_k fun K42 hK43 => ?_
    refine region ?_
    refine sv ha (r_assign ha rfl) rfl rfl rfl ?_; clear ha a; intro a ha
    refine hK43 _ _ ?_; clear hK43 K42
    refine wp_seq_k fun K44 hK45 => ?_
    refine wp_seq_k fun K46 hK47 => ?_
    refine region ?_
    refine sv ha (r_assign ha rfl) rfl rfl rfl ?_; clear ha a; intro a ha
    refine hK47 _ _ ?_; clear hK47 K46
    refine wp_block ?_
    have hpl := pkA_len d p 256
    have hbt := pkA_bt d p 256
    refine loopG (fun (t : Nat) a w => ∃ vr : Value, (t ≤ (32 * d)) ∧ (∀ j, vr.ownBlock = some j → j ≠ b4) ∧ (∀ j, vr.ownBlock = some j → vo.ownBlock ≠ some j) ∧ Has 64 [(0, en d), (1, .agg ((p).map ei).toArray), (3, .pointer (some ⟨b4, 0, none⟩)), (4, .slice none 0 0), (13, en d), (14, .bool false), (15, .bool false), (16, en d), (17, .bool false), (18, .bool false), (6, en 256), (5, vo), (19, en 256), (20, .bool (decide (256 < 256))), (10, en (8 * t)), (9, vr)] a ∧ Below w0.heap.size w0 w ∧ w.heap[b4]? = some (.cells ((p).map ei).toArray 24 (0, 0)) ∧ w.ownsRow w0.heap.size 3 1 vo (pkA d p 256).length ((pkA d p 256).map en) ∧ w.ownsRow w0.heap.size 5 1 vr (opA (pkA d p 256) t).length ((opA (pkA d p 256) t).map e8)) (fun t => (32 * d) - t) 0 ⟨.slice none 0 0, (by omega), (fun j hj => (nil_own j hj).elim), (fun j hj _ => (nil_own j hj).elim), ha.to [0, 1, 3, 4, 13, 14, 15, 16, 17, 18, 6, 5, 19, 20, 10, 9] rfl, hB, hb4, hovo, (own_castl (l := ([] : List UInt8)) (World.ownsRow_nil _ _ _ _) rfl)⟩ ?_
    clear ha a hB hb4 hovo
    intro t a w48 ⟨vr, hkt, hnb_vr_b4, hds_vr_hovo, ha, hB, hb4, hovo, hovr⟩
    refine wp_seq_k fun K49 hK50 => ?_
    refine wp_seq_k fun K51 hK52 => ?_
    refine region ?_
    refine sv ha (r_move ha rfl) rfl rfl rfl ?_; clear ha a; intro a ha
    refine sv ha (r_move ha rfl) rfl rfl rfl ?_; clear ha a; intro a ha
    refine sv ha (r_lenS ha Tryd.runUnderlying60 (Sl.ofOwns hovo) rfl (by rw [List.length_map])) rfl rfl rfl ?_; clear ha a; intro a ha
    refine sv ha (v_of (r_lss ha ((8 * t : Nat) : Int) (((pkA d p 256).length : Nat) : Int) (decide (8 * t < (pkA d p 256).length)) rfl rfl (decide_eq_decide.2 (by omega))) (congrArg Value.bool (by rw [hpl] : decide (8 * t < (pkA d p 256).length) = decide (8 * t < d * 256)))) rfl rfl rfl ?_; clear ha a; intro a ha
    refine hK52 _ _ ?_; clear hK52 K51
    refine cond_if ha rfl (fun hc53 => ?_) (fun hc53 => ?_)
    · skip
      replace hc53 := of_decide_eq_true hc53
      refine wp_skip ?_
      refine hK50 _ _ ?_; clear hK50 K49
      refine wp_seq_k fun K54 hK55 => ?_
      refine wp_block ?_
      refine wp_seq_k fun K56 hK57 => ?_
      refine region ?_
      refine sv ha (r_assign ha rfl) rfl rfl rfl ?_; clear ha a; intro a ha
      refine hK57 _ _ ?_; clear hK57 K56
      refine wp_seq_k fun K58 hK59 => ?_
      refine wp_seq_k fun K60 hK61 => ?_
      refine region ?_
      refine sv ha (r_assign ha rfl) rfl rfl rfl ?_; clear ha a; intro a ha
      refine hK61 _ _ ?_; clear hK61 K60
      refine wp_block ?_
      refine loopG (fun (m : Nat) a w => (m ≤ 8) ∧ Has 64 [(0, en d), (1, .agg ((p).map ei).toArray), (3, .pointer (some ⟨b4, 0, none⟩)), (4, .slice none 0 0), (13, en d), (14, .bool false), (15, .bool false), (16, en d), (17, .bool false), (18, .bool false), (6, en 256), (5, vo), (19, en 256), (20, .bool (decide (256 < 256))), (10, en (8 * t)), (9, vr), (39, en (8 * t)), (40, vo), (41, en ((pkA d p 256).length)), (42, .bool (decide (8 * t < d * 256))), (12, ei (7 - ((m : Nat) : Int))), (11, en (horD (pkA d p 256) (8 * t) 8 m))] a ∧ Below w0.heap.size w0 w ∧ w.heap[b4]? = some (.cells ((p).map ei).toArray 24 (0, 0)) ∧ w.ownsRow w0.heap.size 3 1 vo (pkA d p 256).length ((pkA d p 256).map en) ∧ w.ownsRow w0.heap.size 5 1 vr (opA (pkA d p 256) t).length ((opA (pkA d p 256) t).map e8)) (fun m => 8 - m) 0 ⟨(by omega), ha.to [0, 1, 3, 4, 13, 14, 15, 16, 17, 18, 6, 5, 19, 20, 10, 9, 39, 40, 41, 42, 12, 11] rfl, hB, hb4, hovo, hovr⟩ ?_
      clear ha a hB hb4 hovo hovr
      intro m a w62 ⟨hkm, ha, hB, hb4, hovo, hovr⟩
      have hh := horD_le _ hbt (8 * t) 8 m (by omega)
      have hb1 := hbt (8 * t + (8 - 1 - m))
      refine wp_seq_k fun K63 hK64 => ?_
      refine wp_seq_k fun K65 hK66 => ?_
      refine region ?_
      refine sv ha (r_move ha rfl) rfl rfl rfl ?_; clear ha a; intro a ha
      refine sv ha (r_geq ha (7 - ((m : Nat) : Int)) 0 (decide (7 - ((m : Nat) : Int) ≥ 0)) rfl rfl (decide_eq_decide.2 (by omega))) rfl rfl rfl ?_; clear ha a; intro a ha
      refine hK66 _ _ ?_; clear hK66 K65
      refine cond_if ha rfl (fun hc67 => ?_) (fun hc67 => ?_)
      · skip
        replace hc67 := of_decide_eq_true hc67
        refine wp_skip ?_
        refine hK64 _ _ ?_; clear hK64 K63
        refine wp_seq_k fun K68 hK69 => ?_
        refine wp_block ?_
        refine region ?_
        refine sv ha (r_move ha rfl) rfl rfl rfl ?_; clear ha a; intro a ha
        refine sv ha (rn_mul ha (horD (pkA d p 256) (8 * t) 8 m) 2 rfl rfl (by omega)) rfl rfl rfl ?_; clear ha a; intro a ha
        refine sv ha (r_move ha rfl) rfl rfl rfl ?_; clear ha a; intro a ha
        refine sv ha (r_move ha rfl) rfl rfl rfl ?_; clear ha a; intro a ha
        refine sv ha (r_move ha rfl) rfl rfl rfl ?_; clear ha a; intro a ha
        refine sv ha (n_of (r_add ha ((8 * t : Nat) : Int) (7 - ((m : Nat) : Int)) rfl rfl (by omega)) (k := 8 * t + (8 - 1 - m)) (by omega)) rfl rfl rfl ?_; clear ha a; intro a ha
        refine sv ha (r_indexS (i := 8 * t + (8 - 1 - m)) ha Tryd.runUnderlying60 Tryd.sizeOf3 (Sl.ofOwns hovo) (C := (pkA d p 256).map en) rfl rfl (by rw [List.length_map, pkA_len]; omega)) rfl rfl rfl ?_; clear ha a; intro a ha
        refine sv ha (r_loadS ha rfl Tryd.isAgg3 (Sl.ofOwns hovo) (get_map en (pkA d p 256) 0 (8 * t + (8 - 1 - m)) (by rw [pkA_len]; omega))) rfl rfl rfl ?_; clear ha a; intro a ha
        refine sv ha (rn_add ha ((horD (pkA d p 256) (8 * t) 8 m) * 2) ((pkA d p 256).getD (8 * t + (8 - 1 - m)) 0) rfl rfl (by omega)) rfl rfl rfl ?_; clear ha a; intro a ha
        refine sv ha (r_assign ha rfl) rfl rfl rfl ?_; clear ha a; intro a ha
        refine hK69 _ _ ?_; clear hK69 K68
        refine region ?_
        refine sv ha (r_move ha rfl) rfl rfl rfl ?_; clear ha a; intro a ha
        refine sv ha (z_of (r_sub ha (7 - ((m : Nat) : Int)) 1 rfl rfl (by omega)) (k := 7 - ((m + 1 : Nat) : Int)) (by omega)) rfl rfl rfl ?_; clear ha a; intro a ha
        refine sv ha (r_assign ha rfl) rfl rfl rfl ?_; clear ha a; intro a ha
        exact ⟨m + 1, by omega, (by omega), ha.to [0, 1, 3, 4, 13, 14, 15, 16, 17, 18, 6, 5, 19, 20, 10, 9, 39, 40, 41, 42, 12, 11] rfl, hB, hb4, hovo, hovr⟩
      · skip
        replace hc67 := of_decide_eq_false hc67
        refine wp_exit ?_
        obtain rfl : m = 8 := by omega
        refine hK59 _ _ ?_; clear hK64 K63 hK59 K58
        refine region ?_
        refine sv ha (r_move ha rfl) rfl rfl rfl ?_; clear ha a; intro a ha
        refine sv ha (r_move ha rfl) rfl rfl rfl ?_; clear ha a; intro a ha
        refine sv ha (r_conv_n_u8w ha (horD (pkA d p 256) (8 * t) 8 8) Tryd.runUnderlying3 Tryd.runUnderlying5 rfl) rfl rfl rfl ?_; clear ha a; intro a ha
        refine sbuildS ha [(0, e8 (UInt8.ofNat (horD (pkA d p 256) (8 * t) 8 8)))] (([UInt8.ofNat (horD (pkA d p 256) (8 * t) 8 8)] : List UInt8).map e8) rfl Tryd.runUnderlying22 Tryd.sizeOf5 Tryd.zeroValue5 rfl rfl rfl rfl rfl ?_
        clear ha a; intro a w70 b71 ha hg hb71 hge71 hlt71
        have hz71 : w0.heap.size ≤ b71 := Nat.le_trans hB.size hge71
        have hne_hovo_b71 : ∀ j, Value.ownBlock vo = some j → j ≠ b71 := fun j hj => by have := (hovo.lt j hj).2; omega
        have hne_hovr_b71 : ∀ j, Value.ownBlock vr = some j → j ≠ b71 := fun j hj => by have := (hovr.lt j hj).2; omega
        have hq4_71 : b4 < b71 := Nat.lt_of_lt_of_le (lt_of_block hb4) hge71
        replace hB := keepB0 hg hB
        replace hb4 := keepO0 hg hb4
        replace hovo := keepW0 hg hovo
        replace hovr := keepW0 hg hovr
        clear hg hge71 hlt71
        refine sapp (C := ((opA (pkA d p 256) t)).map e8) (D := (([UInt8.ofNat (horD (pkA d p 256) (8 * t) 8 8)] : List UInt8)).map e8) ha rfl rfl Tryd.underlying22 rfl rfl rfl rfl hovr (Sl.ofBlockM hb71 (by rw [show ([UInt8.ofNat (horD (pkA d p 256) (8 * t) 8 8)] : List UInt8).length = 1 from rfl]) (by omega)) (one_e8 _) (by simp only [List.length_map, List.length_append, List.length_cons, List.length_nil, opA_len]; show _ * 1 ≤ _; omega) (by simp only [List.length_map, List.length_append, List.length_cons, List.length_nil, opA_len]; omega) hB.size rfl ?_
        clear ha a; intro a w73 v72 ha hg ho72 hnl72 hpl72
        rw [← List.map_append, List.length_map, show ([UInt8.ofNat (horD (pkA d p 256) (8 * t) 8 8)] : List UInt8).length = 1 from rfl] at ho72
        rw [List.length_map, show ([UInt8.ofNat (horD (pkA d p 256) (8 * t) 8 8)] : List UInt8).length = 1 from rfl] at hnl72
        have hds_ho72_hovo : ∀ j, v72.ownBlock = some j → vo.ownBlock ≠ some j := fun j h1 h2 => (hpl72 j h1).elim (fun h => hds_vr_hovo j h h2) (fun h => by have h4 := (fun j hj => (hovo.lt j hj).2) j h2; omega)
        have hne_72_b4 : ∀ j, v72.ownBlock = some j → j ≠ b4 := fun j hj => (hpl72 j hj).elim (fun h => hnb_vr_b4 j h) (fun h => by have := lt_of_block hb4; omega)
        have hne_72_b71 : ∀ j, v72.ownBlock = some j → j ≠ b71 := fun j hj => (hpl72 j hj).elim (fun h => hne_hovr_b71 j h) (fun h => by have := lt_of_block hb71; omega)
        replace hB := keepBR hg (own_row hovr) hB
        replace hb4 := keepOR hg (ne_of_ap hnb_vr_b4) hb4
        replace hb71 := keepOR hg (ne_of_ap hne_hovr_b71) hb71
        replace hovo := keepWR hg hds_vr_hovo hovo
        clear hg
        refine sv ha (r_assign ha rfl) rfl rfl rfl ?_; clear ha a; intro a ha
        refine hK55 _ _ ?_; clear hK55 K54
        refine region ?_
        refine sv ha (r_move ha rfl) rfl rfl rfl ?_; clear ha a; intro a ha
        refine sv ha (rn_add ha (8 * t) 8 rfl rfl (by omega)) rfl rfl rfl ?_; clear ha a; intro a ha
        refine sv ha (r_assign ha rfl) rfl rfl rfl ?_; clear ha a; intro a ha
        exact ⟨t + 1, by omega, v72, (by omega), hne_72_b4, hds_ho72_hovo, ha.to [0, 1, 3, 4, 13, 14, 15, 16, 17, 18, 6, 5, 19, 20, 10, 9] rfl, hB, hb4, hovo, (own_castl (own_len ho72) rfl)⟩
    · skip
      replace hc53 := of_decide_eq_false hc53
      refine wp_exit ?_
      obtain rfl : t = (32 * d) := by omega
      refine hK45 _ _ ?_; clear hK50 K49 hK45 K44
      refine wp_seq_k fun K74 hK75 => ?_
      refine region ?_
      refine sv ha (r_move ha rfl) rfl rfl rfl ?_; clear ha a; intro a ha
      refine sv ha (r_assign ha rfl) rfl rfl rfl ?_; clear ha a; intro a ha
      refine hK75 _ _ ?_; clear hK75 K74
      refine wp_ret ?_
      repeat (first | (with_reducible refine t_ret ?_) | (with_reducible refine x_ret ?_))
      exact ret1 ha Tryd.results21 rfl ⟨_, rfl, hB, (Sl.castM (l := opA (pkA d p 256) (32 * d)) (Sl.ofOwns hovr) (pack_eq d hd.1 p)), (own_row hovr)⟩

theorem c_rpack0 (d : Int) (p : List Int) (w0 : World) (hx : ¬ (1 ≤ d ∧ d ≤ 12)) (hp : p.length = 256) :
    Calls Tryd.prog 21 #[ei d, .agg ((p).map ei).toArray] w0 fun e w' => ∃ u0 : Value, e = .returned (u0) ∧ Below w0.heap.size w0 w' ∧ Sl w' u0 ((([] : List UInt8)).map e8) ∧ (∀ j, u0.ownBlock = some j → w0.heap.size ≤ j) := by
  refine enter (args := [_, _]) Tryd.func21 rfl Tryd.ntmps21 rfl ?_
  intro a ha
  have hB := Below.refl w0.heap.size w0
  refine wp_seq_k fun K1 hK2 => ?_
  refine region ?_
  refine sbox ha rfl rfl ?_
  clear ha a; intro a w3 b4 ha hg hb4 hge4 hlt4
  have hz4 : w0.heap.size ≤ b4 := Nat.le_trans hB.size hge4
  replace hB := keepB0 hg hB
  clear hg hge4 hlt4
  refine sv ha (r_assign ha rfl) rfl rfl rfl ?_; clear ha a; intro a ha
  refine hK2 _ _ ?_; clear hK2 K1
  refine wp_seq_k fun K5 hK6 => ?_
  refine wp_seq_k fun K7 hK8 => ?_
  refine region ?_
  refine sv ha (r_move ha rfl) rfl rfl rfl ?_; clear ha a; intro a ha
  refine sv ha (r_lss ha d 1 (decide (d < 1)) rfl rfl (decide_eq_decide.2 (by omega))) rfl rfl rfl ?_; clear ha a; intro a ha
  refine sv ha (r_move ha rfl) rfl rfl rfl ?_; clear ha a; intro a ha
  cases hq9 : (decide (d < 1))
  all_goals rw [hq9] at ha
  case false =>
    replace hq9 := of_decide_eq_false hq9
    refine svg ha (r_move ha rfl) rfl rfl rfl rfl rfl ?_; clear ha a; intro a ha
    refine svg ha (r_gtr ha d 12 true rfl rfl (decide_eq_true (by omega))) rfl rfl rfl rfl rfl ?_; clear ha a; intro a ha
    refine sv ha (r_pick ha false rfl rfl) rfl rfl rfl ?_; clear ha a; intro a ha
    refine hK8 _ _ ?_; clear hK8 K7
    refine cond_t ha rfl ?_
    refine wp_seq_k fun K10 hK11 => ?_
    refine region ?_
    refine sv ha (r_assign ha rfl) rfl rfl rfl ?_; clear ha a; intro a ha
    refine hK11 _ _ ?_; clear hK11 K10
    refine wp_ret ?_
    repeat (first | (with_reducible refine t_ret ?_) | (with_reducible refine x_ret ?_))
    exact ret1 ha Tryd.results21 rfl ⟨_, rfl, hB, (Sl.castM (l := ([] : List UInt8)) (Sl.nil _) rfl), (fun j hj => (nil_own j hj).elim)⟩
  case true =>
    replace hq9 := of_decide_eq_true hq9
    refine sno ha rfl rfl rfl rfl rfl rfl ?_; clear ha a; intro a ha
    refine sno ha rfl rfl rfl rfl rfl rfl ?_; clear ha a; intro a ha
    refine sv ha (r_pick ha true rfl rfl) rfl rfl rfl ?_; clear ha a; intro a ha
    refine hK8 _ _ ?_; clear hK8 K7
    refine cond_t ha rfl ?_
    refine wp_seq_k fun K12 hK13 => ?_
    refine region ?_
    refine sv ha (r_assign ha rfl) rfl rfl rfl ?_; clear ha a; intro a ha
    refine hK13 _ _ ?_; clear hK13 K12
    refine wp_ret ?_
    repeat (first | (with_reducible refine t_ret ?_) | (with_reducible refine x_ret ?_))
    exact ret1 ha Tryd.results21 rfl ⟨_, rfl, hB, (Sl.castM (l := ([] : List UInt8)) (Sl.nil _) rfl), (fun j hj => (nil_own j hj).elim)⟩

theorem c_rpackZ (d : Int) (p : List Int) (w0 : World) (hp : p.length = 256) :
    Calls Tryd.prog 21 #[ei d, .agg ((p).map ei).toArray] w0 fun e w' => ∃ u0 : Value, e = .returned (u0) ∧ Below w0.heap.size w0 w' ∧ Sl w' u0 ((pack d p).map e8) ∧ (∀ j, u0.ownBlock = some j → w0.heap.size ≤ j) := by
  by_cases h : 1 ≤ d ∧ d ≤ 12
  · obtain ⟨n, rfl⟩ := Int.eq_ofNat_of_zero_le (show 0 ≤ d by omega)
    refine (c_rpack1 n p w0 (by omega) hp).mono fun e w h' => ?_
    rw [pack, if_pos h]; exact h'
  · refine (c_rpack0 d p w0 h hp).mono fun e w h' => ?_
    rw [pack, if_neg h]; exact h'

theorem c_runpack1 (d : Nat) (v : Value) (b : List UInt8) (w0 : World) (hd : 1 ≤ d ∧ d ≤ 12) (hs : Sl w0 v (b.map e8)) (hb : b.length = 32 * d) :
    Calls Tryd.prog 19 #[en d, v] w0 fun e w' => e = .returned (.tuple #[.agg ((unA d b 256).map ei).toArray, en 0]) ∧ Below w0.heap.size w0 w' := by
  refine enter (args := [_, _]) Tryd.func19 rfl Tryd.ntmps19 rfl ?_
  intro a ha
  have hB := Below.refl w0.heap.size w0
  refine wp_seq_k fun K1 hK2 => ?_
  refine region ?_
  refine salloc ha zero_24S3 rfl ?_
  clear ha a; intro a w3 b4 ha hg hb4 hge4 hlt4
  have hz4 : w0.heap.size ≤ b4 := Nat.le_trans hB.size hge4
  replace hB := keepB0 hg hB
  clear hg hge4 hlt4
  refine sv ha (r_assign ha rfl) rfl rfl rfl ?_; clear ha a; intro a ha
  refine hK2 _ _ ?_; clear hK2 K1
  refine wp_seq_k fun K5 hK6 => ?_
  refine region ?_
  refine salloc ha zero_24S3 rfl ?_
  clear ha a; intro a w7 b8 ha hg hb8 hge8 hlt8
  have hz8 : w0.heap.size ≤ b8 := Nat.le_trans hB.size hge8
  have hq4_8 : b4 < b8 := Nat.lt_of_lt_of_le (lt_of_block hb4) hge8
  replace hB := keepB0 hg hB
  replace hb4 := keepO0 hg hb4
  clear hg hge8 hlt8
  refine hK6 _ _ ?_; clear hK6 K5
  refine wp_seq_k fun K9 hK10 => ?_
  refine wp_seq_k fun K11 hK12 => ?_
  refine region ?_
  refine sv ha (r_move ha rfl) rfl rfl rfl ?_; clear ha a; intro a ha
  refine sv ha (r_lss ha ((d : Nat) : Int) 1 false rfl rfl (decide_eq_false (by omega))) rfl rfl rfl ?_; clear ha a; intro a ha
  refine sv ha (r_move ha rfl) rfl rfl rfl ?_; clear ha a; intro a ha
  refine svg ha (r_move ha rfl) rfl rfl rfl rfl rfl ?_; clear ha a; intro a ha
  refine svg ha (r_gtr ha ((d : Nat) : Int) 12 false rfl rfl (decide_eq_false (by omega))) rfl rfl rfl rfl rfl ?_; clear ha a; intro a ha
  refine sv ha (r_pick ha false rfl rfl) rfl rfl rfl ?_; clear ha a; intro a ha
  refine sv ha (r_move ha rfl) rfl rfl rfl ?_; clear ha a; intro a ha
  refine svg ha (r_move ha rfl) rfl rfl rfl rfl rfl ?_; clear ha a; intro a ha
  refine svg ha (r_lenS ha Tryd.runUnderlying22 (hs.below hB) rfl (by rw [List.length_map])) rfl rfl rfl rfl rfl ?_; clear ha a; intro a ha
  refine svg ha (r_move ha rfl) rfl rfl rfl rfl rfl ?_; clear ha a; intro a ha
  refine svg ha (rn_mul ha 32 d rfl rfl (by omega)) rfl rfl rfl rfl rfl ?_; clear ha a; intro a ha
  refine svg ha (r_neq ha ((b.length : Nat) : Int) ((32 * d : Nat) : Int) false rfl rfl (decide_eq_false (by omega))) rfl rfl rfl rfl rfl ?_; clear ha a; intro a ha
  refine sv ha (r_pick ha false rfl rfl) rfl rfl rfl ?_; clear ha a; intro a ha
  refine hK12 _ _ ?_; clear hK12 K11
  refine cond_f ha rfl ?_
  refine wp_skip ?_
  refine hK10 _ _ ?_; clear hK10 K9
  refine wp_seq_k fun K13 hK14 => ?_
  refine region ?_
  refine sv ha (r_move ha rfl) rfl rfl rfl ?_; clear ha a; intro a ha
  refine sc ha (r_call ha [v] rfl Tryd.call37) rfl rfl rfl (c_rbits v b _ (hs.below hB) (by omega)) ?_
  clear ha a
  rintro e w15 ⟨u16, rfl, hBc, hs16, hd16⟩
  have hg := grown_call hBc; clear hBc
  have hnb_hs16_b4 : ∀ j, u16.ownBlock = some j → j ≠ b4 := fun j hj => by have h1 := hd16 j hj; have h2 := lt_of_block hb4; omega
  have hnb_hs16_b8 : ∀ j, u16.ownBlock = some j → j ≠ b8 := fun j hj => by have h1 := hd16 j hj; have h2 := lt_of_block hb8; omega
  replace hd16 : ∀ j, u16.ownBlock = some j → w0.heap.size ≤ j := fun j hj => Nat.le_trans hB.size (hd16 j hj)
  replace hB := keepB0 hg hB
  replace hb4 := keepO0 hg hb4
  replace hb8 := keepO0 hg hb8
  clear hg
  refine ⟨_, rfl, ?_⟩; intro a ha
  refine sv ha (r_assign ha rfl) rfl rfl rfl ?_; clear ha a; intro a ha
  refine hK14 _ _ ?_; clear hK14 K13
  refine wp_seq_k fun K17 hK18 => ?_
  refine wp_seq_k fun K19 hK20 => ?_
  refine region ?_
  refine sv ha (r_assign ha rfl) rfl rfl rfl ?_; clear ha a; intro a ha
  refine hK20 _ _ ?_; clear hK20 K19
  refine wp_block ?_
  have hbt := rbits_bt b
  refine loopG (fun (i : Nat) a w => (i ≤ 256) ∧ Has 53 [(0, en d), (1, v), (4, .pointer (some ⟨b4, 0, none⟩)), (5, .int .i64 0), (6, .pointer (some ⟨b8, 0, none⟩)), (11, en d), (12, .bool false), (13, .bool false), (14, en d), (15, .bool false), (16, .bool false), (17, .bool false), (18, v), (19, en b.length), (20, en d), (21, en (32 * d)), (22, .bool false), (23, .bool false), (25, v), (26, u16), (7, u16), (8, en i)] a ∧ Below w0.heap.size w0 w ∧ w.heap[b4]? = some (.cells ((List.replicate 256 (0 : Int)).map ei).toArray 24 (0, 0)) ∧ w.heap[b8]? = some (.cells ((ruA (rbits b) d i).map ei).toArray 24 (0, 0)) ∧ Sl w u16 ((rbits b).map en)) (fun i => 256 - i) 0 ⟨(by omega), ha.to [0, 1, 4, 5, 6, 11, 12, 13, 14, 15, 16, 17, 18, 19, 20, 21, 22, 23, 25, 26, 7, 8] rfl, hB, hb4, hb8, hs16⟩ ?_
  clear ha a hB hb4 hb8 hs16
  intro i a w21 ⟨hki, ha, hB, hb4, hb8, hs16⟩
  refine wp_seq_k fun K22 hK23 => ?_
  refine wp_seq_k fun K24 hK25 => ?_
  refine region ?_
  refine sv ha (r_move ha rfl) rfl rfl rfl ?_; clear ha a; intro a ha
  refine sv ha (r_lss ha ((i : Nat) : Int) 256 (decide (i < 256)) rfl rfl (decide_eq_decide.2 (by omega))) rfl rfl rfl ?_; clear ha a; intro a ha
  refine hK25 _ _ ?_; clear hK25 K24
  refine cond_if ha rfl (fun hc26 => ?_) (fun hc26 => ?_)
  · skip
    replace hc26 := of_decide_eq_true hc26
    refine wp_skip ?_
    refine hK23 _ _ ?_; clear hK23 K22
    refine wp_seq_k fun K27 hK28 => ?_
    refine wp_block ?_
    refine wp_seq_k fun K29 hK30 => ?_
    refine region ?_
    refine sv ha (r_assign ha rfl) rfl rfl rfl ?_; clear ha a; intro a ha
    refine hK30 _ _ ?_; clear hK30 K29
    refine wp_seq_k fun K31 hK32 => ?_
    refine wp_seq_k fun K33 hK34 => ?_
    refine region ?_
    refine sv ha (r_move ha rfl) rfl rfl rfl ?_; clear ha a; intro a ha
    refine sv ha (z_of (r_sub ha ((d : Nat) : Int) 1 rfl rfl (by omega)) (k := ((d : Nat) : Int) - 1 - ((0 : Nat) : Int)) (by omega)) rfl rfl rfl ?_; clear ha a; intro a ha
    refine sv ha (r_assign ha rfl) rfl rfl rfl ?_; clear ha a; intro a ha
    refine hK34 _ _ ?_; clear hK34 K33
    refine wp_block ?_
    have hmm := Nat.mul_le_mul_left d (show i + 1 ≤ 256 by omega)
    rw [Nat.mul_succ] at hmm
    refine loopG (fun (m : Nat) a w => (m ≤ d) ∧ Has 53 [(0, en d), (1, v), (4, .pointer (some ⟨b4, 0, none⟩)), (5, .int .i64 0), (6, .pointer (some ⟨b8, 0, none⟩)), (11, en d), (12, .bool false), (13, .bool false), (14, en d), (15, .bool false), (16, .bool false), (17, .bool false), (18, v), (19, en b.length), (20, en d), (21, en (32 * d)), (22, .bool false), (23, .bool false), (25, v), (26, u16), (7, u16), (8, en i), (27, en i), (28, .bool (decide (i < 256))), (31, en d), (32, ei (((d : Nat) : Int) - 1 - ((0 : Nat) : Int))), (10, ei (((d : Nat) : Int) - 1 - ((m : Nat) : Int))), (9, en (horD (rbits b) (d * i) d m))] a ∧ Below w0.heap.size w0 w ∧ w.heap[b4]? = some (.cells ((List.replicate 256 (0 : Int)).map ei).toArray 24 (0, 0)) ∧ w.heap[b8]? = some (.cells ((ruA (rbits b) d i).map ei).toArray 24 (0, 0)) ∧ Sl w u16 ((rbits b).map en)) (fun m => d - m) 0 ⟨(by omega), ha.to [0, 1, 4, 5, 6, 11, 12, 13, 14, 15, 16, 17, 18, 19, 20, 21, 22, 23, 25, 26, 7, 8, 27, 28, 31, 32, 10, 9] rfl, hB, hb4, hb8, hs16⟩ ?_
    clear ha a hB hb4 hb8 hs16
    intro m a w35 ⟨hkm, ha, hB, hb4, hb8, hs16⟩
    have hh := horD_le _ hbt (d * i) d m (by omega)
    have hb1 := hbt (d * i + (d - 1 - m))
    refine wp_seq_k fun K36 hK37 => ?_
    refine wp_seq_k fun K38 hK39 => ?_
    refine region ?_
    refine sv ha (r_move ha rfl) rfl rfl rfl ?_; clear ha a; intro a ha
    refine sv ha (r_geq ha (((d : Nat) : Int) - 1 - ((m : Nat) : Int)) 0 (decide (((d : Nat) : Int) - 1 - ((m : Nat) : Int) ≥ 0)) rfl rfl (decide_eq_decide.2 (by omega))) rfl rfl rfl ?_; clear ha a; intro a ha
    refine hK39 _ _ ?_; clear hK39 K38
    refine cond_if ha rfl (fun hc40 => ?_) (fun hc40 => ?_)
    · skip
      replace hc40 := of_decide_eq_true hc40
      refine wp_skip ?_
      refine hK37 _ _ ?_; clear hK37 K36
      refine wp_seq_k fun K41 hK42 => ?_
      refine wp_block ?_
      refine region ?_
      refine sv ha (r_move ha rfl) rfl rfl rfl ?_; clear ha a; intro a ha
      refine sv ha (rn_mul ha (horD (rbits b) (d * i) d m) 2 rfl rfl (by omega)) rfl rfl rfl ?_; clear ha a; intro a ha
      refine sv ha (r_move ha rfl) rfl rfl rfl ?_; clear ha a; intro a ha
      refine sv ha (r_move ha rfl) rfl rfl rfl ?_; clear ha a; intro a ha
      refine sv ha (r_move ha rfl) rfl rfl rfl ?_; clear ha a; intro a ha
      refine sv ha (rn_mul ha d i rfl rfl (by omega)) rfl rfl rfl ?_; clear ha a; intro a ha
      refine sv ha (r_move ha rfl) rfl rfl rfl ?_; clear ha a; intro a ha
      refine sv ha (n_of (r_add ha ((d * i : Nat) : Int) (((d : Nat) : Int) - 1 - ((m : Nat) : Int)) rfl rfl (by omega)) (k := d * i + (d - 1 - m)) (by omega)) rfl rfl rfl ?_; clear ha a; intro a ha
      refine sv ha (r_indexS (i := d * i + (d - 1 - m)) ha Tryd.runUnderlying60 Tryd.sizeOf3 hs16 (C := (rbits b).map en) rfl rfl (by rw [List.length_map, rbits_len]; omega)) rfl rfl rfl ?_; clear ha a; intro a ha
      refine sv ha (r_loadS ha rfl Tryd.isAgg3 hs16 (get_map en (rbits b) 0 (d * i + (d - 1 - m)) (by rw [rbits_len]; omega))) rfl rfl rfl ?_; clear ha a; intro a ha
      refine sv ha (rn_add ha ((horD (rbits b) (d * i) d m) * 2) ((rbits b).getD (d * i + (d - 1 - m)) 0) rfl rfl (by omega)) rfl rfl rfl ?_; clear ha a; intro a ha
      refine sv ha (r_assign ha rfl) rfl rfl rfl ?_; clear ha a; intro a ha
      refine hK42 _ _ ?_; clear hK42 K41
      refine region ?_
      refine sv ha (r_move ha rfl) rfl rfl rfl ?_; clear ha a; intro a ha
      refine sv ha (z_of (r_sub ha (((d : Nat) : Int) - 1 - ((m : Nat) : Int)) 1 rfl rfl (by omega)) (k := ((d : Nat) : Int) - 1 - ((m + 1 : Nat) : Int)) (by omega)) rfl rfl rfl ?_; clear ha a; intro a ha
      refine sv ha (r_assign ha rfl) rfl rfl rfl ?_; clear ha a; intro a ha
      exact ⟨m + 1, by omega, (by omega), ha.to [0, 1, 4, 5, 6, 11, 12, 13, 14, 15, 16, 17, 18, 19, 20, 21, 22, 23, 25, 26, 7, 8, 27, 28, 31, 32, 10, 9] rfl, hB, hb4, hb8, hs16⟩
    · skip
      replace hc40 := of_decide_eq_false hc40
      refine wp_exit ?_
      obtain rfl : d = m := by omega
      refine hK32 _ _ ?_; clear hK37 K36 hK32 K31
      refine region ?_
      refine sv ha (r_move ha rfl) rfl rfl rfl ?_; clear ha a; intro a ha
      refine sv ha (r_move ha rfl) rfl rfl rfl ?_; clear ha a; intro a ha
      refine sv ha (rn_rem ha (horD (rbits b) (d * i) d d) 3329 rfl rfl (by omega)) rfl rfl rfl ?_; clear ha a; intro a ha
      refine sv ha (r_indexArr (i := i) ha i Tryd.runUnderlying24 Tryd.sizeOf3 rfl rfl (by omega) (by omega)) rfl rfl rfl ?_; clear ha a; intro a ha
      refine sstore ha (v := ei (((horD (rbits b) (d * i) d d) % 3329 : Nat) : Int)) rfl rfl rfl rfl Tryd.sizeOf3 hb8 (by rw [List.length_map, ruA_len]; omega) ?_
      clear ha a; intro a w43 ha hg hb8'
      rw [set_map] at hb8'
      clear hb8; have hb8 := hb8'; clear hb8'
      replace hB := keepB1 hg (by omega) hB
      replace hb4 := keepO1 hg (by omega) hb4
      replace hs16 := keepS1 hg (ne_of_ap hnb_hs16_b8) hs16
      clear hg
      refine hK28 _ _ ?_; clear hK28 K27
      refine region ?_
      refine sv ha (r_move ha rfl) rfl rfl rfl ?_; clear ha a; intro a ha
      refine sv ha (rn_add ha i 1 rfl rfl (by omega)) rfl rfl rfl ?_; clear ha a; intro a ha
      refine sv ha (r_assign ha rfl) rfl rfl rfl ?_; clear ha a; intro a ha
      exact ⟨i + 1, by omega, (by omega), ha.to [0, 1, 4, 5, 6, 11, 12, 13, 14, 15, 16, 17, 18, 19, 20, 21, 22, 23, 25, 26, 7, 8] rfl, hB, hb4, hb8, hs16⟩
  · skip
    replace hc26 := of_decide_eq_false hc26
    refine wp_exit ?_
    obtain rfl : i = 256 := by omega
    refine hK18 _ _ ?_; clear hK23 K22 hK18 K17
    refine wp_seq_k fun K44 hK45 => ?_
    refine region ?_
    refine sv ha (r_loadR ha rfl Tryd.isAgg24 Tryd.sizeOf24 (C := (ruA (rbits b) d 256).map ei) (by rw [List.length_map, ruA_len]) (cells_all hb8)) rfl rfl rfl ?_; clear ha a; intro a ha
    refine sstoreW ha rfl rfl (one_ei _) Tryd.sizeOf24 (by rw [List.length_map, ruA_len]) hb4 (by rw [List.length_map, List.length_replicate]) ?_
    clear ha a; intro a w46 ha hg hb4'
    clear hb4; have hb4 := hb4'; clear hb4'
    replace hB := keepB1 hg (by omega) hB
    replace hb8 := keepO1 hg (by omega) hb8
    replace hs16 := keepS1 hg (ne_of_ap hnb_hs16_b4) hs16
    clear hg
    refine sv ha (r_assign ha rfl) rfl rfl rfl ?_; clear ha a; intro a ha
    refine hK45 _ _ ?_; clear hK45 K44
    refine wp_ret ?_
    repeat (first | (with_reducible refine t_ret ?_) | (with_reducible refine x_ret ?_))
    exact retCT _ ha Tryd.results19 rfl rfl hb4 Tryd.underlying24 rfl (by rw [List.length_map, ruA_len]; kernel_rfl) ⟨(by rw [ruA_eq b d hb 256 (by omega)]; rfl), hB⟩

theorem c_runpack0 (d : Int) (v : Value) (b : List UInt8) (w0 : World) (hs : Sl w0 v (b.map e8)) (hx : ¬ (1 ≤ d ∧ d ≤ 12 ∧ (b.length : Int) = 32 * d)) :
    Calls Tryd.prog 19 #[ei d, v] w0 fun e w' => e = .returned (.tuple #[.agg ((zero256).map ei).toArray, en 1]) ∧ Below w0.heap.size w0 w' := by
  refine enter (args := [_, _]) Tryd.func19 rfl Tryd.ntmps19 rfl ?_
  intro a ha
  have hB := Below.refl w0.heap.size w0
  refine wp_seq_k fun K1 hK2 => ?_
  refine region ?_
  refine salloc ha zero_24S3 rfl ?_
  clear ha a; intro a w3 b4 ha hg hb4 hge4 hlt4
  have hz4 : w0.heap.size ≤ b4 := Nat.le_trans hB.size hge4
  replace hB := keepB0 hg hB
  clear hg hge4 hlt4
  refine sv ha (r_assign ha rfl) rfl rfl rfl ?_; clear ha a; intro a ha
  refine hK2 _ _ ?_; clear hK2 K1
  refine wp_seq_k fun K5 hK6 => ?_
  refine region ?_
  refine salloc ha zero_24S3 rfl ?_
  clear ha a; intro a w7 b8 ha hg hb8 hge8 hlt8
  have hz8 : w0.heap.size ≤ b8 := Nat.le_trans hB.size hge8
  have hq4_8 : b4 < b8 := Nat.lt_of_lt_of_le (lt_of_block hb4) hge8
  replace hB := keepB0 hg hB
  replace hb4 := keepO0 hg hb4
  clear hg hge8 hlt8
  refine hK6 _ _ ?_; clear hK6 K5
  refine wp_seq_k fun K9 hK10 => ?_
  refine wp_seq_k fun K11 hK12 => ?_
  refine region ?_
  refine sv ha (r_move ha rfl) rfl rfl rfl ?_; clear ha a; intro a ha
  refine sv ha (r_lss ha d 1 (decide (d < 1)) rfl rfl (decide_eq_decide.2 (by omega))) rfl rfl rfl ?_; clear ha a; intro a ha
  refine sv ha (r_move ha rfl) rfl rfl rfl ?_; clear ha a; intro a ha
  cases hq13 : (decide (d < 1))
  all_goals rw [hq13] at ha
  case false =>
    replace hq13 := of_decide_eq_false hq13
    refine svg ha (r_move ha rfl) rfl rfl rfl rfl rfl ?_; clear ha a; intro a ha
    refine svg ha (r_gtr ha d 12 (decide (d > 12)) rfl rfl (decide_eq_decide.2 (by omega))) rfl rfl rfl rfl rfl ?_; clear ha a; intro a ha
    refine sv ha (r_pick ha false rfl rfl) rfl rfl rfl ?_; clear ha a; intro a ha
    refine sv ha (r_move ha rfl) rfl rfl rfl ?_; clear ha a; intro a ha
    cases hq14 : (decide (d > 12))
    all_goals rw [hq14] at ha
    case false =>
      replace hq14 := of_decide_eq_false hq14
      refine svg ha (r_move ha rfl) rfl rfl rfl rfl rfl ?_; clear ha a; intro a ha
      refine svg ha (r_lenS ha Tryd.runUnderlying22 (hs.below hB) rfl (by rw [List.length_map])) rfl rfl rfl rfl rfl ?_; clear ha a; intro a ha
      refine svg ha (r_move ha rfl) rfl rfl rfl rfl rfl ?_; clear ha a; intro a ha
      refine svg ha (r_mul ha 32 d rfl rfl (by omega)) rfl rfl rfl rfl rfl ?_; clear ha a; intro a ha
      refine svg ha (r_neq ha ((b.length : Nat) : Int) (32 * d) true rfl rfl (decide_eq_true (by omega))) rfl rfl rfl rfl rfl ?_; clear ha a; intro a ha
      refine sv ha (r_pick ha false rfl rfl) rfl rfl rfl ?_; clear ha a; intro a ha
      refine hK12 _ _ ?_; clear hK12 K11
      refine cond_t ha rfl ?_
      refine wp_seq_k fun K15 hK16 => ?_
      refine region ?_
      refine sv ha (r_loadR ha rfl Tryd.isAgg24 Tryd.sizeOf24 (C := (List.replicate 256 (0 : Int)).map ei) (by rw [List.length_map, List.length_replicate]) (cells_all hb8)) rfl rfl rfl ?_; clear ha a; intro a ha
      refine sstoreW ha rfl rfl (one_ei _) Tryd.sizeOf24 (by rw [List.length_map, List.length_replicate]) hb4 (by rw [List.length_map, List.length_replicate]) ?_
      clear ha a; intro a w17 ha hg hb4'
      clear hb4; have hb4 := hb4'; clear hb4'
      replace hB := keepB1 hg (by omega) hB
      replace hb8 := keepO1 hg (by omega) hb8
      clear hg
      refine sv ha (r_assign ha rfl) rfl rfl rfl ?_; clear ha a; intro a ha
      refine hK16 _ _ ?_; clear hK16 K15
      refine wp_ret ?_
      repeat (first | (with_reducible refine t_ret ?_) | (with_reducible refine x_ret ?_))
      exact retCT _ ha Tryd.results19 rfl rfl hb4 Tryd.underlying24 rfl (by rw [List.length_map, List.length_replicate]; kernel_rfl) ⟨rfl, hB⟩
    case true =>
      replace hq14 := of_decide_eq_true hq14
      refine sno ha rfl rfl rfl rfl rfl rfl ?_; clear ha a; intro a ha
      refine sno ha rfl rfl rfl rfl rfl rfl ?_; clear ha a; intro a ha
      refine sno ha rfl rfl rfl rfl rfl rfl ?_; clear ha a; intro a ha
      refine sno ha rfl rfl rfl rfl rfl rfl ?_; clear ha a; intro a ha
      refine sno ha rfl rfl rfl rfl rfl rfl ?_; clear ha a; intro a ha
      refine sv ha (r_pick ha true rfl rfl) rfl rfl rfl ?_; clear ha a; intro a ha
      refine hK12 _ _ ?_; clear hK12 K11
      refine cond_t ha rfl ?_
      refine wp_seq_k fun K18 hK19 => ?_
      refine region ?_
      refine sv ha (r_loadR ha rfl Tryd.isAgg24 Tryd.sizeOf24 (C := (List.replicate 256 (0 : Int)).map ei) (by rw [List.length_map, List.length_replicate]) (cells_all hb8)) rfl rfl rfl ?_; clear ha a; intro a ha
      refine sstoreW ha rfl rfl (one_ei _) Tryd.sizeOf24 (by rw [List.length_map, List.length_replicate]) hb4 (by rw [List.length_map, List.length_replicate]) ?_
      clear ha a; intro a w20 ha hg hb4'
      clear hb4; have hb4 := hb4'; clear hb4'
      replace hB := keepB1 hg (by omega) hB
      replace hb8 := keepO1 hg (by omega) hb8
      clear hg
      refine sv ha (r_assign ha rfl) rfl rfl rfl ?_; clear ha a; intro a ha
      refine hK19 _ _ ?_; clear hK19 K18
      refine wp_ret ?_
      repeat (first | (with_reducible refine t_ret ?_) | (with_reducible refine x_ret ?_))
      exact retCT _ ha Tryd.results19 rfl rfl hb4 Tryd.underlying24 rfl (by rw [List.length_map, List.length_replicate]; kernel_rfl) ⟨rfl, hB⟩
  case true =>
    replace hq13 := of_decide_eq_true hq13
    refine sno ha rfl rfl rfl rfl rfl rfl ?_; clear ha a; intro a ha
    refine sno ha rfl rfl rfl rfl rfl rfl ?_; clear ha a; intro a ha
    refine sv ha (r_pick ha true rfl rfl) rfl rfl rfl ?_; clear ha a; intro a ha
    refine sv ha (r_move ha rfl) rfl rfl rfl ?_; clear ha a; intro a ha
    refine sno ha rfl rfl rfl rfl rfl rfl ?_; clear ha a; intro a ha
    refine sno ha rfl rfl rfl rfl rfl rfl ?_; clear ha a; intro a ha
    refine sno ha rfl rfl rfl rfl rfl rfl ?_; clear ha a; intro a ha
    refine sno ha rfl rfl rfl rfl rfl rfl ?_; clear ha a; intro a ha
    refine sno ha rfl rfl rfl rfl rfl rfl ?_; clear ha a; intro a ha
    refine sv ha (r_pick ha true rfl rfl) rfl rfl rfl ?_; clear ha a; intro a ha
    refine hK12 _ _ ?_; clear hK12 K11
    refine cond_t ha rfl ?_
    refine wp_seq_k fun K21 hK22 => ?_
    refine region ?_
    refine sv ha (r_loadR ha rfl Tryd.isAgg24 Tryd.sizeOf24 (C := (List.replicate 256 (0 : Int)).map ei) (by rw [List.length_map, List.length_replicate]) (cells_all hb8)) rfl rfl rfl ?_; clear ha a; intro a ha
    refine sstoreW ha rfl rfl (one_ei _) Tryd.sizeOf24 (by rw [List.length_map, List.length_replicate]) hb4 (by rw [List.length_map, List.length_replicate]) ?_
    clear ha a; intro a w23 ha hg hb4'
    clear hb4; have hb4 := hb4'; clear hb4'
    replace hB := keepB1 hg (by omega) hB
    replace hb8 := keepO1 hg (by omega) hb8
    clear hg
    refine sv ha (r_assign ha rfl) rfl rfl rfl ?_; clear ha a; intro a ha
    refine hK22 _ _ ?_; clear hK22 K21
    refine wp_ret ?_
    repeat (first | (with_reducible refine t_ret ?_) | (with_reducible refine x_ret ?_))
    exact retCT _ ha Tryd.results19 rfl rfl hb4 Tryd.underlying24 rfl (by rw [List.length_map, List.length_replicate]; kernel_rfl) ⟨rfl, hB⟩

theorem c_runpackZ (d : Int) (v : Value) (b : List UInt8) (w0 : World) (hs : Sl w0 v (b.map e8)) :
    Calls Tryd.prog 19 #[ei d, v] w0 fun e w' => e = .returned (.tuple #[.agg ((unpP d b).map ei).toArray, en (unpE d b)]) ∧ Below w0.heap.size w0 w' := by
  by_cases h : 1 ≤ d ∧ d ≤ 12 ∧ (b.length : Int) = 32 * d
  · obtain ⟨n, rfl⟩ := Int.eq_ofNat_of_zero_le (show 0 ≤ d by omega)
    refine (c_runpack1 n v b w0 (by omega) hs (by omega)).mono fun e w h' => ?_
    rw [unpP, unpE, if_pos h, if_pos h]; exact h'
  · refine (c_runpack0 d v b w0 hs h).mono fun e w h' => ?_
    rw [unpP, unpE, if_neg h, if_neg h]; exact h'

theorem c_rsqueeze (d : Int) (p : List Int) (w0 : World) (hp : p.length = 256) :
    Calls Tryd.prog 23 #[ei d, .agg ((p).map ei).toArray] w0 fun e w' => e = .returned (.agg ((sqA d p 256).map ei).toArray) ∧ Below w0.heap.size w0 w' := by
  refine enter (args := [_, _]) Tryd.func23 rfl Tryd.ntmps23 rfl ?_
  intro a ha
  have hB := Below.refl w0.heap.size w0
  refine wp_seq_k fun K1 hK2 => ?_
  refine region ?_
  refine sbox ha rfl rfl ?_
  clear ha a; intro a w3 b4 ha hg hb4 hge4 hlt4
  have hz4 : w0.heap.size ≤ b4 := Nat.le_trans hB.size hge4
  replace hB := keepB0 hg hB
  clear hg hge4 hlt4
  refine salloc ha zero_24S3 rfl ?_
  clear ha a; intro a w5 b6 ha hg hb6 hge6 hlt6
  have hz6 : w0.heap.size ≤ b6 := Nat.le_trans hB.size hge6
  have hq4_6 : b4 < b6 := Nat.lt_of_lt_of_le (lt_of_block hb4) hge6
  replace hB := keepB0 hg hB
  replace hb4 := keepO0 hg hb4
  clear hg hge6 hlt6
  refine hK2 _ _ ?_; clear hK2 K1
  refine wp_seq_k fun K7 hK8 => ?_
  refine wp_seq_k fun K9 hK10 => ?_
  refine region ?_
  refine sv ha (r_assign ha rfl) rfl rfl rfl ?_; clear ha a; intro a ha
  refine hK10 _ _ ?_; clear hK10 K9
  refine wp_block ?_
  refine loopG (fun (i : Nat) a w => (i ≤ 256) ∧ Has 18 [(0, ei d), (1, .agg ((p).map ei).toArray), (3, .pointer (some ⟨b4, 0, none⟩)), (4, .pointer (some ⟨b6, 0, none⟩)), (5, en i)] a ∧ Below w0.heap.size w0 w ∧ w.heap[b4]? = some (.cells ((sqA d p i).map ei).toArray 24 (0, 0)) ∧ w.heap[b6]? = some (.cells ((List.replicate 256 (0 : Int)).map ei).toArray 24 (0, 0))) (fun i => 256 - i) 0 ⟨(by omega), ha.to [0, 1, 3, 4, 5] rfl, hB, hb4, hb6⟩ ?_
  clear ha a hB hb4 hb6
  intro i a w11 ⟨hki, ha, hB, hb4, hb6⟩
  refine wp_seq_k fun K12 hK13 => ?_
  refine wp_seq_k fun K14 hK15 => ?_
  refine region ?_
  refine sv ha (r_move ha rfl) rfl rfl rfl ?_; clear ha a; intro a ha
  refine sv ha (r_lss ha ((i : Nat) : Int) 256 (decide (i < 256)) rfl rfl (decide_eq_decide.2 (by omega))) rfl rfl rfl ?_; clear ha a; intro a ha
  refine hK15 _ _ ?_; clear hK15 K14
  refine cond_if ha rfl (fun hc16 => ?_) (fun hc16 => ?_)
  · skip
    replace hc16 := of_decide_eq_true hc16
    refine wp_skip ?_
    refine hK13 _ _ ?_; clear hK13 K12
    refine wp_seq_k fun K17 hK18 => ?_
    refine wp_block ?_
    refine region ?_
    refine sv ha (r_move ha rfl) rfl rfl rfl ?_; clear ha a; intro a ha
    refine sv ha (r_move ha rfl) rfl rfl rfl ?_; clear ha a; intro a ha
    refine sv ha (r_move ha rfl) rfl rfl rfl ?_; clear ha a; intro a ha
    refine sv ha (r_indexArr (i := i) ha i Tryd.runUnderlying24 Tryd.sizeOf3 rfl rfl (by omega) (by omega)) rfl rfl rfl ?_; clear ha a; intro a ha
    refine sv ha (r_load ha rfl Tryd.isAgg3 (cell_of hb4 (get_map ei (sqA d p i) 0 i (by rw [sqA_len, hp]; omega)))) rfl rfl rfl ?_; clear ha a; intro a ha
    refine sc ha (r_call ha [ei d, ei ((sqA d p i).getD i 0)] rfl Tryd.call45) rfl rfl rfl (c_rcompZ d ((sqA d p i).getD i 0) _ ) ?_
    clear ha a
    rintro e w19 ⟨rfl, hBc⟩
    have hg := grown_call hBc; clear hBc
    replace hB := keepB0 hg hB
    replace hb4 := keepO0 hg hb4
    replace hb6 := keepO0 hg hb6
    clear hg
    refine ⟨_, rfl, ?_⟩; intro a ha
    refine sv ha (r_indexArr (i := i) ha i Tryd.runUnderlying24 Tryd.sizeOf3 rfl rfl (by omega) (by omega)) rfl rfl rfl ?_; clear ha a; intro a ha
    refine sstore ha (v := ei ((zcompZ d ((sqA d p i).getD i 0) : Nat) : Int)) rfl rfl rfl rfl Tryd.sizeOf3 hb4 (by rw [List.length_map, sqA_len, hp]; omega) ?_
    clear ha a; intro a w20 ha hg hb4'
    rw [set_map] at hb4'
    clear hb4; have hb4 := hb4'; clear hb4'
    replace hB := keepB1 hg (by omega) hB
    replace hb6 := keepO1 hg (by omega) hb6
    clear hg
    refine hK18 _ _ ?_; clear hK18 K17
    refine region ?_
    refine sv ha (r_move ha rfl) rfl rfl rfl ?_; clear ha a; intro a ha
    refine sv ha (rn_add ha i 1 rfl rfl (by omega)) rfl rfl rfl ?_; clear ha a; intro a ha
    refine sv ha (r_assign ha rfl) rfl rfl rfl ?_; clear ha a; intro a ha
    exact ⟨i + 1, by omega, (by omega), ha.to [0, 1, 3, 4, 5] rfl, hB, hb4, hb6⟩
  · skip
    replace hc16 := of_decide_eq_false hc16
    refine wp_exit ?_
    obtain rfl : i = 256 := by omega
    refine hK8 _ _ ?_; clear hK13 K12 hK8 K7
    refine wp_seq_k fun K21 hK22 => ?_
    refine region ?_
    refine sv ha (r_loadR ha rfl Tryd.isAgg24 Tryd.sizeOf24 (C := (sqA d p 256).map ei) (by rw [List.length_map, sqA_len, hp]) (cells_all hb4)) rfl rfl rfl ?_; clear ha a; intro a ha
    refine sstoreW ha rfl rfl (one_ei _) Tryd.sizeOf24 (by rw [List.length_map, sqA_len, hp]) hb6 (by rw [List.length_map, List.length_replicate]) ?_
    clear ha a; intro a w23 ha hg hb6'
    clear hb6; have hb6 := hb6'; clear hb6'
    replace hB := keepB1 hg (by omega) hB
    replace hb4 := keepO1 hg (by omega) hb4
    clear hg
    refine hK22 _ _ ?_; clear hK22 K21
    refine wp_ret ?_
    repeat (first | (with_reducible refine t_ret ?_) | (with_reducible refine x_ret ?_))
    exact retC _ ha Tryd.results23 rfl hb6 Tryd.underlying24 rfl (by rw [List.length_map, sqA_len, hp]; kernel_rfl) ⟨rfl, hB⟩

theorem c_rspread (d : Int) (p : List Int) (w0 : World) (hp : p.length = 256) :
    Calls Tryd.prog 25 #[ei d, .agg ((p).map ei).toArray] w0 fun e w' => e = .returned (.agg ((spA d p 256).map ei).toArray) ∧ Below w0.heap.size w0 w' := by
  refine enter (args := [_, _]) Tryd.func25 rfl Tryd.ntmps25 rfl ?_
  intro a ha
  have hB := Below.refl w0.heap.size w0
  refine wp_seq_k fun K1 hK2 => ?_
  refine region ?_
  refine sbox ha rfl rfl ?_
  clear ha a; intro a w3 b4 ha hg hb4 hge4 hlt4
  have hz4 : w0.heap.size ≤ b4 := Nat.le_trans hB.size hge4
  replace hB := keepB0 hg hB
  clear hg hge4 hlt4
  refine salloc ha zero_24S3 rfl ?_
  clear ha a; intro a w5 b6 ha hg hb6 hge6 hlt6
  have hz6 : w0.heap.size ≤ b6 := Nat.le_trans hB.size hge6
  have hq4_6 : b4 < b6 := Nat.lt_of_lt_of_le (lt_of_block hb4) hge6
  replace hB := keepB0 hg hB
  replace hb4 := keepO0 hg hb4
  clear hg hge6 hlt6
  refine hK2 _ _ ?_; clear hK2 K1
  refine wp_seq_k fun K7 hK8 => ?_
  refine wp_seq_k fun K9 hK10 => ?_
  refine region ?_
  refine sv ha (r_assign ha rfl) rfl rfl rfl ?_; clear ha a; intro a ha
  refine hK10 _ _ ?_; clear hK10 K9
  refine wp_block ?_
  refine loopG (fun (i : Nat) a w => (i ≤ 256) ∧ Has 18 [(0, ei d), (1, .agg ((p).map ei).toArray), (3, .pointer (some ⟨b4, 0, none⟩)), (4, .pointer (some ⟨b6, 0, none⟩)), (5, en i)] a ∧ Below w0.heap.size w0 w ∧ w.heap[b4]? = some (.cells ((spA d p i).map ei).toArray 24 (0, 0)) ∧ w.heap[b6]? = some (.cells ((List.replicate 256 (0 : Int)).map ei).toArray 24 (0, 0))) (fun i => 256 - i) 0 ⟨(by omega), ha.to [0, 1, 3, 4, 5] rfl, hB, hb4, hb6⟩ ?_
  clear ha a hB hb4 hb6
  intro i a w11 ⟨hki, ha, hB, hb4, hb6⟩
  refine wp_seq_k fun K12 hK13 => ?_
  refine wp_seq_k fun K14 hK15 => ?_
  refine region ?_
  refine sv ha (r_move ha rfl) rfl rfl rfl ?_; clear ha a; intro a ha
  refine sv ha (r_lss ha ((i : Nat) : Int) 256 (decide (i < 256)) rfl rfl (decide_eq_decide.2 (by omega))) rfl rfl rfl ?_; clear ha a; intro a ha
  refine hK15 _ _ ?_; clear hK15 K14
  refine cond_if ha rfl (fun hc16 => ?_) (fun hc16 => ?_)
  · skip
    replace hc16 := of_decide_eq_true hc16
    refine wp_skip ?_
    refine hK13 _ _ ?_; clear hK13 K12
    refine wp_seq_k fun K17 hK18 => ?_
    refine wp_block ?_
    refine region ?_
    refine sv ha (r_move ha rfl) rfl rfl rfl ?_; clear ha a; intro a ha
    refine sv ha (r_move ha rfl) rfl rfl rfl ?_; clear ha a; intro a ha
    refine sv ha (r_move ha rfl) rfl rfl rfl ?_; clear ha a; intro a ha
    refine sv ha (r_indexArr (i := i) ha i Tryd.runUnderlying24 Tryd.sizeOf3 rfl rfl (by omega) (by omega)) rfl rfl rfl ?_; clear ha a; intro a ha
    refine sv ha (r_load ha rfl Tryd.isAgg3 (cell_of hb4 (get_map ei (spA d p i) 0 i (by rw [spA_len, hp]; omega)))) rfl rfl rfl ?_; clear ha a; intro a ha
    refine sc ha (r_call ha [ei d, ei ((spA d p i).getD i 0)] rfl Tryd.call47) rfl rfl rfl (c_rdecZ d ((spA d p i).getD i 0) _ ) ?_
    clear ha a
    rintro e w19 ⟨rfl, hBc⟩
    have hg := grown_call hBc; clear hBc
    replace hB := keepB0 hg hB
    replace hb4 := keepO0 hg hb4
    replace hb6 := keepO0 hg hb6
    clear hg
    refine ⟨_, rfl, ?_⟩; intro a ha
    refine sv ha (r_indexArr (i := i) ha i Tryd.runUnderlying24 Tryd.sizeOf3 rfl rfl (by omega) (by omega)) rfl rfl rfl ?_; clear ha a; intro a ha
    refine sstore ha (v := ei ((zdecZ d ((spA d p i).getD i 0) : Nat) : Int)) rfl rfl rfl rfl Tryd.sizeOf3 hb4 (by rw [List.length_map, spA_len, hp]; omega) ?_
    clear ha a; intro a w20 ha hg hb4'
    rw [set_map] at hb4'
    clear hb4; have hb4 := hb4'; clear hb4'
    replace hB := keepB1 hg (by omega) hB
    replace hb6 := keepO1 hg (by omega) hb6
    clear hg
    refine hK18 _ _ ?_; clear hK18 K17
    refine region ?_
    refine sv ha (r_move ha rfl) rfl rfl rfl ?_; clear ha a; intro a ha
    refine sv ha (rn_add ha i 1 rfl rfl (by omega)) rfl rfl rfl ?_; clear ha a; intro a ha
    refine sv ha (r_assign ha rfl) rfl rfl rfl ?_; clear ha a; intro a ha
    exact ⟨i + 1, by omega, (by omega), ha.to [0, 1, 3, 4, 5] rfl, hB, hb4, hb6⟩
  · skip
    replace hc16 := of_decide_eq_false hc16
    refine wp_exit ?_
    obtain rfl : i = 256 := by omega
    refine hK8 _ _ ?_; clear hK13 K12 hK8 K7
    refine wp_seq_k fun K21 hK22 => ?_
    refine region ?_
    refine sv ha (r_loadR ha rfl Tryd.isAgg24 Tryd.sizeOf24 (C := (spA d p 256).map ei) (by rw [List.length_map, spA_len, hp]) (cells_all hb4)) rfl rfl rfl ?_; clear ha a; intro a ha
    refine sstoreW ha rfl rfl (one_ei _) Tryd.sizeOf24 (by rw [List.length_map, spA_len, hp]) hb6 (by rw [List.length_map, List.length_replicate]) ?_
    clear ha a; intro a w23 ha hg hb6'
    clear hb6; have hb6 := hb6'; clear hb6'
    replace hB := keepB1 hg (by omega) hB
    replace hb4 := keepO1 hg (by omega) hb4
    clear hg
    refine hK22 _ _ ?_; clear hK22 K21
    refine wp_ret ?_
    repeat (first | (with_reducible refine t_ret ?_) | (with_reducible refine x_ret ?_))
    exact retC _ ha Tryd.results25 rfl hb6 Tryd.underlying24 rfl (by rw [List.length_map, spA_len, hp]; kernel_rfl) ⟨rfl, hB⟩
end Go.Proofs.YtaignhikdfpbbaaDoor
