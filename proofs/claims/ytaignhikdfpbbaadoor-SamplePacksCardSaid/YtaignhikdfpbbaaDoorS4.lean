/- WALKS written by gen.py (own program) out of specs. -/
import Derived.Test.YtaignhikdfpbbaaDoorS3
namespace Go.Proofs.YtaignhikdfpbbaaDoor
open Go.RowKit Go.Rx
set_option maxRecDepth 100000
set_option maxHeartbeats 4000000
set_option linter.unusedVariables false
set_option linter.unusedSimpArgs false

theorem zero_24S4 : ∀ w, (zeroValue 24).run Tryd.prog w = .ok (.agg ((List.replicate 256 (0 : Int)).map ei).toArray) w := fun _ => by kernel_rfl
theorem c_runiform (v : Value) (seed : List UInt8) (w0 : World) (hs : Sl w0 v (seed.map e8)) (hb : seed.length ≤ 100000) :
    Calls Tryd.prog 13 #[v] w0 fun e w' => e = .returned (.agg ((uni seed).map ei).toArray) ∧ Below w0.heap.size w0 w' := by
  refine enter (args := [_]) Tryd.func13 rfl Tryd.ntmps13 rfl ?_
  intro a ha
  have hB := Below.refl w0.heap.size w0
  refine wp_seq_k fun K1 hK2 => ?_
  refine region ?_
  refine salloc ha zero_24S4 rfl ?_
  clear ha a; intro a w3 b4 ha hg hb4 hge4 hlt4
  have hz4 : w0.heap.size ≤ b4 := Nat.le_trans hB.size hge4
  replace hB := keepB0 hg hB
  clear hg hge4 hlt4
  refine hK2 _ _ ?_; clear hK2 K1
  refine wp_seq_k fun K5 hK6 => ?_
  refine region ?_
  refine salloc ha zero_24S4 rfl ?_
  clear ha a; intro a w7 b8 ha hg hb8 hge8 hlt8
  have hz8 : w0.heap.size ≤ b8 := Nat.le_trans hB.size hge8
  have hq4_8 : b4 < b8 := Nat.lt_of_lt_of_le (lt_of_block hb4) hge8
  replace hB := keepB0 hg hB
  replace hb4 := keepO0 hg hb4
  clear hg hge8 hlt8
  refine hK6 _ _ ?_; clear hK6 K5
  refine wp_seq_k fun K9 hK10 => ?_
  refine region ?_
  refine sv ha (r_move ha rfl) rfl rfl rfl ?_; clear ha a; intro a ha
  refine sc ha (r_call ha [en 168, e8 (31 : UInt8), v] rfl Tryd.call32) rfl rfl rfl (c_rabsN 168 (31 : UInt8) v seed _ (by omega) (hs.below hB) (by omega)) ?_
  clear ha a
  rintro e w11 ⟨u12, rfl, hBc, hs12, hd12⟩
  have hg := grown_call hBc; clear hBc
  have hnb_hs12_b4 : ∀ j, u12.ownBlock = some j → j ≠ b4 := fun j hj => by have h1 := hd12 j hj; have h2 := lt_of_block hb4; omega
  have hnb_hs12_b8 : ∀ j, u12.ownBlock = some j → j ≠ b8 := fun j hj => by have h1 := hd12 j hj; have h2 := lt_of_block hb8; omega
  replace hd12 : ∀ j, u12.ownBlock = some j → w0.heap.size ≤ j := fun j hj => Nat.le_trans hB.size (hd12 j hj)
  replace hB := keepB0 hg hB
  replace hb4 := keepO0 hg hb4
  replace hb8 := keepO0 hg hb8
  clear hg
  refine ⟨_, rfl, ?_⟩; intro a ha
  refine sv ha (r_assign ha rfl) rfl rfl rfl ?_; clear ha a; intro a ha
  refine hK10 _ _ ?_; clear hK10 K9
  refine wp_seq_k fun K13 hK14 => ?_
  refine region ?_
  refine sv ha (r_assign ha rfl) rfl rfl rfl ?_; clear ha a; intro a ha
  refine hK14 _ _ ?_; clear hK14 K13
  refine wp_seq_k fun K15 hK16 => ?_
  refine wp_seq_k fun K17 hK18 => ?_
  refine region ?_
  refine sv ha (r_assign ha rfl) rfl rfl rfl ?_; clear ha a; intro a ha
  refine hK18 _ _ ?_; clear hK18 K17
  refine wp_block ?_
  have hAe := rabs_eq 168 31 seed (by omega)
  have hLA := rabA_len 168 31 seed (nbk seed 168)
  generalize hA : rabA 168 (31 : UInt8) seed (nbk seed 168) = A at *
  refine loopG (fun (g : Nat × List Int × Nat) a w => ∃ va : Value, (g.1 ≤ 24) ∧ (g.2.1.length = 256) ∧ (g.2.2 ≤ 256) ∧ (g.2 = unU (ch A) g.1) ∧ (∀ j, va.ownBlock = some j → w0.heap.size ≤ j) ∧ (∀ j, va.ownBlock = some j → j ≠ b4) ∧ (∀ j, va.ownBlock = some j → j ≠ b8) ∧ Has 82 [(0, v), (2, .pointer (some ⟨b4, 0, none⟩)), (3, .pointer (some ⟨b8, 0, none⟩)), (11, v), (12, u12), (6, en g.1), (5, en g.2.2), (4, va)] a ∧ Below w0.heap.size w0 w ∧ w.heap[b4]? = some (.cells ((List.replicate 256 (0 : Int)).map ei).toArray 24 (0, 0)) ∧ w.heap[b8]? = some (.cells ((g.2.1).map ei).toArray 24 (0, 0)) ∧ Sl w va ((fpow A g.1).map e64)) (fun g => 24 - g.1) (0, zero256, 0) ⟨u12, (Nat.zero_le _), List.length_replicate, (Nat.zero_le _), (by rw [unU]), hd12, hnb_hs12_b4, hnb_hs12_b8, ha.to [0, 2, 3, 11, 12, 6, 5, 4] rfl, hB, hb4, hb8, (Sl.castM (l := A) hs12 (by rw [fpow]))⟩ ?_
  clear ha a hB hb4 hb8 hs12
  intro g a w19 ⟨va, hgk, hgl, hgn, hgr, hfr_va, hnb_va_b4, hnb_va_b8, ha, hB, hb4, hb8, hsva⟩
  refine wp_seq_k fun K20 hK21 => ?_
  refine wp_seq_k fun K22 hK23 => ?_
  refine region ?_
  refine sv ha (r_move ha rfl) rfl rfl rfl ?_; clear ha a; intro a ha
  refine sv ha (r_lss ha ((g.1 : Nat) : Int) 24 (decide (g.1 < 24)) rfl rfl (decide_eq_decide.2 (by omega))) rfl rfl rfl ?_; clear ha a; intro a ha
  refine sv ha (r_move ha rfl) rfl rfl rfl ?_; clear ha a; intro a ha
  cases hq24 : (decide (g.1 < 24))
  all_goals rw [hq24] at ha
  case false =>
    replace hq24 := of_decide_eq_false hq24
    refine sno ha rfl rfl rfl rfl rfl rfl ?_; clear ha a; intro a ha
    refine sno ha rfl rfl rfl rfl rfl rfl ?_; clear ha a; intro a ha
    refine sv ha (r_pick ha false rfl rfl) rfl rfl rfl ?_; clear ha a; intro a ha
    refine hK23 _ _ ?_; clear hK23 K22
    refine cond_f ha rfl ?_
    refine wp_exit ?_
    refine hK16 _ _ ?_; clear hK21 K20 hK16 K15
    refine wp_seq_k fun K25 hK26 => ?_
    refine region ?_
    refine sv ha (r_loadR ha rfl Tryd.isAgg24 Tryd.sizeOf24 (C := (g.2.1).map ei) (by rw [List.length_map, hgl]) (cells_all hb8)) rfl rfl rfl ?_; clear ha a; intro a ha
    refine sstoreW ha rfl rfl (one_ei _) Tryd.sizeOf24 (by rw [List.length_map, hgl]) hb4 (by rw [List.length_map, List.length_replicate]) ?_
    clear ha a; intro a w27 ha hg hb4'
    clear hb4; have hb4 := hb4'; clear hb4'
    replace hB := keepB1 hg (by omega) hB
    replace hb8 := keepO1 hg (by omega) hb8
    replace hsva := keepS1 hg (ne_of_ap hnb_va_b4) hsva
    clear hg
    refine hK26 _ _ ?_; clear hK26 K25
    refine wp_ret ?_
    repeat (first | (with_reducible refine t_ret ?_) | (with_reducible refine x_ret ?_))
    exact retC _ ha Tryd.results13 rfl hb4 Tryd.underlying24 rfl (by rw [List.length_map, hgl]; kernel_rfl) ⟨(congrArg (fun l : List Int => Ending.returned (Value.agg (l.map ei).toArray)) (uni_of seed A hAe.symm g.1 (by omega) g.2 hgr (by omega))), hB⟩
  case true =>
    replace hq24 := of_decide_eq_true hq24
    refine svg ha (r_move ha rfl) rfl rfl rfl rfl rfl ?_; clear ha a; intro a ha
    refine svg ha (r_lss ha ((g.2.2 : Nat) : Int) 256 (decide (g.2.2 < 256)) rfl rfl (decide_eq_decide.2 (by omega))) rfl rfl rfl rfl rfl ?_; clear ha a; intro a ha
    refine sv ha (r_pick ha true rfl rfl) rfl rfl rfl ?_; clear ha a; intro a ha
    refine hK23 _ _ ?_; clear hK23 K22
    refine cond_if ha rfl (fun hc28 => ?_) (fun hc28 => ?_)
    · skip
      replace hc28 := of_decide_eq_true hc28
      refine wp_skip ?_
      refine hK21 _ _ ?_; clear hK21 K20
      refine wp_seq_k fun K29 hK30 => ?_
      refine wp_block ?_
      refine wp_seq_k fun K31 hK32 => ?_
      refine region ?_
      refine sv ha (r_move ha rfl) rfl rfl rfl ?_; clear ha a; intro a ha
      refine sc ha (r_call ha [va] rfl Tryd.call33) rfl rfl rfl (c_rbytes va (fpow A g.1) _ hsva (by rw [fpow_len A hLA])) ?_
      clear ha a
      rintro e w33 ⟨u34, rfl, hBc, ho34⟩
      have hg := grown_call hBc; clear hBc
      have hnb_ho34_b4 : ∀ j, u34.ownBlock = some j → j ≠ b4 := fun j hj => by have h1 := (own_row ho34) j hj; have h2 := lt_of_block hb4; omega
      have hnb_ho34_b8 : ∀ j, u34.ownBlock = some j → j ≠ b8 := fun j hj => by have h1 := (own_row ho34) j hj; have h2 := lt_of_block hb8; omega
      have hds_ho34_hsva : ∀ j, u34.ownBlock = some j → va.ownBlock ≠ some j := fun j h1 h2 => by have h3 := (own_row ho34) j h1; have h4 := (fun j hj => hsva.lt j hj) j h2; omega
      replace ho34 := own_base ho34 hB.size
      replace hB := keepB0 hg hB
      replace hb4 := keepO0 hg hb4
      replace hb8 := keepO0 hg hb8
      replace hsva := keepS0 hg hsva
      clear hg
      refine ⟨_, rfl, ?_⟩; intro a ha
      refine sv ha (r_resl (C := (rby (fpow A g.1)).map e8) ha 0 168 Tryd.runUnderlying22 Tryd.sizeOf5 (Sl.ofOwns ho34) rfl rfl rfl (by omega) (by rw [List.length_map]; exact (by rw [rby_len]; omega))) rfl rfl rfl ?_; clear ha a; intro a ha
      refine sv ha (r_assign ha rfl) rfl rfl rfl ?_; clear ha a; intro a ha
      refine hK32 _ _ ?_; clear hK32 K31
      refine wp_seq_k fun K35 hK36 => ?_
      refine wp_seq_k fun K37 hK38 => ?_
      refine region ?_
      refine sv ha (r_assign ha rfl) rfl rfl rfl ?_; clear ha a; intro a ha
      refine hK38 _ _ ?_; clear hK38 K37
      refine wp_block ?_
      refine loopG (fun (y : Nat × List Int × Nat) a w => (y.1 ≤ 56) ∧ (y.2.1.length = 256) ∧ (y.2.2 ≤ 256) ∧ (y.2 = rjB (ch A g.1) g.2 y.1) ∧ Has 82 [(0, v), (2, .pointer (some ⟨b4, 0, none⟩)), (3, .pointer (some ⟨b8, 0, none⟩)), (11, v), (12, u12), (6, en g.1), (4, va), (13, en g.1), (14, .bool true), (15, .bool true), (16, en g.2.2), (17, .bool (decide (g.2.2 < 256))), (18, .bool (decide (g.2.2 < 256))), (21, va), (22, u34), (23, rsl u34 0 168), (7, rsl u34 0 168), (8, en (3 * y.1)), (5, en y.2.2)] a ∧ Below w0.heap.size w0 w ∧ w.heap[b4]? = some (.cells ((List.replicate 256 (0 : Int)).map ei).toArray 24 (0, 0)) ∧ w.heap[b8]? = some (.cells ((y.2.1).map ei).toArray 24 (0, 0)) ∧ Sl w va ((fpow A g.1).map e64) ∧ w.ownsRow w0.heap.size 5 1 u34 (rby (fpow A g.1)).length ((rby (fpow A g.1)).map e8)) (fun y => 56 - y.1) (0, g.2) ⟨(Nat.zero_le _), hgl, hgn, (by rw [rjB]), ha.to [0, 2, 3, 11, 12, 6, 4, 13, 14, 15, 16, 17, 18, 21, 22, 23, 7, 8, 5] rfl, hB, hb4, hb8, hsva, ho34⟩ ?_
      clear ha a hB hb4 hb8 hsva ho34
      intro y a w39 ⟨hyk, hyl, hyn, hyr, ha, hB, hb4, hb8, hsva, ho34⟩
      have hbx1 := lo_lt (ch A g.1) y.1
      have hbx2 := hi_lt (ch A g.1) y.1
      have hbx3 := ((ch A g.1).getD (3 * y.1) 0).toNat_lt
      have hbx4 := ((ch A g.1).getD (3 * y.1 + 1) 0).toNat_lt
      have hbx5 := ((ch A g.1).getD (3 * y.1 + 2) 0).toNat_lt
      refine wp_seq_k fun K40 hK41 => ?_
      refine wp_seq_k fun K42 hK43 => ?_
      refine region ?_
      refine sv ha (r_move ha rfl) rfl rfl rfl ?_; clear ha a; intro a ha
      refine sv ha (r_lss ha ((3 * y.1 : Nat) : Int) 168 (decide (3 * y.1 < 168)) rfl rfl (decide_eq_decide.2 (by omega))) rfl rfl rfl ?_; clear ha a; intro a ha
      refine sv ha (r_move ha rfl) rfl rfl rfl ?_; clear ha a; intro a ha
      cases hq44 : (decide (3 * y.1 < 168))
      all_goals rw [hq44] at ha
      case false =>
        replace hq44 := of_decide_eq_false hq44
        refine sno ha rfl rfl rfl rfl rfl rfl ?_; clear ha a; intro a ha
        refine sno ha rfl rfl rfl rfl rfl rfl ?_; clear ha a; intro a ha
        refine sv ha (r_pick ha false rfl rfl) rfl rfl rfl ?_; clear ha a; intro a ha
        refine hK43 _ _ ?_; clear hK43 K42
        refine cond_f ha rfl ?_
        refine wp_exit ?_
        refine hK36 _ _ ?_; clear hK41 K40 hK36 K35
        refine region ?_
        refine sv ha (r_move ha rfl) rfl rfl rfl ?_; clear ha a; intro a ha
        refine sc ha (r_call ha [va] rfl Tryd.call34) rfl rfl rfl (c_rFast va (fpow A g.1) _ hsva (by rw [fpow_len A hLA])) ?_
        clear ha a
        rintro e w45 ⟨b46, rfl, hBc, hb46, hge46⟩
        have hg := grown_call hBc; clear hBc
        have hz46 : w0.heap.size ≤ b46 := Nat.le_trans hB.size hge46
        have hne_hsva_b46 : ∀ j, Value.ownBlock va = some j → j ≠ b46 := fun j hj => by have := hsva.lt j hj; omega
        have hne_ho34_b46 : ∀ j, Value.ownBlock u34 = some j → j ≠ b46 := fun j hj => by have := (ho34.lt j hj).2; omega
        have hq4_46 : b4 < b46 := Nat.lt_of_lt_of_le (lt_of_block hb4) hge46
        have hq8_46 : b8 < b46 := Nat.lt_of_lt_of_le (lt_of_block hb8) hge46
        replace hB := keepB0 hg hB
        replace hb4 := keepO0 hg hb4
        replace hb8 := keepO0 hg hb8
        replace hsva := keepS0 hg hsva
        replace ho34 := keepW0 hg ho34
        clear hg hge46
        refine ⟨_, rfl, ?_⟩; intro a ha
        refine sv ha (r_assign ha rfl) rfl rfl rfl ?_; clear ha a; intro a ha
        refine hK30 _ _ ?_; clear hK30 K29
        refine region ?_
        refine sv ha (r_move ha rfl) rfl rfl rfl ?_; clear ha a; intro a ha
        refine sv ha (rn_add ha g.1 1 rfl rfl (by omega)) rfl rfl rfl ?_; clear ha a; intro a ha
        refine sv ha (r_assign ha rfl) rfl rfl rfl ?_; clear ha a; intro a ha
        exact ⟨(g.1 + 1, y.2), (by show 24 - (g.1 + 1) < 24 - g.1; omega), .slice (some ⟨b46, 0, none⟩) 25 25, (by show g.1 + 1 ≤ 24; omega), hyl, hyn, (by show y.2 = _; rw [hyr, hgr]; exact unU_end _ _ _ (by first | exact .inl (by omega) | exact .inr (by rw [← hgr, ← hyr]; omega)) (by omega)), (fun j hj => by cases hj; exact hz46), (fun j hj => by simp only [Value.ownBlock, Option.some.injEq] at hj; omega), (fun j hj => by simp only [Value.ownBlock, Option.some.injEq] at hj; omega), ha.to [0, 2, 3, 11, 12, 6, 5, 4] rfl, hB, hb4, hb8, (Sl.castM (l := fast (fpow A g.1)) (Sl.ofBlockM hb46 (by rw [fast_len, fpow_len A hLA]) (by omega)) (by rw [fpow]))⟩
      case true =>
        replace hq44 := of_decide_eq_true hq44
        refine svg ha (r_move ha rfl) rfl rfl rfl rfl rfl ?_; clear ha a; intro a ha
        refine svg ha (r_lss ha ((y.2.2 : Nat) : Int) 256 (decide (y.2.2 < 256)) rfl rfl (decide_eq_decide.2 (by omega))) rfl rfl rfl rfl rfl ?_; clear ha a; intro a ha
        refine sv ha (r_pick ha true rfl rfl) rfl rfl rfl ?_; clear ha a; intro a ha
        refine hK43 _ _ ?_; clear hK43 K42
        refine cond_if ha rfl (fun hc47 => ?_) (fun hc47 => ?_)
        · skip
          replace hc47 := of_decide_eq_true hc47
          refine wp_skip ?_
          refine hK41 _ _ ?_; clear hK41 K40
          refine wp_seq_k fun K48 hK49 => ?_
          refine wp_block ?_
          refine wp_seq_k fun K50 hK51 => ?_
          refine regionD (S := fun w => Below w0.heap.size w0 w ∧ w.heap[b4]? = some (.cells ((List.replicate 256 (0 : Int)).map ei).toArray 24 (0, 0)) ∧ w.heap[b8]? = some (.cells ((y.2.1).map ei).toArray 24 (0, 0)) ∧ Sl w va ((fpow A g.1).map e64) ∧ w.ownsRow w0.heap.size 5 1 u34 (rby (fpow A g.1)).length ((rby (fpow A g.1)).map e8) ∧ True) [] [0, 1, 2, 3, 4, 5, 6, 7, 8, 9, 10, 11, 12, 13, 14] [0, 1, 2, 3, 4, 5, 6, 7, 8, 9, 10, 11, 12, 13, 14] mixed (by kernel_rfl) (fun w hg => ⟨keepB0 hg hB, keepO0 hg hb4, keepO0 hg hb8, keepS0 hg hsva, keepW0 hg ho34, trivial⟩) ?_
          intro w52 hg
          replace hB := keepB0 hg hB
          replace hb4 := keepO0 hg hb4
          replace hb8 := keepO0 hg hb8
          replace hsva := keepS0 hg hsva
          replace ho34 := keepW0 hg ho34
          clear hg
          refine cv ha rfl rfl (fun w _ => r_move ha rfl) rfl rfl rfl ?_; clear ha a; intro a ha
          refine cv ha rfl rfl (fun w _ => r_move ha rfl) rfl rfl rfl ?_; clear ha a; intro a ha
          refine cv ha rfl rfl (fun w ⟨hB, hb4, hb8, hsva, ho34, _⟩ => r_indexS (i := 3 * y.1) ha Tryd.runUnderlying22 Tryd.sizeOf5 (Sl.castM (Sl.cutM (lo := 0) (hi := 168) (Sl.ofOwns ho34) (by omega) (by rw [rby_len]; omega)) (ch_ref _ _)) (C := (ch A g.1).map e8) rfl rfl (by rw [List.length_map, ch_len]; omega)) rfl rfl rfl ?_; clear ha a; intro a ha
          refine cv ha rfl rfl (fun w ⟨hB, hb4, hb8, hsva, ho34, _⟩ => r_loadS ha rfl Tryd.isAgg5 (Sl.castM (Sl.cutM (lo := 0) (hi := 168) (Sl.ofOwns ho34) (by omega) (by rw [rby_len]; omega)) (ch_ref _ _)) (get_map e8 (ch A g.1) 0 (3 * y.1) (by rw [ch_len]; omega))) rfl rfl rfl ?_; clear ha a; intro a ha
          refine cv ha rfl rfl (fun w _ => r_conv_u8_i64 ha ((ch A g.1).getD (3 * y.1) 0) Tryd.runUnderlying5 Tryd.runUnderlying3 rfl) rfl rfl rfl ?_; clear ha a; intro a ha
          refine cv ha rfl rfl (fun w _ => r_move ha rfl) rfl rfl rfl ?_; clear ha a; intro a ha
          refine cv ha rfl rfl (fun w _ => r_move ha rfl) rfl rfl rfl ?_; clear ha a; intro a ha
          refine cv ha rfl rfl (fun w _ => rn_add ha (3 * y.1) 1 rfl rfl (by omega)) rfl rfl rfl ?_; clear ha a; intro a ha
          refine cv ha rfl rfl (fun w ⟨hB, hb4, hb8, hsva, ho34, _⟩ => r_indexS (i := (3 * y.1) + 1) ha Tryd.runUnderlying22 Tryd.sizeOf5 (Sl.castM (Sl.cutM (lo := 0) (hi := 168) (Sl.ofOwns ho34) (by omega) (by rw [rby_len]; omega)) (ch_ref _ _)) (C := (ch A g.1).map e8) rfl rfl (by rw [List.length_map, ch_len]; omega)) rfl rfl rfl ?_; clear ha a; intro a ha
          refine cv ha rfl rfl (fun w ⟨hB, hb4, hb8, hsva, ho34, _⟩ => r_loadS ha rfl Tryd.isAgg5 (Sl.castM (Sl.cutM (lo := 0) (hi := 168) (Sl.ofOwns ho34) (by omega) (by rw [rby_len]; omega)) (ch_ref _ _)) (get_map e8 (ch A g.1) 0 ((3 * y.1) + 1) (by rw [ch_len]; omega))) rfl rfl rfl ?_; clear ha a; intro a ha
          refine cv ha rfl rfl (fun w _ => r_conv_u8_i64 ha ((ch A g.1).getD ((3 * y.1) + 1) 0) Tryd.runUnderlying5 Tryd.runUnderlying3 rfl) rfl rfl rfl ?_; clear ha a; intro a ha
          refine cv ha rfl rfl (fun w _ => rn_rem ha (((ch A g.1).getD ((3 * y.1) + 1) 0).toNat) 16 rfl rfl (by omega)) rfl rfl rfl ?_; clear ha a; intro a ha
          refine cv ha rfl rfl (fun w _ => rn_mul ha 256 ((((ch A g.1).getD ((3 * y.1) + 1) 0).toNat) % 16) rfl rfl (by omega)) rfl rfl rfl ?_; clear ha a; intro a ha
          refine cv ha rfl rfl (fun w _ => v_of (rn_add ha (((ch A g.1).getD (3 * y.1) 0).toNat) (256 * ((((ch A g.1).getD ((3 * y.1) + 1) 0).toNat) % 16)) rfl rfl (by omega)) (congrArg en ((lo_eq _ _).symm : (((ch A g.1).getD (3 * y.1) 0).toNat) + (256 * ((((ch A g.1).getD ((3 * y.1) + 1) 0).toNat) % 16)) = loB (ch A g.1) y.1))) rfl rfl rfl ?_; clear ha a; intro a ha
          refine cv ha rfl rfl (fun w _ => r_assign ha rfl) rfl rfl rfl ?_; clear ha a; intro a ha
          refine cfin (hK51 _ _ ?_); clear hK51 K50
          refine wp_seq_k fun K53 hK54 => ?_
          refine regionD (S := fun w => Below w0.heap.size w0 w ∧ w.heap[b4]? = some (.cells ((List.replicate 256 (0 : Int)).map ei).toArray 24 (0, 0)) ∧ w.heap[b8]? = some (.cells ((y.2.1).map ei).toArray 24 (0, 0)) ∧ Sl w va ((fpow A g.1).map e64) ∧ w.ownsRow w0.heap.size 5 1 u34 (rby (fpow A g.1)).length ((rby (fpow A g.1)).map e8) ∧ True) [] [0, 1, 2, 3, 4, 5, 6, 7, 8, 9, 10, 11, 12, 13, 14, 15] [0, 1, 2, 3, 4, 5, 6, 7, 8, 9, 10, 11, 12, 13, 14, 15] mixed (by kernel_rfl) (fun w hg => ⟨keepB0 hg hB, keepO0 hg hb4, keepO0 hg hb8, keepS0 hg hsva, keepW0 hg ho34, trivial⟩) ?_
          intro w55 hg
          replace hB := keepB0 hg hB
          replace hb4 := keepO0 hg hb4
          replace hb8 := keepO0 hg hb8
          replace hsva := keepS0 hg hsva
          replace ho34 := keepW0 hg ho34
          clear hg
          refine cv ha rfl rfl (fun w _ => r_move ha rfl) rfl rfl rfl ?_; clear ha a; intro a ha
          refine cv ha rfl rfl (fun w _ => r_move ha rfl) rfl rfl rfl ?_; clear ha a; intro a ha
          refine cv ha rfl rfl (fun w _ => rn_add ha (3 * y.1) 1 rfl rfl (by omega)) rfl rfl rfl ?_; clear ha a; intro a ha
          refine cv ha rfl rfl (fun w ⟨hB, hb4, hb8, hsva, ho34, _⟩ => r_indexS (i := (3 * y.1) + 1) ha Tryd.runUnderlying22 Tryd.sizeOf5 (Sl.castM (Sl.cutM (lo := 0) (hi := 168) (Sl.ofOwns ho34) (by omega) (by rw [rby_len]; omega)) (ch_ref _ _)) (C := (ch A g.1).map e8) rfl rfl (by rw [List.length_map, ch_len]; omega)) rfl rfl rfl ?_; clear ha a; intro a ha
          refine cv ha rfl rfl (fun w ⟨hB, hb4, hb8, hsva, ho34, _⟩ => r_loadS ha rfl Tryd.isAgg5 (Sl.castM (Sl.cutM (lo := 0) (hi := 168) (Sl.ofOwns ho34) (by omega) (by rw [rby_len]; omega)) (ch_ref _ _)) (get_map e8 (ch A g.1) 0 ((3 * y.1) + 1) (by rw [ch_len]; omega))) rfl rfl rfl ?_; clear ha a; intro a ha
          refine cv ha rfl rfl (fun w _ => r_conv_u8_i64 ha ((ch A g.1).getD ((3 * y.1) + 1) 0) Tryd.runUnderlying5 Tryd.runUnderlying3 rfl) rfl rfl rfl ?_; clear ha a; intro a ha
          refine cv ha rfl rfl (fun w _ => rn_quo ha (((ch A g.1).getD ((3 * y.1) + 1) 0).toNat) 16 rfl rfl (by omega) (by omega)) rfl rfl rfl ?_; clear ha a; intro a ha
          refine cv ha rfl rfl (fun w _ => r_move ha rfl) rfl rfl rfl ?_; clear ha a; intro a ha
          refine cv ha rfl rfl (fun w _ => r_move ha rfl) rfl rfl rfl ?_; clear ha a; intro a ha
          refine cv ha rfl rfl (fun w _ => rn_add ha (3 * y.1) 2 rfl rfl (by omega)) rfl rfl rfl ?_; clear ha a; intro a ha
          refine cv ha rfl rfl (fun w ⟨hB, hb4, hb8, hsva, ho34, _⟩ => r_indexS (i := (3 * y.1) + 2) ha Tryd.runUnderlying22 Tryd.sizeOf5 (Sl.castM (Sl.cutM (lo := 0) (hi := 168) (Sl.ofOwns ho34) (by omega) (by rw [rby_len]; omega)) (ch_ref _ _)) (C := (ch A g.1).map e8) rfl rfl (by rw [List.length_map, ch_len]; omega)) rfl rfl rfl ?_; clear ha a; intro a ha
          refine cv ha rfl rfl (fun w ⟨hB, hb4, hb8, hsva, ho34, _⟩ => r_loadS ha rfl Tryd.isAgg5 (Sl.castM (Sl.cutM (lo := 0) (hi := 168) (Sl.ofOwns ho34) (by omega) (by rw [rby_len]; omega)) (ch_ref _ _)) (get_map e8 (ch A g.1) 0 ((3 * y.1) + 2) (by rw [ch_len]; omega))) rfl rfl rfl ?_; clear ha a; intro a ha
          refine cv ha rfl rfl (fun w _ => r_conv_u8_i64 ha ((ch A g.1).getD ((3 * y.1) + 2) 0) Tryd.runUnderlying5 Tryd.runUnderlying3 rfl) rfl rfl rfl ?_; clear ha a; intro a ha
          refine cv ha rfl rfl (fun w _ => rn_mul ha 16 (((ch A g.1).getD ((3 * y.1) + 2) 0).toNat) rfl rfl (by omega)) rfl rfl rfl ?_; clear ha a; intro a ha
          refine cv ha rfl rfl (fun w _ => v_of (rn_add ha ((((ch A g.1).getD ((3 * y.1) + 1) 0).toNat) / 16) (16 * (((ch A g.1).getD ((3 * y.1) + 2) 0).toNat)) rfl rfl (by omega)) (congrArg en ((hi_eq _ _).symm : ((((ch A g.1).getD ((3 * y.1) + 1) 0).toNat) / 16) + (16 * (((ch A g.1).getD ((3 * y.1) + 2) 0).toNat)) = hiB (ch A g.1) y.1))) rfl rfl rfl ?_; clear ha a; intro a ha
          refine cv ha rfl rfl (fun w _ => r_assign ha rfl) rfl rfl rfl ?_; clear ha a; intro a ha
          refine cfin (hK54 _ _ ?_); clear hK54 K53
          refine wp_seq_k fun K56 hK57 => ?_
          refine wp_seq_k fun K58 hK59 => ?_
          refine region ?_
          refine sv ha (r_move ha rfl) rfl rfl rfl ?_; clear ha a; intro a ha
          refine sv ha (r_lss ha ((loB (ch A g.1) y.1 : Nat) : Int) 3329 (decide (loB (ch A g.1) y.1 < 3329)) rfl rfl (decide_eq_decide.2 (by omega))) rfl rfl rfl ?_; clear ha a; intro a ha
          refine hK59 _ _ ?_; clear hK59 K58
          refine cond_if ha rfl (fun hc60 => ?_) (fun hc60 => ?_)
          · skip
            replace hc60 := of_decide_eq_true hc60
            refine wp_seq_k fun K61 hK62 => ?_
            refine region ?_
            refine sv ha (r_move ha rfl) rfl rfl rfl ?_; clear ha a; intro a ha
            refine sv ha (r_move ha rfl) rfl rfl rfl ?_; clear ha a; intro a ha
            refine sv ha (r_indexArr (i := y.2.2) ha y.2.2 Tryd.runUnderlying24 Tryd.sizeOf3 rfl rfl (by omega) (by omega)) rfl rfl rfl ?_; clear ha a; intro a ha
            refine sstore ha (v := ei ((loB (ch A g.1) y.1 : Nat) : Int)) rfl rfl rfl rfl Tryd.sizeOf3 hb8 (by rw [List.length_map, hyl]; omega) ?_
            clear ha a; intro a w63 ha hg hb8'
            rw [set_map] at hb8'
            clear hb8; have hb8 := hb8'; clear hb8'
            replace hB := keepB1 hg (by omega) hB
            replace hb4 := keepO1 hg (by omega) hb4
            replace hsva := keepS1 hg (ne_of_ap hnb_va_b8) hsva
            replace ho34 := keepW1 hg (ne_of_ap hnb_ho34_b8) ho34
            clear hg
            refine hK62 _ _ ?_; clear hK62 K61
            refine region ?_
            refine sv ha (r_move ha rfl) rfl rfl rfl ?_; clear ha a; intro a ha
            refine sv ha (rn_add ha y.2.2 1 rfl rfl (by omega)) rfl rfl rfl ?_; clear ha a; intro a ha
            refine sv ha (r_assign ha rfl) rfl rfl rfl ?_; clear ha a; intro a ha
            refine hK57 _ _ ?_; clear hK57 K56
            refine wp_seq_k fun K64 hK65 => ?_
            refine region ?_
            refine sv ha (r_move ha rfl) rfl rfl rfl ?_; clear ha a; intro a ha
            refine sv ha (r_lss ha ((hiB (ch A g.1) y.1 : Nat) : Int) 3329 (decide (hiB (ch A g.1) y.1 < 3329)) rfl rfl (decide_eq_decide.2 (by omega))) rfl rfl rfl ?_; clear ha a; intro a ha
            refine sv ha (r_move ha rfl) rfl rfl rfl ?_; clear ha a; intro a ha
            cases hq66 : (decide (hiB (ch A g.1) y.1 < 3329))
            all_goals rw [hq66] at ha
            case false =>
              replace hq66 := of_decide_eq_false hq66
              refine sno ha rfl rfl rfl rfl rfl rfl ?_; clear ha a; intro a ha
              refine sno ha rfl rfl rfl rfl rfl rfl ?_; clear ha a; intro a ha
              refine sv ha (r_pick ha false rfl rfl) rfl rfl rfl ?_; clear ha a; intro a ha
              refine hK65 _ _ ?_; clear hK65 K64
              refine cond_f ha rfl ?_
              refine wp_skip ?_
              refine hK49 _ _ ?_; clear hK49 K48
              refine region ?_
              refine sv ha (r_move ha rfl) rfl rfl rfl ?_; clear ha a; intro a ha
              refine sv ha (rn_add ha (3 * y.1) 3 rfl rfl (by omega)) rfl rfl rfl ?_; clear ha a; intro a ha
              refine sv ha (r_assign ha rfl) rfl rfl rfl ?_; clear ha a; intro a ha
              exact ⟨(y.1 + 1, y.2.1.set y.2.2 ((loB (ch A g.1) y.1 : Nat) : Int), y.2.2 + 1), (by show 56 - (y.1 + 1) < 56 - y.1; omega), (by show y.1 + 1 ≤ 56; omega), (by first | exact hyl | (dsimp only; simp only [List.length_set]; exact hyl)), (by dsimp only; omega), (by rw [rjB_step, ← hyr]; first | (rw [rej_t ((loB (ch A g.1) y.1 : Nat) : Int) _ (by omega) (by omega), rej_t _ _ (by omega) (by dsimp only; omega)]; done) | (rw [rej_t ((loB (ch A g.1) y.1 : Nat) : Int) _ (by omega) (by omega), rej_full _ _ (by dsimp only; omega)]; done) | (rw [rej_t ((loB (ch A g.1) y.1 : Nat) : Int) _ (by omega) (by omega), rej_f _ _ (by omega)]; done) | (rw [rej_f ((loB (ch A g.1) y.1 : Nat) : Int) _ (by omega), rej_t _ _ (by omega) (by omega)]; done) | (rw [rej_f ((loB (ch A g.1) y.1 : Nat) : Int) _ (by omega), rej_f _ _ (by omega)]; done) | (exfalso; omega)), ha.to [0, 2, 3, 11, 12, 6, 4, 13, 14, 15, 16, 17, 18, 21, 22, 23, 7, 8, 5] rfl, hB, hb4, hb8, hsva, ho34⟩
            case true =>
              replace hq66 := of_decide_eq_true hq66
              refine svg ha (r_move ha rfl) rfl rfl rfl rfl rfl ?_; clear ha a; intro a ha
              refine svg ha (r_lss ha ((y.2.2 + 1 : Nat) : Int) 256 (decide (y.2.2 + 1 < 256)) rfl rfl (decide_eq_decide.2 (by omega))) rfl rfl rfl rfl rfl ?_; clear ha a; intro a ha
              refine sv ha (r_pick ha true rfl rfl) rfl rfl rfl ?_; clear ha a; intro a ha
              refine hK65 _ _ ?_; clear hK65 K64
              refine cond_if ha rfl (fun hc67 => ?_) (fun hc67 => ?_)
              · skip
                replace hc67 := of_decide_eq_true hc67
                refine wp_seq_k fun K68 hK69 => ?_
                refine region ?_
                refine sv ha (r_move ha rfl) rfl rfl rfl ?_; clear ha a; intro a ha
                refine sv ha (r_move ha rfl) rfl rfl rfl ?_; clear ha a; intro a ha
                refine sv ha (r_indexArr (i := y.2.2 + 1) ha (y.2.2 + 1) Tryd.runUnderlying24 Tryd.sizeOf3 rfl rfl (by omega) (by omega)) rfl rfl rfl ?_; clear ha a; intro a ha
                refine sstore ha (v := ei ((hiB (ch A g.1) y.1 : Nat) : Int)) rfl rfl rfl rfl Tryd.sizeOf3 hb8 (by rw [List.length_map, List.length_set, hyl]; omega) ?_
                clear ha a; intro a w70 ha hg hb8'
                rw [set_map] at hb8'
                clear hb8; have hb8 := hb8'; clear hb8'
                replace hB := keepB1 hg (by omega) hB
                replace hb4 := keepO1 hg (by omega) hb4
                replace hsva := keepS1 hg (ne_of_ap hnb_va_b8) hsva
                replace ho34 := keepW1 hg (ne_of_ap hnb_ho34_b8) ho34
                clear hg
                refine hK69 _ _ ?_; clear hK69 K68
                refine region ?_
                refine sv ha (r_move ha rfl) rfl rfl rfl ?_; clear ha a; intro a ha
                refine sv ha (rn_add ha (y.2.2 + 1) 1 rfl rfl (by omega)) rfl rfl rfl ?_; clear ha a; intro a ha
                refine sv ha (r_assign ha rfl) rfl rfl rfl ?_; clear ha a; intro a ha
                refine hK49 _ _ ?_; clear hK49 K48
                refine region ?_
                refine sv ha (r_move ha rfl) rfl rfl rfl ?_; clear ha a; intro a ha
                refine sv ha (rn_add ha (3 * y.1) 3 rfl rfl (by omega)) rfl rfl rfl ?_; clear ha a; intro a ha
                refine sv ha (r_assign ha rfl) rfl rfl rfl ?_; clear ha a; intro a ha
                exact ⟨(y.1 + 1, (y.2.1.set y.2.2 ((loB (ch A g.1) y.1 : Nat) : Int)).set (y.2.2 + 1) ((hiB (ch A g.1) y.1 : Nat) : Int), (y.2.2 + 1) + 1), (by show 56 - (y.1 + 1) < 56 - y.1; omega), (by show y.1 + 1 ≤ 56; omega), (by first | exact hyl | (dsimp only; simp only [List.length_set]; exact hyl)), (by dsimp only; omega), (by rw [rjB_step, ← hyr]; first | (rw [rej_t ((loB (ch A g.1) y.1 : Nat) : Int) _ (by omega) (by omega), rej_t _ _ (by omega) (by dsimp only; omega)]; done) | (rw [rej_t ((loB (ch A g.1) y.1 : Nat) : Int) _ (by omega) (by omega), rej_full _ _ (by dsimp only; omega)]; done) | (rw [rej_t ((loB (ch A g.1) y.1 : Nat) : Int) _ (by omega) (by omega), rej_f _ _ (by omega)]; done) | (rw [rej_f ((loB (ch A g.1) y.1 : Nat) : Int) _ (by omega), rej_t _ _ (by omega) (by omega)]; done) | (rw [rej_f ((loB (ch A g.1) y.1 : Nat) : Int) _ (by omega), rej_f _ _ (by omega)]; done) | (exfalso; omega)), ha.to [0, 2, 3, 11, 12, 6, 4, 13, 14, 15, 16, 17, 18, 21, 22, 23, 7, 8, 5] rfl, hB, hb4, hb8, hsva, ho34⟩
              · skip
                replace hc67 := of_decide_eq_false hc67
                refine wp_skip ?_
                refine hK49 _ _ ?_; clear hK49 K48
                refine region ?_
                refine sv ha (r_move ha rfl) rfl rfl rfl ?_; clear ha a; intro a ha
                refine sv ha (rn_add ha (3 * y.1) 3 rfl rfl (by omega)) rfl rfl rfl ?_; clear ha a; intro a ha
                refine sv ha (r_assign ha rfl) rfl rfl rfl ?_; clear ha a; intro a ha
                exact ⟨(y.1 + 1, y.2.1.set y.2.2 ((loB (ch A g.1) y.1 : Nat) : Int), y.2.2 + 1), (by show 56 - (y.1 + 1) < 56 - y.1; omega), (by show y.1 + 1 ≤ 56; omega), (by first | exact hyl | (dsimp only; simp only [List.length_set]; exact hyl)), (by dsimp only; omega), (by rw [rjB_step, ← hyr]; first | (rw [rej_t ((loB (ch A g.1) y.1 : Nat) : Int) _ (by omega) (by omega), rej_t _ _ (by omega) (by dsimp only; omega)]; done) | (rw [rej_t ((loB (ch A g.1) y.1 : Nat) : Int) _ (by omega) (by omega), rej_full _ _ (by dsimp only; omega)]; done) | (rw [rej_t ((loB (ch A g.1) y.1 : Nat) : Int) _ (by omega) (by omega), rej_f _ _ (by omega)]; done) | (rw [rej_f ((loB (ch A g.1) y.1 : Nat) : Int) _ (by omega), rej_t _ _ (by omega) (by omega)]; done) | (rw [rej_f ((loB (ch A g.1) y.1 : Nat) : Int) _ (by omega), rej_f _ _ (by omega)]; done) | (exfalso; omega)), ha.to [0, 2, 3, 11, 12, 6, 4, 13, 14, 15, 16, 17, 18, 21, 22, 23, 7, 8, 5] rfl, hB, hb4, hb8, hsva, ho34⟩
          · skip
            replace hc60 := of_decide_eq_false hc60
            refine wp_skip ?_
            refine hK57 _ _ ?_; clear hK57 K56
            refine wp_seq_k fun K71 hK72 => ?_
            refine region ?_
            refine sv ha (r_move ha rfl) rfl rfl rfl ?_; clear ha a; intro a ha
            refine sv ha (r_lss ha ((hiB (ch A g.1) y.1 : Nat) : Int) 3329 (decide (hiB (ch A g.1) y.1 < 3329)) rfl rfl (decide_eq_decide.2 (by omega))) rfl rfl rfl ?_; clear ha a; intro a ha
            refine sv ha (r_move ha rfl) rfl rfl rfl ?_; clear ha a; intro a ha
            cases hq73 : (decide (hiB (ch A g.1) y.1 < 3329))
            all_goals rw [hq73] at ha
            case false =>
              replace hq73 := of_decide_eq_false hq73
              refine sno ha rfl rfl rfl rfl rfl rfl ?_; clear ha a; intro a ha
              refine sno ha rfl rfl rfl rfl rfl rfl ?_; clear ha a; intro a ha
              refine sv ha (r_pick ha false rfl rfl) rfl rfl rfl ?_; clear ha a; intro a ha
              refine hK72 _ _ ?_; clear hK72 K71
              refine cond_f ha rfl ?_
              refine wp_skip ?_
              refine hK49 _ _ ?_; clear hK49 K48
              refine region ?_
              refine sv ha (r_move ha rfl) rfl rfl rfl ?_; clear ha a; intro a ha
              refine sv ha (rn_add ha (3 * y.1) 3 rfl rfl (by omega)) rfl rfl rfl ?_; clear ha a; intro a ha
              refine sv ha (r_assign ha rfl) rfl rfl rfl ?_; clear ha a; intro a ha
              exact ⟨(y.1 + 1, y.2.1, y.2.2), (by show 56 - (y.1 + 1) < 56 - y.1; omega), (by show y.1 + 1 ≤ 56; omega), (by first | exact hyl | (dsimp only; simp only [List.length_set]; exact hyl)), (by dsimp only; omega), (by rw [rjB_step, ← hyr]; first | (rw [rej_t ((loB (ch A g.1) y.1 : Nat) : Int) _ (by omega) (by omega), rej_t _ _ (by omega) (by dsimp only; omega)]; done) | (rw [rej_t ((loB (ch A g.1) y.1 : Nat) : Int) _ (by omega) (by omega), rej_full _ _ (by dsimp only; omega)]; done) | (rw [rej_t ((loB (ch A g.1) y.1 : Nat) : Int) _ (by omega) (by omega), rej_f _ _ (by omega)]; done) | (rw [rej_f ((loB (ch A g.1) y.1 : Nat) : Int) _ (by omega), rej_t _ _ (by omega) (by omega)]; done) | (rw [rej_f ((loB (ch A g.1) y.1 : Nat) : Int) _ (by omega), rej_f _ _ (by omega)]; done) | (exfalso; omega)), ha.to [0, 2, 3, 11, 12, 6, 4, 13, 14, 15, 16, 17, 18, 21, 22, 23, 7, 8, 5] rfl, hB, hb4, hb8, hsva, ho34⟩
            case true =>
              replace hq73 := of_decide_eq_true hq73
              refine svg ha (r_move ha rfl) rfl rfl rfl rfl rfl ?_; clear ha a; intro a ha
              refine svg ha (r_lss ha ((y.2.2 : Nat) : Int) 256 (decide (y.2.2 < 256)) rfl rfl (decide_eq_decide.2 (by omega))) rfl rfl rfl rfl rfl ?_; clear ha a; intro a ha
              refine sv ha (r_pick ha true rfl rfl) rfl rfl rfl ?_; clear ha a; intro a ha
              refine hK72 _ _ ?_; clear hK72 K71
              refine cond_if ha rfl (fun hc74 => ?_) (fun hc74 => ?_)
              · skip
                replace hc74 := of_decide_eq_true hc74
                refine wp_seq_k fun K75 hK76 => ?_
                refine region ?_
                refine sv ha (r_move ha rfl) rfl rfl rfl ?_; clear ha a; intro a ha
                refine sv ha (r_move ha rfl) rfl rfl rfl ?_; clear ha a; intro a ha
                refine sv ha (r_indexArr (i := y.2.2) ha y.2.2 Tryd.runUnderlying24 Tryd.sizeOf3 rfl rfl (by omega) (by omega)) rfl rfl rfl ?_; clear ha a; intro a ha
                refine sstore ha (v := ei ((hiB (ch A g.1) y.1 : Nat) : Int)) rfl rfl rfl rfl Tryd.sizeOf3 hb8 (by rw [List.length_map, hyl]; omega) ?_
                clear ha a; intro a w77 ha hg hb8'
                rw [set_map] at hb8'
                clear hb8; have hb8 := hb8'; clear hb8'
                replace hB := keepB1 hg (by omega) hB
                replace hb4 := keepO1 hg (by omega) hb4
                replace hsva := keepS1 hg (ne_of_ap hnb_va_b8) hsva
                replace ho34 := keepW1 hg (ne_of_ap hnb_ho34_b8) ho34
                clear hg
                refine hK76 _ _ ?_; clear hK76 K75
                refine region ?_
                refine sv ha (r_move ha rfl) rfl rfl rfl ?_; clear ha a; intro a ha
                refine sv ha (rn_add ha y.2.2 1 rfl rfl (by omega)) rfl rfl rfl ?_; clear ha a; intro a ha
                refine sv ha (r_assign ha rfl) rfl rfl rfl ?_; clear ha a; intro a ha
                refine hK49 _ _ ?_; clear hK49 K48
                refine region ?_
                refine sv ha (r_move ha rfl) rfl rfl rfl ?_; clear ha a; intro a ha
                refine sv ha (rn_add ha (3 * y.1) 3 rfl rfl (by omega)) rfl rfl rfl ?_; clear ha a; intro a ha
                refine sv ha (r_assign ha rfl) rfl rfl rfl ?_; clear ha a; intro a ha
                exact ⟨(y.1 + 1, y.2.1.set y.2.2 ((hiB (ch A g.1) y.1 : Nat) : Int), y.2.2 + 1), (by show 56 - (y.1 + 1) < 56 - y.1; omega), (by show y.1 + 1 ≤ 56; omega), (by first | exact hyl | (dsimp only; simp only [List.length_set]; exact hyl)), (by dsimp only; omega), (by rw [rjB_step, ← hyr]; first | (rw [rej_t ((loB (ch A g.1) y.1 : Nat) : Int) _ (by omega) (by omega), rej_t _ _ (by omega) (by dsimp only; omega)]; done) | (rw [rej_t ((loB (ch A g.1) y.1 : Nat) : Int) _ (by omega) (by omega), rej_full _ _ (by dsimp only; omega)]; done) | (rw [rej_t ((loB (ch A g.1) y.1 : Nat) : Int) _ (by omega) (by omega), rej_f _ _ (by omega)]; done) | (rw [rej_f ((loB (ch A g.1) y.1 : Nat) : Int) _ (by omega), rej_t _ _ (by omega) (by omega)]; done) | (rw [rej_f ((loB (ch A g.1) y.1 : Nat) : Int) _ (by omega), rej_f _ _ (by omega)]; done) | (exfalso; omega)), ha.to [0, 2, 3, 11, 12, 6, 4, 13, 14, 15, 16, 17, 18, 21, 22, 23, 7, 8, 5] rfl, hB, hb4, hb8, hsva, ho34⟩
              · skip
                replace hc74 := of_decide_eq_false hc74
                refine wp_skip ?_
                refine hK49 _ _ ?_; clear hK49 K48
                refine region ?_
                refine sv ha (r_move ha rfl) rfl rfl rfl ?_; clear ha a; intro a ha
                refine sv ha (rn_add ha (3 * y.1) 3 rfl rfl (by omega)) rfl rfl rfl ?_; clear ha a; intro a ha
                refine sv ha (r_assign ha rfl) rfl rfl rfl ?_; clear ha a; intro a ha
                exact ⟨(y.1 + 1, y.2.1, y.2.2), (by show 56 - (y.1 + 1) < 56 - y.1; omega), (by show y.1 + 1 ≤ 56; omega), (by first | exact hyl | (dsimp only; simp only [List.length_set]; exact hyl)), (by dsimp only; omega), (by rw [rjB_step, ← hyr]; first | (rw [rej_t ((loB (ch A g.1) y.1 : Nat) : Int) _ (by omega) (by omega), rej_t _ _ (by omega) (by dsimp only; omega)]; done) | (rw [rej_t ((loB (ch A g.1) y.1 : Nat) : Int) _ (by omega) (by omega), rej_full _ _ (by dsimp only; omega)]; done) | (rw [rej_t ((loB (ch A g.1) y.1 : Nat) : Int) _ (by omega) (by omega), rej_f _ _ (by omega)]; done) | (rw [rej_f ((loB (ch A g.1) y.1 : Nat) : Int) _ (by omega), rej_t _ _ (by omega) (by omega)]; done) | (rw [rej_f ((loB (ch A g.1) y.1 : Nat) : Int) _ (by omega), rej_f _ _ (by omega)]; done) | (exfalso; omega)), ha.to [0, 2, 3, 11, 12, 6, 4, 13, 14, 15, 16, 17, 18, 21, 22, 23, 7, 8, 5] rfl, hB, hb4, hb8, hsva, ho34⟩
        · skip
          replace hc47 := of_decide_eq_false hc47
          refine wp_exit ?_
          refine hK36 _ _ ?_; clear hK41 K40 hK36 K35
          refine region ?_
          refine sv ha (r_move ha rfl) rfl rfl rfl ?_; clear ha a; intro a ha
          refine sc ha (r_call ha [va] rfl Tryd.call34) rfl rfl rfl (c_rFast va (fpow A g.1) _ hsva (by rw [fpow_len A hLA])) ?_
          clear ha a
          rintro e w78 ⟨b79, rfl, hBc, hb79, hge79⟩
          have hg := grown_call hBc; clear hBc
          have hz79 : w0.heap.size ≤ b79 := Nat.le_trans hB.size hge79
          have hne_hsva_b79 : ∀ j, Value.ownBlock va = some j → j ≠ b79 := fun j hj => by have := hsva.lt j hj; omega
          have hne_ho34_b79 : ∀ j, Value.ownBlock u34 = some j → j ≠ b79 := fun j hj => by have := (ho34.lt j hj).2; omega
          have hq4_79 : b4 < b79 := Nat.lt_of_lt_of_le (lt_of_block hb4) hge79
          have hq8_79 : b8 < b79 := Nat.lt_of_lt_of_le (lt_of_block hb8) hge79
          replace hB := keepB0 hg hB
          replace hb4 := keepO0 hg hb4
          replace hb8 := keepO0 hg hb8
          replace hsva := keepS0 hg hsva
          replace ho34 := keepW0 hg ho34
          clear hg hge79
          refine ⟨_, rfl, ?_⟩; intro a ha
          refine sv ha (r_assign ha rfl) rfl rfl rfl ?_; clear ha a; intro a ha
          refine hK30 _ _ ?_; clear hK30 K29
          refine region ?_
          refine sv ha (r_move ha rfl) rfl rfl rfl ?_; clear ha a; intro a ha
          refine sv ha (rn_add ha g.1 1 rfl rfl (by omega)) rfl rfl rfl ?_; clear ha a; intro a ha
          refine sv ha (r_assign ha rfl) rfl rfl rfl ?_; clear ha a; intro a ha
          exact ⟨(g.1 + 1, y.2), (by show 24 - (g.1 + 1) < 24 - g.1; omega), .slice (some ⟨b79, 0, none⟩) 25 25, (by show g.1 + 1 ≤ 24; omega), hyl, hyn, (by show y.2 = _; rw [hyr, hgr]; exact unU_end _ _ _ (by first | exact .inl (by omega) | exact .inr (by rw [← hgr, ← hyr]; omega)) (by omega)), (fun j hj => by cases hj; exact hz79), (fun j hj => by simp only [Value.ownBlock, Option.some.injEq] at hj; omega), (fun j hj => by simp only [Value.ownBlock, Option.some.injEq] at hj; omega), ha.to [0, 2, 3, 11, 12, 6, 5, 4] rfl, hB, hb4, hb8, (Sl.castM (l := fast (fpow A g.1)) (Sl.ofBlockM hb79 (by rw [fast_len, fpow_len A hLA]) (by omega)) (by rw [fpow]))⟩
    · skip
      replace hc28 := of_decide_eq_false hc28
      refine wp_exit ?_
      refine hK16 _ _ ?_; clear hK21 K20 hK16 K15
      refine wp_seq_k fun K80 hK81 => ?_
      refine region ?_
      refine sv ha (r_loadR ha rfl Tryd.isAgg24 Tryd.sizeOf24 (C := (g.2.1).map ei) (by rw [List.length_map, hgl]) (cells_all hb8)) rfl rfl rfl ?_; clear ha a; intro a ha
      refine sstoreW ha rfl rfl (one_ei _) Tryd.sizeOf24 (by rw [List.length_map, hgl]) hb4 (by rw [List.length_map, List.length_replicate]) ?_
      clear ha a; intro a w82 ha hg hb4'
      clear hb4; have hb4 := hb4'; clear hb4'
      replace hB := keepB1 hg (by omega) hB
      replace hb8 := keepO1 hg (by omega) hb8
      replace hsva := keepS1 hg (ne_of_ap hnb_va_b4) hsva
      clear hg
      refine hK81 _ _ ?_; clear hK81 K80
      refine wp_ret ?_
      repeat (first | (with_reducible refine t_ret ?_) | (with_reducible refine x_ret ?_))
      exact retC _ ha Tryd.results13 rfl hb4 Tryd.underlying24 rfl (by rw [List.length_map, hgl]; kernel_rfl) ⟨(congrArg (fun l : List Int => Ending.returned (Value.agg (l.map ei).toArray)) (uni_of seed A hAe.symm g.1 (by omega) g.2 hgr (by omega))), hB⟩
end Go.Proofs.YtaignhikdfpbbaaDoor
