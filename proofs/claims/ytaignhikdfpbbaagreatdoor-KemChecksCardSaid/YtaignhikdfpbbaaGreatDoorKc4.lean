/- Texts of this claim, one behind the other: M1, M2, Q7, N2, M3, M4, N3, N4. -/
import Derived.Test.YtaignhikdfpbbaaGreatDoorKc3
import Derived.Test.YtaignhikdfpbbaaGreatDoorKc2
import Derived.Test.YtaignhikdfpbbaaGreatDoorKc1
set_option linter.unusedVariables false
set_option linter.unusedSimpArgs false
/- WALKS written by gen.py (own program) out of specs. -/
namespace Go.Proofs.YtaignhikdfpbbaaGreatDoor
open Go.RowKit Go.Rx
set_option maxRecDepth 100000
set_option maxHeartbeats 4000000
set_option linter.unusedVariables false
set_option linter.unusedSimpArgs false

theorem zero_50M1 : ∀ w, (zeroValue 50).run Tryz.prog w = .ok (.agg ((List.replicate 256 (0 : Int)).map ei).toArray) w := fun _ => by kernel_rfl
theorem c_small (v : Value) (seed : List UInt8) (n : Nat) (w0 : World) (hs : Sl w0 v (seed.map e8)) (hk : seed.length ≤ 50000) (hn : n ≤ 1000) (hG : Glob w0) :
    Calls Tryz.prog 48 #[v, en n] w0 fun e w' => e = .returned (.agg ((small2 seed n).map ei).toArray) ∧ Below w0.heap.size w0 w' := by
 refine enter (args := [_, _]) Tryz.func48 rfl Tryz.ntmps48 rfl ?_
 intro a ha
 have hB := Below.refl w0.heap.size w0
 refine qr fun K1 k2 => ?_
 refine salloc ha zero_50M1 rfl ?_
 intro a w3 b4 ha hg hb4 hge4 hlt4
 have hz4 := Nat.le_trans hB.size hge4
 replace hB := keepB0 hg hB
 refine k2 _ _ ?_
 refine qr fun K5 k6 => ?_
 refine s3 ha rfl (mv rfl) (mv rfl) (fun _ ha => r_conv_n_u8w ha n Tryz.runUnderlying3 Tryz.runUnderlying5 rfl) ?_; intro a ha
 refine scp ha (r_call ha [en 2, v, e8 (UInt8.ofNat n)] rfl Tryz.call97) rfl rfl rfl (c_prf1 2 v seed (UInt8.ofNat n) _ (by omega) (hs.below hB) (by omega) (glob_keep hG hB)) ?_; intro w7 hg a ha
 replace hB := keepB0 hg hB
 replace hb4 := keepO0 hg hb4
 refine s3 ha rfl (mv rfl) (fun _ ha => r_extract ha (vs := #[.agg ((noA 2 (prfB (2 : Int) seed (UInt8.ofNat n)) 256).map ei).toArray, en 0]) rfl rfl) (fun _ ha => r_extract ha (vs := #[.agg ((noA 2 (prfB (2 : Int) seed (UInt8.ofNat n)) 256).map ei).toArray, en 0]) rfl rfl) ?_; intro a ha
 refine salloc ha zero_50M1 rfl ?_
 intro a w8 b9 ha hg hb9 hge9 hlt9
 have hz9 := Nat.le_trans hB.size hge9
 have hq4_9 := bl hb4 hge9
 replace hB := keepB0 hg hB
 replace hb4 := keepO0 hg hb4
 refine sstoreW ha rfl rfl (one_ei _) Tryz.sizeOf50 (by rw [List.length_map, noA_len]) hb9 (by rw [List.length_map, List.length_replicate]) ?_
 intro a w10 ha hg hb9'
 replace hb9 := hb9'
 replace hB := keepB1 hg (by omega) hB
 replace hb4 := keepO1 hg (by omega) hb4
 refine s1 ha rfl (av rfl) ?_; intro a ha
 refine k6 _ _ ?_
 refine qr fun K11 k12 => ?_
 refine s1 ha rfl (fun _ ha => r_loadR ha rfl Tryz.isAgg50 Tryz.sizeOf50 (C := (noA 2 (prfB (2 : Int) seed (UInt8.ofNat n)) 256).map ei) (by rw [List.length_map, noA_len]) (cells_all hb9)) ?_; intro a ha
 refine sstoreW ha rfl rfl (one_ei _) Tryz.sizeOf50 (by rw [List.length_map, noA_len]) hb4 (by rw [List.length_map, List.length_replicate]) ?_
 intro a w13 ha hg hb4'
 replace hb4 := hb4'
 replace hB := keepB1 hg (by omega) hB
 replace hb9 := keepO1 hg (by omega) hb9
 refine k12 _ _ ?_
 refine wp_ret ?_
 exact retC _ ha Tryz.results48 rfl hb4 Tryz.underlying50 rfl (by rw [List.length_map, noA_len]; kernel_rfl) ⟨rfl, hB⟩

theorem zero_52M1 : ∀ w, (zeroValue 52).run Tryz.prog w = .ok (.agg ((List.replicate 768 (0 : Int)).map ei).toArray) w := fun _ => by kernel_rfl
theorem c_smalls (v : Value) (seed : List UInt8) (n : Nat) (w0 : World) (hs : Sl w0 v (seed.map e8)) (hk : seed.length ≤ 50000) (hn : n ≤ 900) (hG : Glob w0) :
    Calls Tryz.prog 37 #[v, en n] w0 fun e w' => e = .returned (.agg ((smA seed n 3).map ei).toArray) ∧ Below w0.heap.size w0 w' := by
 refine enter (args := [_, _]) Tryz.func37 rfl Tryz.ntmps37 rfl ?_
 intro a ha
 have hB := Below.refl w0.heap.size w0
 refine qr fun K1 k2 => ?_
 refine salloc ha zero_52M1 rfl ?_
 intro a w3 b4 ha hg hb4 hge4 hlt4
 have hz4 := Nat.le_trans hB.size hge4
 replace hB := keepB0 hg hB
 refine k2 _ _ ?_
 refine qr fun K5 k6 => ?_
 refine salloc ha zero_52M1 rfl ?_
 intro a w7 b8 ha hg hb8 hge8 hlt8
 have hz8 := Nat.le_trans hB.size hge8
 have hq4_8 := bl hb4 hge8
 replace hB := keepB0 hg hB
 replace hb4 := keepO0 hg hb4
 refine k6 _ _ ?_
 refine wp_seq_k fun K9 k10 => ?_
 refine qr fun K11 k12 => ?_
 refine s1 ha rfl (mv rfl) ?_; intro a ha
 refine k12 _ _ ?_
 refine wp_block ?_
 refine loopG (fun (i : Nat) a w => (i ≤ 3) ∧ Has 19 [(0, v), (1, en n), (4, .pointer (some ⟨b4, 0, none⟩)), (5, .pointer (some ⟨b8, 0, none⟩)), (7, en i)] a ∧ Below w0.heap.size w0 w ∧ w.heap[b4]? = some (.cells ((List.replicate 768 (0 : Int)).map ei).toArray 52 (0, 0)) ∧ w.heap[b8]? = some (.cells ((smA seed n i).map ei).toArray 52 (0, 0))) (fun i => 3 - i) 0 ⟨(by omega), ha.to [0, 1, 4, 5, 7] rfl, hB, hb4, hb8⟩ ?_
 clear ha a hB hb4 hb8
 intro i a w13 ⟨hki, ha, hB, hb4, hb8⟩
 refine qr fun K14 k15 => ?_
 refine s1 ha rfl (fun _ ha => r_lss ha ((i : Nat) : Int) 3 (decide (i < 3)) rfl rfl (decide_eq_decide.2 (by omega))) ?_; intro a ha
 refine k15 _ _ ?_
 refine wp_seq_k fun K16 k17 => ?_
 refine cond_if ha rfl (fun hc18 => ?_) (fun hc18 => ?_)
 ·skip
  replace hc18 := of_decide_eq_true hc18
  refine wp_skip ?_
  refine k17 _ _ ?_
  refine wp_seq_k fun K19 k20 => ?_
  refine wp_block ?_
  refine qr fun K21 k22 => ?_
  refine s2 ha rfl (mv rfl) (av rfl) ?_; intro a ha
  refine k22 _ _ ?_
  refine region ?_
  refine s5 ha rfl (mv rfl) (mv rfl) (mv rfl) (mv rfl) (fun _ ha => rn_add ha n i rfl rfl (by omega)) ?_; intro a ha
  refine scp ha (r_call ha [v, en (n + i)] rfl Tryz.call48) rfl rfl rfl (c_small v seed (n + i) _ (hs.below hB) (by omega) (by omega) (glob_keep hG hB)) ?_; intro w23 hg a ha
  replace hB := keepB0 hg hB
  replace hb4 := keepO0 hg hb4
  replace hb8 := keepO0 hg hb8
  refine s1 ha rfl (fun _ ha => r_indexArr (i := i) ha (i * 256) Tryz.runUnderlying52 Tryz.sizeOf50 rfl rfl (by omega) (by omega)) ?_; intro a ha
  refine sstoreR ha rfl rfl (one_ei _) Tryz.sizeOf50 (by rw [List.length_map, small2_len]) hb8 (by simp only [List.length_map]; rw [small2_len, smA_len _ _ _ (by omega)]; omega) ?_
  intro a w24 ha hg hb8'
  rw [rs_map _ _ _ (by rw [small2_len])] at hb8'
  replace hb8 := hb8'
  replace hB := keepB1 hg (by omega) hB
  replace hb4 := keepO1 hg (by omega) hb4
  refine k20 _ _ ?_
  refine region ?_
  refine s2 ha rfl (fun _ ha => rn_add ha i 1 rfl rfl (by omega)) (mv rfl) ?_; intro a ha
  exact ⟨i + 1, by omega, (by omega), ha.to [0, 1, 4, 5, 7] rfl, hB, hb4, hb8⟩
 ·skip
  replace hc18 := of_decide_eq_false hc18
  refine wp_exit ?_
  obtain rfl : i = 3 := by omega
  refine k10 _ _ ?_
  refine qr fun K25 k26 => ?_
  refine s1 ha rfl (fun _ ha => r_loadR ha rfl Tryz.isAgg52 Tryz.sizeOf52 (C := (smA seed n 3).map ei) (by rw [List.length_map, smA_len _ _ _ (by omega)]) (cells_all hb8)) ?_; intro a ha
  refine sstoreW ha rfl rfl (one_ei _) Tryz.sizeOf52 (by rw [List.length_map, smA_len _ _ _ (by omega)]) hb4 (by rw [List.length_map, List.length_replicate]) ?_
  intro a w27 ha hg hb4'
  replace hb4 := hb4'
  replace hB := keepB1 hg (by omega) hB
  replace hb8 := keepO1 hg (by omega) hb8
  refine k26 _ _ ?_
  refine wp_ret ?_
  exact retC _ ha Tryz.results37 rfl hb4 Tryz.underlying52 rfl (by rw [List.length_map, smA_len _ _ _ (by omega)]; kernel_rfl) ⟨rfl, hB⟩

theorem c_eachFr (r : List Int) (w0 : World) (hr : r.length = 768) (hG : Glob w0) (hP : GlobP w0) :
    Calls Tryz.prog 38 #[.agg ((r).map ei).toArray, .func (.func 39) #[] #[]] w0 fun e w' => e = .returned (.agg ((eaR fwd r 3).map ei).toArray) ∧ Below w0.heap.size w0 w' := by
 refine enter (args := [_, _]) Tryz.func38 rfl Tryz.ntmps38 rfl ?_
 intro a ha
 have hB := Below.refl w0.heap.size w0
 refine qr fun K1 k2 => ?_
 refine sbox ha rfl rfl ?_
 intro a w3 b4 ha hg hb4 hge4 hlt4
 have hz4 := Nat.le_trans hB.size hge4
 replace hB := keepB0 hg hB
 refine salloc ha zero_52M1 rfl ?_
 intro a w5 b6 ha hg hb6 hge6 hlt6
 have hz6 := Nat.le_trans hB.size hge6
 have hq4_6 := bl hb4 hge6
 replace hB := keepB0 hg hB
 replace hb4 := keepO0 hg hb4
 refine k2 _ _ ?_
 refine wp_seq_k fun K7 k8 => ?_
 refine qr fun K9 k10 => ?_
 refine s1 ha rfl (mv rfl) ?_; intro a ha
 refine k10 _ _ ?_
 refine wp_block ?_
 refine loopG (fun (i : Nat) a w => (i ≤ 3) ∧ Has 18 [(1, .func (.func 39) #[] #[]), (2, .pointer (some ⟨b4, 0, none⟩)), (4, .pointer (some ⟨b6, 0, none⟩)), (6, en i)] a ∧ Below w0.heap.size w0 w ∧ w.heap[b4]? = some (.cells ((eaR fwd r i).map ei).toArray 52 (0, 0)) ∧ w.heap[b6]? = some (.cells ((List.replicate 768 (0 : Int)).map ei).toArray 52 (0, 0))) (fun i => 3 - i) 0 ⟨(by omega), ha.to [1, 2, 4, 6] rfl, hB, hb4, hb6⟩ ?_
 clear ha a hB hb4 hb6
 intro i a w11 ⟨hki, ha, hB, hb4, hb6⟩
 refine qr fun K12 k13 => ?_
 refine s1 ha rfl (fun _ ha => r_lss ha ((i : Nat) : Int) 3 (decide (i < 3)) rfl rfl (decide_eq_decide.2 (by omega))) ?_; intro a ha
 refine k13 _ _ ?_
 refine wp_seq_k fun K14 k15 => ?_
 refine cond_if ha rfl (fun hc16 => ?_) (fun hc16 => ?_)
 ·skip
  replace hc16 := of_decide_eq_true hc16
  refine wp_skip ?_
  refine k15 _ _ ?_
  refine wp_seq_k fun K17 k18 => ?_
  refine wp_block ?_
  refine qr fun K19 k20 => ?_
  refine s2 ha rfl (mv rfl) (av rfl) ?_; intro a ha
  refine k20 _ _ ?_
  refine region ?_
  refine s5 ha rfl (mv rfl) (mv rfl) (mv rfl) (fun _ ha => r_indexArr (i := i) ha (i * 256) Tryz.runUnderlying52 Tryz.sizeOf50 rfl rfl (by omega) (by omega)) (fun _ ha => r_loadR ha rfl Tryz.isAgg50 Tryz.sizeOf50 (C := (rg (eaR fwd r i) i).map ei) (by rw [List.length_map, rg_len _ _ (by rw [eaR_len _ fwd_len _ (by rw [hr]) _ (by omega)]; omega)]) (cells_of (i * 256) hb4 (rg_map _ _ (by rw [eaR_len _ fwd_len _ (by rw [hr]) _ (by omega)]; omega)))) ?_; intro a ha
  refine scp ha (r_callV ha (cap := #[]) [.agg (((rg (eaR fwd r i) i)).map ei).toArray] rfl rfl Tryz.call39) rfl rfl rfl (c_fwd (rg (eaR fwd r i) i) _ (by rw [rg_len _ _ (by rw [eaR_len _ fwd_len _ (by rw [hr]) _ (by omega)]; omega)]) (globP_keep hP hB)) ?_; intro w21 hg a ha
  replace hB := keepB0 hg hB
  replace hb4 := keepO0 hg hb4
  replace hb6 := keepO0 hg hb6
  refine s1 ha rfl (fun _ ha => r_indexArr (i := i) ha (i * 256) Tryz.runUnderlying52 Tryz.sizeOf50 rfl rfl (by omega) (by omega)) ?_; intro a ha
  refine sstoreR ha rfl rfl (one_ei _) Tryz.sizeOf50 (by rw [List.length_map, (fwd_red _ (by rw [rg_len _ _ (by rw [eaR_len _ fwd_len _ (by rw [hr]) _ (by omega)]; omega)])).len]) hb4 (by simp only [List.length_map]; rw [(fwd_red _ (by rw [rg_len _ _ (by rw [eaR_len _ fwd_len _ (by rw [hr]) _ (by omega)]; omega)])).len, eaR_len _ fwd_len _ (by rw [hr]) _ (by omega)]; omega) ?_
  intro a w22 ha hg hb4'
  rw [rs_map _ _ _ (by rw [(fwd_red _ (by rw [rg_len _ _ (by rw [eaR_len _ fwd_len _ (by rw [hr]) _ (by omega)]; omega)])).len])] at hb4'
  replace hb4 := hb4'
  replace hB := keepB1 hg (by omega) hB
  replace hb6 := keepO1 hg (by omega) hb6
  refine k18 _ _ ?_
  refine region ?_
  refine s2 ha rfl (fun _ ha => rn_add ha i 1 rfl rfl (by omega)) (mv rfl) ?_; intro a ha
  exact ⟨i + 1, by omega, (by omega), ha.to [1, 2, 4, 6] rfl, hB, hb4, hb6⟩
 ·skip
  replace hc16 := of_decide_eq_false hc16
  refine wp_exit ?_
  obtain rfl : i = 3 := by omega
  refine k8 _ _ ?_
  refine qr fun K23 k24 => ?_
  refine s1 ha rfl (fun _ ha => r_loadR ha rfl Tryz.isAgg52 Tryz.sizeOf52 (C := (eaR fwd r 3).map ei) (by rw [List.length_map, eaR_len _ fwd_len _ (by rw [hr]) _ (by omega)]) (cells_all hb4)) ?_; intro a ha
  refine sstoreW ha rfl rfl (one_ei _) Tryz.sizeOf52 (by rw [List.length_map, eaR_len _ fwd_len _ (by rw [hr]) _ (by omega)]) hb6 (by rw [List.length_map, List.length_replicate]) ?_
  intro a w25 ha hg hb6'
  replace hb6 := hb6'
  replace hB := keepB1 hg (by omega) hB
  replace hb4 := keepO1 hg (by omega) hb4
  refine k24 _ _ ?_
  refine wp_ret ?_
  exact retC _ ha Tryz.results38 rfl hb6 Tryz.underlying52 rfl (by rw [List.length_map, eaR_len _ fwd_len _ (by rw [hr]) _ (by omega)]; kernel_rfl) ⟨rfl, hB⟩

theorem c_eachIr (r : List Int) (w0 : World) (hr : r.length = 768) (hG : Glob w0) (hP : GlobP w0) :
    Calls Tryz.prog 38 #[.agg ((r).map ei).toArray, .func (.func 43) #[] #[]] w0 fun e w' => e = .returned (.agg ((eaR inv r 3).map ei).toArray) ∧ Below w0.heap.size w0 w' := by
 refine enter (args := [_, _]) Tryz.func38 rfl Tryz.ntmps38 rfl ?_
 intro a ha
 have hB := Below.refl w0.heap.size w0
 refine qr fun K1 k2 => ?_
 refine sbox ha rfl rfl ?_
 intro a w3 b4 ha hg hb4 hge4 hlt4
 have hz4 := Nat.le_trans hB.size hge4
 replace hB := keepB0 hg hB
 refine salloc ha zero_52M1 rfl ?_
 intro a w5 b6 ha hg hb6 hge6 hlt6
 have hz6 := Nat.le_trans hB.size hge6
 have hq4_6 := bl hb4 hge6
 replace hB := keepB0 hg hB
 replace hb4 := keepO0 hg hb4
 refine k2 _ _ ?_
 refine wp_seq_k fun K7 k8 => ?_
 refine qr fun K9 k10 => ?_
 refine s1 ha rfl (mv rfl) ?_; intro a ha
 refine k10 _ _ ?_
 refine wp_block ?_
 refine loopG (fun (i : Nat) a w => (i ≤ 3) ∧ Has 18 [(1, .func (.func 43) #[] #[]), (2, .pointer (some ⟨b4, 0, none⟩)), (4, .pointer (some ⟨b6, 0, none⟩)), (6, en i)] a ∧ Below w0.heap.size w0 w ∧ w.heap[b4]? = some (.cells ((eaR inv r i).map ei).toArray 52 (0, 0)) ∧ w.heap[b6]? = some (.cells ((List.replicate 768 (0 : Int)).map ei).toArray 52 (0, 0))) (fun i => 3 - i) 0 ⟨(by omega), ha.to [1, 2, 4, 6] rfl, hB, hb4, hb6⟩ ?_
 clear ha a hB hb4 hb6
 intro i a w11 ⟨hki, ha, hB, hb4, hb6⟩
 refine qr fun K12 k13 => ?_
 refine s1 ha rfl (fun _ ha => r_lss ha ((i : Nat) : Int) 3 (decide (i < 3)) rfl rfl (decide_eq_decide.2 (by omega))) ?_; intro a ha
 refine k13 _ _ ?_
 refine wp_seq_k fun K14 k15 => ?_
 refine cond_if ha rfl (fun hc16 => ?_) (fun hc16 => ?_)
 ·skip
  replace hc16 := of_decide_eq_true hc16
  refine wp_skip ?_
  refine k15 _ _ ?_
  refine wp_seq_k fun K17 k18 => ?_
  refine wp_block ?_
  refine qr fun K19 k20 => ?_
  refine s2 ha rfl (mv rfl) (av rfl) ?_; intro a ha
  refine k20 _ _ ?_
  refine region ?_
  refine s5 ha rfl (mv rfl) (mv rfl) (mv rfl) (fun _ ha => r_indexArr (i := i) ha (i * 256) Tryz.runUnderlying52 Tryz.sizeOf50 rfl rfl (by omega) (by omega)) (fun _ ha => r_loadR ha rfl Tryz.isAgg50 Tryz.sizeOf50 (C := (rg (eaR inv r i) i).map ei) (by rw [List.length_map, rg_len _ _ (by rw [eaR_len _ inv_len _ (by rw [hr]) _ (by omega)]; omega)]) (cells_of (i * 256) hb4 (rg_map _ _ (by rw [eaR_len _ inv_len _ (by rw [hr]) _ (by omega)]; omega)))) ?_; intro a ha
  refine scp ha (r_callV ha (cap := #[]) [.agg (((rg (eaR inv r i) i)).map ei).toArray] rfl rfl Tryz.call43) rfl rfl rfl (c_inv (rg (eaR inv r i) i) _ (by rw [rg_len _ _ (by rw [eaR_len _ inv_len _ (by rw [hr]) _ (by omega)]; omega)]) (globP_keep hP hB)) ?_; intro w21 hg a ha
  replace hB := keepB0 hg hB
  replace hb4 := keepO0 hg hb4
  replace hb6 := keepO0 hg hb6
  refine s1 ha rfl (fun _ ha => r_indexArr (i := i) ha (i * 256) Tryz.runUnderlying52 Tryz.sizeOf50 rfl rfl (by omega) (by omega)) ?_; intro a ha
  refine sstoreR ha rfl rfl (one_ei _) Tryz.sizeOf50 (by rw [List.length_map, (inv_red _ (by rw [rg_len _ _ (by rw [eaR_len _ inv_len _ (by rw [hr]) _ (by omega)]; omega)])).len]) hb4 (by simp only [List.length_map]; rw [(inv_red _ (by rw [rg_len _ _ (by rw [eaR_len _ inv_len _ (by rw [hr]) _ (by omega)]; omega)])).len, eaR_len _ inv_len _ (by rw [hr]) _ (by omega)]; omega) ?_
  intro a w22 ha hg hb4'
  rw [rs_map _ _ _ (by rw [(inv_red _ (by rw [rg_len _ _ (by rw [eaR_len _ inv_len _ (by rw [hr]) _ (by omega)]; omega)])).len])] at hb4'
  replace hb4 := hb4'
  replace hB := keepB1 hg (by omega) hB
  replace hb6 := keepO1 hg (by omega) hb6
  refine k18 _ _ ?_
  refine region ?_
  refine s2 ha rfl (fun _ ha => rn_add ha i 1 rfl rfl (by omega)) (mv rfl) ?_; intro a ha
  exact ⟨i + 1, by omega, (by omega), ha.to [1, 2, 4, 6] rfl, hB, hb4, hb6⟩
 ·skip
  replace hc16 := of_decide_eq_false hc16
  refine wp_exit ?_
  obtain rfl : i = 3 := by omega
  refine k8 _ _ ?_
  refine qr fun K23 k24 => ?_
  refine s1 ha rfl (fun _ ha => r_loadR ha rfl Tryz.isAgg52 Tryz.sizeOf52 (C := (eaR inv r 3).map ei) (by rw [List.length_map, eaR_len _ inv_len _ (by rw [hr]) _ (by omega)]) (cells_all hb4)) ?_; intro a ha
  refine sstoreW ha rfl rfl (one_ei _) Tryz.sizeOf52 (by rw [List.length_map, eaR_len _ inv_len _ (by rw [hr]) _ (by omega)]) hb6 (by rw [List.length_map, List.length_replicate]) ?_
  intro a w25 ha hg hb6'
  replace hb6 := hb6'
  replace hB := keepB1 hg (by omega) hB
  replace hb4 := keepO1 hg (by omega) hb4
  refine k24 _ _ ?_
  refine wp_ret ?_
  exact retC _ ha Tryz.results38 rfl hb6 Tryz.underlying52 rfl (by rw [List.length_map, eaR_len _ inv_len _ (by rw [hr]) _ (by omega)]; kernel_rfl) ⟨rfl, hB⟩

theorem c_matrix (v : Value) (rho : List UInt8) (w0 : World) (hs : Sl w0 v (rho.map e8)) :
    Calls Tryz.prog 40 #[v] w0 fun e w' => ∃ bkn, e = .returned (.func (.func 88) #[] #[.pointer (some ⟨bkn, 0, none⟩)]) ∧ Below w0.heap.size w0 w' ∧ w'.heap[bkn]? = some (.cells ([v]).toArray 22 (0, 0)) ∧ w0.heap.size ≤ bkn := by
 refine enter (args := [_]) Tryz.func40 rfl Tryz.ntmps40 rfl ?_
 intro a ha
 have hB := Below.refl w0.heap.size w0
 refine qr fun K1 k2 => ?_
 refine sbox1 ha rfl (Sl.one (hs.below hB)) rfl ?_
 intro a w3 b4 ha hg hb4 hge4 hlt4
 have hz4 := Nat.le_trans hB.size hge4
 replace hB := keepB0 hg hB
 refine s1 ha rfl (av rfl) ?_; intro a ha
 refine k2 _ _ ?_
 refine qr fun K5 k6 => ?_
 refine s2 ha rfl (fun _ ha => r_makeFunc ha [.tmp 1] [.pointer (some ⟨b4, 0, none⟩)] rfl) (av rfl) ?_; intro a ha
 refine k6 _ _ ?_
 refine wp_ret ?_
 exact ret1 ha Tryz.results40 rfl ⟨_, rfl, hB, hb4, hz4⟩

theorem c_matrixF (i j : Nat) (bk : Nat) (v : Value) (rho : List UInt8) (w0 : World) (hij : i ≤ 1000 ∧ j ≤ 1000) (hs : Sl w0 v (rho.map e8)) (hk : rho.length ≤ 50000) (hbk : w0.heap[bk]? = some (.cells ([v]).toArray 22 (0, 0))) (hG : Glob w0) :
    Calls Tryz.prog 88 #[en i, en j, .pointer (some ⟨bk, 0, none⟩)] w0 fun e w' => e = .returned (.agg ((mat rho i j).map ei).toArray) ∧ Below w0.heap.size w0 w' := by
 refine enter (args := [_, _, _]) Tryz.func88 rfl Tryz.ntmps88 rfl ?_
 intro a ha
 have hB := Below.refl w0.heap.size w0
 refine qr fun K1 k2 => ?_
 refine salloc ha zero_50M1 rfl ?_
 intro a w3 b4 ha hg hb4 hge4 hlt4
 have hz4 := Nat.le_trans hB.size hge4
 have hqk_4 := bl hbk hge4
 replace hB := keepB0 hg hB
 replace hbk := keepO0 hg hbk
 refine k2 _ _ ?_
 refine qr fun K5 k6 => ?_
 refine s5 ha rfl (fun _ ha => r_load ha rfl Tryz.isAgg22 (cell_of hbk rfl)) (mv rfl) (fun _ ha => r_conv_n_u8w ha j Tryz.runUnderlying3 Tryz.runUnderlying5 rfl) (mv rfl) (fun _ ha => r_conv_n_u8w ha i Tryz.runUnderlying3 Tryz.runUnderlying5 rfl) ?_; intro a ha
 refine sbuildS ha [(0, e8 (UInt8.ofNat j)), (1, e8 (UInt8.ofNat i))] (([UInt8.ofNat j, UInt8.ofNat i] : List UInt8).map e8) rfl Tryz.runUnderlying22 Tryz.sizeOf5 Tryz.zeroValue5 rfl rfl rfl rfl rfl ?_
 intro a w7 b8 ha hg hb8 hge8 hlt8
 have hz8 := Nat.le_trans hB.size hge8
 have hqk_8 := bl hbk hge8
 have hq4_8 := bl hb4 hge8
 replace hB := keepB0 hg hB
 replace hbk := keepO0 hg hbk
 replace hb4 := keepO0 hg hb4
 refine sbuildS ha [(0, v), (1, .slice (some ⟨b8, 0, none⟩) 2 2)] [v, .slice (some ⟨b8, 0, none⟩) 2 2] rfl Tryz.runUnderlying96 Tryz.sizeOf22 Tryz.zeroValue22 rfl rfl rfl (fill2 (Sl.one (hs.below hB)) (Sl.one (Sl.ofBlockM hb8 (by rw [show ([UInt8.ofNat j, UInt8.ofNat i] : List UInt8).length = 2 from rfl]) (by omega)))) rfl ?_
 intro a w9 b10 ha hg hb10 hge10 hlt10
 have hz10 := Nat.le_trans hB.size hge10
 have hqk_10 := bl hbk hge10
 have hq4_10 := bl hb4 hge10
 have hq8_10 := bl hb8 hge10
 replace hB := keepB0 hg hB
 replace hbk := keepO0 hg hbk
 replace hb4 := keepO0 hg hb4
 replace hb8 := keepO0 hg hb8
 refine sc ha (r_call ha [(.slice (some ⟨b10, 0, none⟩) 2 2)] rfl Tryz.call52) rfl rfl rfl (c_join (.slice (some ⟨b10, 0, none⟩) 2 2) ([v, .slice (some ⟨b8, 0, none⟩) 2 2]) ([rho, ([UInt8.ofNat j, UInt8.ofNat i] : List UInt8)]) _ (Sl.ofBlock (D := [v, .slice (some ⟨b8, 0, none⟩) 2 2]) (C := [v, .slice (some ⟨b8, 0, none⟩) 2 2]) hb10 rfl (Nat.le_refl _)) (.cons (hs.below hB) (.cons (Sl.ofBlockM hb8 (by rw [show ([UInt8.ofNat j, UInt8.ofNat i] : List UInt8).length = 2 from rfl]) (by omega)) .nil)) (by simp only [List.flatten_cons, List.flatten_nil, List.append_nil, List.length_append, List.length_cons, List.length_nil]; omega) (show 2 ≤ 1000 by omega)) ?_
 rintro e w11 ⟨u12, rfl, hBc, hs12, hd12⟩
 have hg := grown_call hBc
 have hnb_hs12_bk := nbn hd12 hbk
 have hnb_hs12_b4 := nbn hd12 hb4
 replace hd12 : ∀ j, u12.ownBlock = some j → w0.heap.size ≤ j := fun j hj => Nat.le_trans hB.size (hd12 j hj)
 replace hB := keepB0 hg hB
 replace hbk := keepO0 hg hbk
 replace hb4 := keepO0 hg hb4
 refine ⟨_, rfl, ?_⟩; intro a ha
 refine scp ha (r_call ha [u12] rfl Tryz.call89) rfl rfl rfl (c_uniform u12 (([rho, ([UInt8.ofNat j, UInt8.ofNat i] : List UInt8)]).flatten) _ hs12 (glob_keep hG hB)) ?_; intro w13 hg a ha
 replace hB := keepB0 hg hB
 replace hbk := keepO0 hg hbk
 replace hb4 := keepO0 hg hb4
 refine sstoreW ha rfl rfl (one_ei _) Tryz.sizeOf50 (by rw [List.length_map, uni_len]) hb4 (by rw [List.length_map, List.length_replicate]) ?_
 intro a w14 ha hg hb4'
 replace hb4 := hb4'
 replace hB := keepB1 hg (by omega) hB
 replace hbk := keepO1 hg (by omega) hbk
 refine k6 _ _ ?_
 refine wp_ret ?_
 exact retC _ ha Tryz.results88 rfl hb4 Tryz.underlying50 rfl (by rw [List.length_map, uni_len]; kernel_rfl) ⟨rfl, hB⟩

theorem c_timesM (bk : Nat) (v : Value) (rho : List UInt8) (r : List Int) (w0 : World) (hs : Sl w0 v (rho.map e8)) (hk : rho.length ≤ 50000) (hr : r.length = 768) (hbk : w0.heap[bk]? = some (.cells ([v]).toArray 22 (0, 0))) (hG : Glob w0) (hP : GlobP w0) :
    Calls Tryz.prog 42 #[.func (.func 88) #[] #[.pointer (some ⟨bk, 0, none⟩)], .agg ((r).map ei).toArray] w0 fun e w' => e = .returned (.agg ((tiA (mat rho) r 3).map ei).toArray) ∧ Below w0.heap.size w0 w' := by
 refine enter (args := [_, _]) Tryz.func42 rfl Tryz.ntmps42 rfl ?_
 intro a ha
 have hB := Below.refl w0.heap.size w0
 refine qr fun K1 k2 => ?_
 refine sbox ha rfl rfl ?_
 intro a w3 b4 ha hg hb4 hge4 hlt4
 have hz4 := Nat.le_trans hB.size hge4
 have hqk_4 := bl hbk hge4
 replace hB := keepB0 hg hB
 replace hbk := keepO0 hg hbk
 refine salloc ha zero_52M1 rfl ?_
 intro a w5 b6 ha hg hb6 hge6 hlt6
 have hz6 := Nat.le_trans hB.size hge6
 have hqk_6 := bl hbk hge6
 have hq4_6 := bl hb4 hge6
 replace hB := keepB0 hg hB
 replace hbk := keepO0 hg hbk
 replace hb4 := keepO0 hg hb4
 refine k2 _ _ ?_
 refine qr fun K7 k8 => ?_
 refine salloc ha zero_52M1 rfl ?_
 intro a w9 b10 ha hg hb10 hge10 hlt10
 have hz10 := Nat.le_trans hB.size hge10
 have hqk_10 := bl hbk hge10
 have hq4_10 := bl hb4 hge10
 have hq6_10 := bl hb6 hge10
 replace hB := keepB0 hg hB
 replace hbk := keepO0 hg hbk
 replace hb4 := keepO0 hg hb4
 replace hb6 := keepO0 hg hb6
 refine k8 _ _ ?_
 refine wp_seq_k fun K11 k12 => ?_
 refine qr fun K13 k14 => ?_
 refine s1 ha rfl (mv rfl) ?_; intro a ha
 refine k14 _ _ ?_
 refine wp_block ?_
 refine loopG (fun (i : Nat) a w => (i ≤ 3) ∧ Has 31 [(0, .func (.func 88) #[] #[.pointer (some ⟨bk, 0, none⟩)]), (3, .pointer (some ⟨b4, 0, none⟩)), (4, .pointer (some ⟨b6, 0, none⟩)), (5, .pointer (some ⟨b10, 0, none⟩)), (8, en i)] a ∧ Below w0.heap.size w0 w ∧ w.heap[bk]? = some (.cells ([v]).toArray 22 (0, 0)) ∧ w.heap[b4]? = some (.cells ((r).map ei).toArray 52 (0, 0)) ∧ w.heap[b6]? = some (.cells ((List.replicate 768 (0 : Int)).map ei).toArray 52 (0, 0)) ∧ w.heap[b10]? = some (.cells ((tiA (mat rho) r i).map ei).toArray 52 (0, 0))) (fun i => 3 - i) 0 ⟨(by omega), ha.to [0, 3, 4, 5, 8] rfl, hB, hbk, hb4, hb6, hb10⟩ ?_
 clear ha a hB hbk hb4 hb6 hb10
 intro i a w15 ⟨hki, ha, hB, hbk, hb4, hb6, hb10⟩
 refine qr fun K16 k17 => ?_
 refine s1 ha rfl (fun _ ha => r_lss ha ((i : Nat) : Int) 3 (decide (i < 3)) rfl rfl (decide_eq_decide.2 (by omega))) ?_; intro a ha
 refine k17 _ _ ?_
 refine wp_seq_k fun K18 k19 => ?_
 refine cond_if ha rfl (fun hc20 => ?_) (fun hc20 => ?_)
 ·skip
  replace hc20 := of_decide_eq_true hc20
  refine wp_skip ?_
  refine k19 _ _ ?_
  refine wp_seq_k fun K21 k22 => ?_
  refine wp_block ?_
  refine qr fun K23 k24 => ?_
  refine s2 ha rfl (mv rfl) (av rfl) ?_; intro a ha
  refine k24 _ _ ?_
  refine qr fun K25 k26 => ?_
  refine s1 ha rfl (mv rfl) ?_; intro a ha
  refine k26 _ _ ?_
  refine wp_block ?_
  have hti := tiA_len (mat rho) r i (by omega)
  refine loopG (fun (j : Nat) a w => (j ≤ 3) ∧ Has 31 [(0, .func (.func 88) #[] #[.pointer (some ⟨bk, 0, none⟩)]), (3, .pointer (some ⟨b4, 0, none⟩)), (4, .pointer (some ⟨b6, 0, none⟩)), (5, .pointer (some ⟨b10, 0, none⟩)), (8, en i), (6, en i), (11, en j)] a ∧ Below w0.heap.size w0 w ∧ w.heap[bk]? = some (.cells ([v]).toArray 22 (0, 0)) ∧ w.heap[b4]? = some (.cells ((r).map ei).toArray 52 (0, 0)) ∧ w.heap[b6]? = some (.cells ((List.replicate 768 (0 : Int)).map ei).toArray 52 (0, 0)) ∧ w.heap[b10]? = some (.cells ((tiB (mat rho) r (tiA (mat rho) r i) i j).map ei).toArray 52 (0, 0))) (fun j => 3 - j) 0 ⟨(by omega), ha.to [0, 3, 4, 5, 8, 6, 11] rfl, hB, hbk, hb4, hb6, hb10⟩ ?_
  clear ha a hB hbk hb4 hb6 hb10
  intro j a w27 ⟨hkj, ha, hB, hbk, hb4, hb6, hb10⟩
  refine qr fun K28 k29 => ?_
  refine s1 ha rfl (fun _ ha => r_lss ha ((j : Nat) : Int) 3 (decide (j < 3)) rfl rfl (decide_eq_decide.2 (by omega))) ?_; intro a ha
  refine k29 _ _ ?_
  refine wp_seq_k fun K30 k31 => ?_
  refine cond_if ha rfl (fun hc32 => ?_) (fun hc32 => ?_)
  ·skip
   replace hc32 := of_decide_eq_true hc32
   refine wp_skip ?_
   refine k31 _ _ ?_
   refine wp_seq_k fun K33 k34 => ?_
   refine wp_block ?_
   refine qr fun K35 k36 => ?_
   refine s2 ha rfl (mv rfl) (av rfl) ?_; intro a ha
   refine k36 _ _ ?_
   refine regionD (S := fun w => Below w0.heap.size w0 w ∧ w.heap[bk]? = some (.cells ([v]).toArray 22 (0, 0)) ∧ w.heap[b4]? = some (.cells ((r).map ei).toArray 52 (0, 0)) ∧ w.heap[b6]? = some (.cells ((List.replicate 768 (0 : Int)).map ei).toArray 52 (0, 0)) ∧ w.heap[b10]? = some (.cells ((tiB (mat rho) r (tiA (mat rho) r i) i j).map ei).toArray 52 (0, 0)) ∧ True) [14] [0, 1, 2, 3, 4, 5, 6, 8, 9, 10, 13] [0, 1, 2, 3, 4, 5, 6, 8, 9, 10, 7, 11, 12, 13, 14] mixed (by kernel_rfl) (fun w hg => ⟨keepB0 hg hB, keepO0 hg hbk, keepO0 hg hb4, keepO0 hg hb6, keepO0 hg hb10, trivial⟩) ?_
   intro w37 hg
   replace hB := keepB0 hg hB
   replace hbk := keepO0 hg hbk
   replace hb4 := keepO0 hg hb4
   replace hb6 := keepO0 hg hb6
   replace hb10 := keepO0 hg hb10
   refine c6 ha rfl (cmv rfl) (cmv rfl) (fun w _ _ ha => r_indexArr (i := i) ha (i * 256) Tryz.runUnderlying52 Tryz.sizeOf50 rfl rfl (by omega) (by omega)) (fun w ⟨_, _, _, _, hb10, _⟩ _ ha => r_loadR ha rfl Tryz.isAgg50 Tryz.sizeOf50 (C := (rg (tiB (mat rho) r (tiA (mat rho) r i) i j) i).map ei) (by rw [List.length_map, rg_len _ _ (by rw [tiB_len _ _ _ hti _ (by omega)]; omega)]) (cells_of (i * 256) hb10 (rg_map _ _ (by rw [tiB_len _ _ _ hti _ (by omega)]; omega)))) (cmv rfl) (cmv rfl) ?_; intro a ha
   refine c4 ha rfl (cmv rfl) (cmv rfl) (fun w _ _ ha => r_indexArr (i := j) ha (j * 256) Tryz.runUnderlying52 Tryz.sizeOf50 rfl rfl (by omega) (by omega)) (fun w ⟨_, _, hb4, _⟩ _ ha => r_loadR ha rfl Tryz.isAgg50 Tryz.sizeOf50 (C := (rg r j).map ei) (by rw [List.length_map, rg_len _ _ (by rw [hr]; omega)]) (cells_of (j * 256) hb4 (rg_map _ _ (by rw [hr]; omega)))) ?_; intro a ha
   refine cc ha rfl rfl (r_callV ha (cap := #[.pointer (some ⟨bk, 0, none⟩)]) [en i, en j] rfl rfl Tryz.call88) rfl rfl rfl (c_matrixF i j bk v rho _ (by omega) (hs.below hB) (by omega) hbk (glob_keep hG hB)) ?_
   rintro e w38 ⟨rfl, hBc⟩
   have hg := grown_call hBc
   replace hB := keepB0 hg hB
   replace hbk := keepO0 hg hbk
   replace hb4 := keepO0 hg hb4
   replace hb6 := keepO0 hg hb6
   replace hb10 := keepO0 hg hb10
   refine ⟨fun _ => ⟨hB, hbk, hb4, hb6, hb10, trivial⟩, _, rfl, ?_⟩; intro a ha
   refine cc ha rfl rfl (r_call ha [.agg (((mat rho i j)).map ei).toArray, .agg (((rg r j)).map ei).toArray] rfl Tryz.call91) rfl rfl rfl (c_times (mat rho i j) (rg r j) _ (by rw [mat_len]) (by rw [rg_len _ _ (by rw [hr]; omega)]) (globP_keep hP hB)) ?_
   rintro e w39 ⟨rfl, hBc⟩
   have hg := grown_call hBc
   replace hB := keepB0 hg hB
   replace hbk := keepO0 hg hbk
   replace hb4 := keepO0 hg hb4
   replace hb6 := keepO0 hg hb6
   replace hb10 := keepO0 hg hb10
   refine ⟨fun _ => ⟨hB, hbk, hb4, hb6, hb10, trivial⟩, _, rfl, ?_⟩; intro a ha
   refine cc ha rfl rfl (r_call ha [.agg (((rg (tiB (mat rho) r (tiA (mat rho) r i) i j) i)).map ei).toArray, .agg (((tms (mat rho i j) (rg r j))).map ei).toArray] rfl Tryz.call46) rfl rfl rfl (c_plus (rg (tiB (mat rho) r (tiA (mat rho) r i) i j) i) (tms (mat rho i j) (rg r j)) _ (by rw [rg_len _ _ (by rw [tiB_len _ _ _ hti _ (by omega)]; omega)]) (by rw [(tms_red _ _).len])) ?_
   rintro e w40 ⟨rfl, hBc⟩
   have hg := grown_call hBc
   replace hB := keepB0 hg hB
   replace hbk := keepO0 hg hbk
   replace hb4 := keepO0 hg hb4
   replace hb6 := keepO0 hg hb6
   replace hb10 := keepO0 hg hb10
   refine ⟨fun _ => ⟨hB, hbk, hb4, hb6, hb10, trivial⟩, _, rfl, ?_⟩; intro a ha
   refine c1 ha rfl (fun w _ _ ha => r_indexArr (i := i) ha (i * 256) Tryz.runUnderlying52 Tryz.sizeOf50 rfl rfl (by omega) (by omega)) ?_; intro a ha
   refine cstoreR ha rfl rfl rfl rfl (one_ei _) Tryz.sizeOf50 (by rw [List.length_map, (pl_red _ _ (by rw [rg_len _ _ (by rw [tiB_len _ _ _ hti _ (by omega)]; omega)])).len]) hb10 (by simp only [List.length_map]; rw [(pl_red _ _ (by rw [rg_len _ _ (by rw [tiB_len _ _ _ hti _ (by omega)]; omega)])).len, tiB_len _ _ _ hti _ (by omega)]; omega) rfl ?_
   intro a w41 ha hg hb10'
   rw [rs_map _ _ _ (by rw [(pl_red _ _ (by rw [rg_len _ _ (by rw [tiB_len _ _ _ hti _ (by omega)]; omega)])).len])] at hb10'
   replace hb10 := hb10'
   replace hB := keepB1 hg (by omega) hB
   replace hbk := keepO1 hg (by omega) hbk
   replace hb4 := keepO1 hg (by omega) hb4
   replace hb6 := keepO1 hg (by omega) hb6
   refine cfin (k34 _ _ ?_)
   refine region ?_
   refine s2 ha rfl (fun _ ha => rn_add ha j 1 rfl rfl (by omega)) (mv rfl) ?_; intro a ha
   exact ⟨j + 1, by omega, (by omega), ha.to [0, 3, 4, 5, 8, 6, 11] rfl, hB, hbk, hb4, hb6, hb10⟩
  ·skip
   replace hc32 := of_decide_eq_false hc32
   refine wp_exit ?_
   obtain rfl : j = 3 := by omega
   refine k22 _ _ ?_
   refine region ?_
   refine s2 ha rfl (fun _ ha => rn_add ha i 1 rfl rfl (by omega)) (mv rfl) ?_; intro a ha
   exact ⟨i + 1, by omega, (by omega), ha.to [0, 3, 4, 5, 8] rfl, hB, hbk, hb4, hb6, hb10⟩
 ·skip
  replace hc20 := of_decide_eq_false hc20
  refine wp_exit ?_
  obtain rfl : i = 3 := by omega
  refine k12 _ _ ?_
  refine qr fun K42 k43 => ?_
  refine s1 ha rfl (fun _ ha => r_loadR ha rfl Tryz.isAgg52 Tryz.sizeOf52 (C := (tiA (mat rho) r 3).map ei) (by rw [List.length_map, tiA_len _ _ _ (by omega)]) (cells_all hb10)) ?_; intro a ha
  refine sstoreW ha rfl rfl (one_ei _) Tryz.sizeOf52 (by rw [List.length_map, tiA_len _ _ _ (by omega)]) hb6 (by rw [List.length_map, List.length_replicate]) ?_
  intro a w44 ha hg hb6'
  replace hb6 := hb6'
  replace hB := keepB1 hg (by omega) hB
  replace hbk := keepO1 hg (by omega) hbk
  replace hb10 := keepO1 hg (by omega) hb10
  refine k43 _ _ ?_
  refine wp_ret ?_
  exact retC _ ha Tryz.results42 rfl hb6 Tryz.underlying52 rfl (by rw [List.length_map, tiA_len _ _ _ (by omega)]; kernel_rfl) ⟨rfl, hB⟩

theorem c_plusR (r s : List Int) (w0 : World) (hr : r.length = 768) (hs2 : s.length = 768) (hG : Glob w0) (hP : GlobP w0) :
    Calls Tryz.prog 44 #[.agg ((r).map ei).toArray, .agg ((s).map ei).toArray] w0 fun e w' => e = .returned (.agg ((plR r s 3).map ei).toArray) ∧ Below w0.heap.size w0 w' := by
 refine enter (args := [_, _]) Tryz.func44 rfl Tryz.ntmps44 rfl ?_
 intro a ha
 have hB := Below.refl w0.heap.size w0
 refine qr fun K1 k2 => ?_
 refine sbox ha rfl rfl ?_
 intro a w3 b4 ha hg hb4 hge4 hlt4
 have hz4 := Nat.le_trans hB.size hge4
 replace hB := keepB0 hg hB
 refine sbox ha rfl rfl ?_
 intro a w5 b6 ha hg hb6 hge6 hlt6
 have hz6 := Nat.le_trans hB.size hge6
 have hq4_6 := bl hb4 hge6
 replace hB := keepB0 hg hB
 replace hb4 := keepO0 hg hb4
 refine salloc ha zero_52M1 rfl ?_
 intro a w7 b8 ha hg hb8 hge8 hlt8
 have hz8 := Nat.le_trans hB.size hge8
 have hq4_8 := bl hb4 hge8
 have hq6_8 := bl hb6 hge8
 replace hB := keepB0 hg hB
 replace hb4 := keepO0 hg hb4
 replace hb6 := keepO0 hg hb6
 refine k2 _ _ ?_
 refine wp_seq_k fun K9 k10 => ?_
 refine qr fun K11 k12 => ?_
 refine s1 ha rfl (mv rfl) ?_; intro a ha
 refine k12 _ _ ?_
 refine wp_block ?_
 refine loopG (fun (i : Nat) a w => (i ≤ 3) ∧ Has 20 [(2, .pointer (some ⟨b4, 0, none⟩)), (3, .pointer (some ⟨b6, 0, none⟩)), (4, .pointer (some ⟨b8, 0, none⟩)), (6, en i)] a ∧ Below w0.heap.size w0 w ∧ w.heap[b4]? = some (.cells ((plR r s i).map ei).toArray 52 (0, 0)) ∧ w.heap[b6]? = some (.cells ((s).map ei).toArray 52 (0, 0)) ∧ w.heap[b8]? = some (.cells ((List.replicate 768 (0 : Int)).map ei).toArray 52 (0, 0))) (fun i => 3 - i) 0 ⟨(by omega), ha.to [2, 3, 4, 6] rfl, hB, hb4, hb6, hb8⟩ ?_
 clear ha a hB hb4 hb6 hb8
 intro i a w13 ⟨hki, ha, hB, hb4, hb6, hb8⟩
 refine qr fun K14 k15 => ?_
 refine s1 ha rfl (fun _ ha => r_lss ha ((i : Nat) : Int) 3 (decide (i < 3)) rfl rfl (decide_eq_decide.2 (by omega))) ?_; intro a ha
 refine k15 _ _ ?_
 refine wp_seq_k fun K16 k17 => ?_
 refine cond_if ha rfl (fun hc18 => ?_) (fun hc18 => ?_)
 ·skip
  replace hc18 := of_decide_eq_true hc18
  refine wp_skip ?_
  refine k17 _ _ ?_
  refine wp_seq_k fun K19 k20 => ?_
  refine wp_block ?_
  refine qr fun K21 k22 => ?_
  refine s2 ha rfl (mv rfl) (av rfl) ?_; intro a ha
  refine k22 _ _ ?_
  refine regionD (S := fun w => Below w0.heap.size w0 w ∧ w.heap[b4]? = some (.cells ((plR r s i).map ei).toArray 52 (0, 0)) ∧ w.heap[b6]? = some (.cells ((s).map ei).toArray 52 (0, 0)) ∧ w.heap[b8]? = some (.cells ((List.replicate 768 (0 : Int)).map ei).toArray 52 (0, 0)) ∧ True) [9] [0, 1, 2, 3, 4, 5, 6, 8] [0, 1, 2, 3, 4, 5, 6, 7, 8, 9] mixed (by kernel_rfl) (fun w hg => ⟨keepB0 hg hB, keepO0 hg hb4, keepO0 hg hb6, keepO0 hg hb8, trivial⟩) ?_
  intro w23 hg
  replace hB := keepB0 hg hB
  replace hb4 := keepO0 hg hb4
  replace hb6 := keepO0 hg hb6
  replace hb8 := keepO0 hg hb8
  refine c6 ha rfl (cmv rfl) (cmv rfl) (fun w _ _ ha => r_indexArr (i := i) ha (i * 256) Tryz.runUnderlying52 Tryz.sizeOf50 rfl rfl (by omega) (by omega)) (fun w ⟨_, hb4, _⟩ _ ha => r_loadR ha rfl Tryz.isAgg50 Tryz.sizeOf50 (C := (rg (plR r s i) i).map ei) (by rw [List.length_map, rg_len _ _ (by rw [plR_len _ _ (by rw [hr]) _ (by omega)]; omega)]) (cells_of (i * 256) hb4 (rg_map _ _ (by rw [plR_len _ _ (by rw [hr]) _ (by omega)]; omega)))) (cmv rfl) (fun w _ _ ha => r_indexArr (i := i) ha (i * 256) Tryz.runUnderlying52 Tryz.sizeOf50 rfl rfl (by omega) (by omega)) ?_; intro a ha
  refine c1 ha rfl (fun w ⟨_, _, hb6, _⟩ _ ha => r_loadR ha rfl Tryz.isAgg50 Tryz.sizeOf50 (C := (rg s i).map ei) (by rw [List.length_map, rg_len _ _ (by rw [hs2]; omega)]) (cells_of (i * 256) hb6 (rg_map _ _ (by rw [hs2]; omega)))) ?_; intro a ha
  refine cc ha rfl rfl (r_call ha [.agg (((rg (plR r s i) i)).map ei).toArray, .agg (((rg s i)).map ei).toArray] rfl Tryz.call46) rfl rfl rfl (c_plus (rg (plR r s i) i) (rg s i) _ (by rw [rg_len _ _ (by rw [plR_len _ _ (by rw [hr]) _ (by omega)]; omega)]) (by rw [rg_len _ _ (by rw [hs2]; omega)])) ?_
  rintro e w24 ⟨rfl, hBc⟩
  have hg := grown_call hBc
  replace hB := keepB0 hg hB
  replace hb4 := keepO0 hg hb4
  replace hb6 := keepO0 hg hb6
  replace hb8 := keepO0 hg hb8
  refine ⟨fun _ => ⟨hB, hb4, hb6, hb8, trivial⟩, _, rfl, ?_⟩; intro a ha
  refine c1 ha rfl (fun w _ _ ha => r_indexArr (i := i) ha (i * 256) Tryz.runUnderlying52 Tryz.sizeOf50 rfl rfl (by omega) (by omega)) ?_; intro a ha
  refine cstoreR ha rfl rfl rfl rfl (one_ei _) Tryz.sizeOf50 (by rw [List.length_map, (pl_red _ _ (by rw [rg_len _ _ (by rw [plR_len _ _ (by rw [hr]) _ (by omega)]; omega)])).len]) hb4 (by simp only [List.length_map]; rw [(pl_red _ _ (by rw [rg_len _ _ (by rw [plR_len _ _ (by rw [hr]) _ (by omega)]; omega)])).len, plR_len _ _ (by rw [hr]) _ (by omega)]; omega) rfl ?_
  intro a w25 ha hg hb4'
  rw [rs_map _ _ _ (by rw [(pl_red _ _ (by rw [rg_len _ _ (by rw [plR_len _ _ (by rw [hr]) _ (by omega)]; omega)])).len])] at hb4'
  replace hb4 := hb4'
  replace hB := keepB1 hg (by omega) hB
  replace hb6 := keepO1 hg (by omega) hb6
  replace hb8 := keepO1 hg (by omega) hb8
  refine cfin (k20 _ _ ?_)
  refine region ?_
  refine s2 ha rfl (fun _ ha => rn_add ha i 1 rfl rfl (by omega)) (mv rfl) ?_; intro a ha
  exact ⟨i + 1, by omega, (by omega), ha.to [2, 3, 4, 6] rfl, hB, hb4, hb6, hb8⟩
 ·skip
  replace hc18 := of_decide_eq_false hc18
  refine wp_exit ?_
  obtain rfl : i = 3 := by omega
  refine k10 _ _ ?_
  refine qr fun K26 k27 => ?_
  refine s1 ha rfl (fun _ ha => r_loadR ha rfl Tryz.isAgg52 Tryz.sizeOf52 (C := (plR r s 3).map ei) (by rw [List.length_map, plR_len _ _ (by rw [hr]) _ (by omega)]) (cells_all hb4)) ?_; intro a ha
  refine sstoreW ha rfl rfl (one_ei _) Tryz.sizeOf52 (by rw [List.length_map, plR_len _ _ (by rw [hr]) _ (by omega)]) hb8 (by rw [List.length_map, List.length_replicate]) ?_
  intro a w28 ha hg hb8'
  replace hb8 := hb8'
  replace hB := keepB1 hg (by omega) hB
  replace hb4 := keepO1 hg (by omega) hb4
  refine k27 _ _ ?_
  refine wp_ret ?_
  exact retC _ ha Tryz.results44 rfl hb8 Tryz.underlying52 rfl (by rw [List.length_map, plR_len _ _ (by rw [hr]) _ (by omega)]; kernel_rfl) ⟨rfl, hB⟩

theorem c_packR (r : List Int) (d : Nat) (w0 : World) (hr : r.length = 768) (hd : 1 ≤ d ∧ d ≤ 12) :
    Calls Tryz.prog 53 #[.agg ((r).map ei).toArray, en d] w0 fun e w' => ∃ u0 : Value, e = .returned (u0) ∧ Below w0.heap.size w0 w' ∧ Sl w' u0 ((pkR d r 3).map e8) ∧ (∀ j, u0.ownBlock = some j → w0.heap.size ≤ j) := by
 refine enter (args := [_, _]) Tryz.func53 rfl Tryz.ntmps53 rfl ?_
 intro a ha
 have hB := Below.refl w0.heap.size w0
 refine qr fun K1 k2 => ?_
 refine sbox ha rfl rfl ?_
 intro a w3 b4 ha hg hb4 hge4 hlt4
 have hz4 := Nat.le_trans hB.size hge4
 replace hB := keepB0 hg hB
 refine s1 ha rfl (av rfl) ?_; intro a ha
 refine k2 _ _ ?_
 refine qr fun K5 k6 => ?_
 refine s1 ha rfl (av rfl) ?_; intro a ha
 refine k6 _ _ ?_
 refine wp_seq_k fun K7 k8 => ?_
 refine qr fun K9 k10 => ?_
 refine s2 ha rfl (fun _ ha => r_loadR ha rfl Tryz.isAgg52 Tryz.sizeOf52 (C := (r).map ei) (by rw [List.length_map, hr]) (cells_all hb4)) (mv rfl) ?_; intro a ha
 refine k10 _ _ ?_
 refine wp_block ?_
 refine loopG (fun (i : Nat) a w => ∃ vo : Value, (i ≤ 3) ∧ Has 19 [(1, en d), (8, .agg ((r).map ei).toArray), (9, en i), (5, vo)] a ∧ Below w0.heap.size w0 w ∧ w.ownsRow w0.heap.size 5 1 vo (pkR d r i).length ((pkR d r i).map e8)) (fun i => 3 - i) 0 ⟨.slice none 0 0, (by omega), ha.to [1, 8, 9, 5] rfl, hB, (own_castl (l := ([] : List UInt8)) (World.ownsRow_nil _ _ _ _) rfl)⟩ ?_
 clear ha a hB
 intro i a w11 ⟨vo, hki, ha, hB, hovo⟩
 have hpl := pkR_len d r i
 have hdi := Nat.mul_le_mul (Nat.mul_le_mul (Nat.le_refl 32) hd.2) (show i ≤ 3 by omega)
 refine qr fun K12 k13 => ?_
 refine s1 ha rfl (fun _ ha => r_lss ha ((i : Nat) : Int) 3 (decide (i < 3)) rfl rfl (decide_eq_decide.2 (by omega))) ?_; intro a ha
 refine k13 _ _ ?_
 refine wp_seq_k fun K14 k15 => ?_
 refine cond_if ha rfl (fun hc16 => ?_) (fun hc16 => ?_)
 ·skip
  replace hc16 := of_decide_eq_true hc16
  refine wp_skip ?_
  refine k15 _ _ ?_
  refine wp_seq_k fun K17 k18 => ?_
  refine wp_block ?_
  refine qr fun K19 k20 => ?_
  refine s1 ha rfl (fun _ ha => r_indexP (C := (r).map ei) (D := (rg r i).map ei) (i := i) ha Tryz.runUnderlying52 Tryz.sizeOf50 Tryz.isAgg50 rfl rfl (by omega) (by rw [List.length_map, rg_len _ _ (by rw [hr]; omega)]) (rg_map _ _ (by rw [hr]; omega))) ?_; intro a ha
  refine salloc ha zero_50M1 rfl ?_
  intro a w21 b22 ha hg hb22 hge22 hlt22
  have hz22 := Nat.le_trans hB.size hge22
  have hne_hovo_b22 : ∀ j, Value.ownBlock vo = some j → j ≠ b22 := fun j hj => by have := (hovo.lt j hj).2; omega
  replace hB := keepB0 hg hB
  replace hovo := keepW0 hg hovo
  refine sstoreW ha rfl rfl (one_ei _) Tryz.sizeOf50 (by rw [List.length_map, rg_len _ _ (by rw [hr]; omega)]) hb22 (by rw [List.length_map, List.length_replicate]) ?_
  intro a w23 ha hg hb22'
  replace hb22 := hb22'
  replace hB := keepB1 hg (by omega) hB
  replace hovo := keepW1 hg (ne_of_ap hne_hovo_b22) hovo
  refine k20 _ _ ?_
  refine region ?_
  refine s3 ha rfl (mv rfl) (mv rfl) (fun _ ha => r_loadR ha rfl Tryz.isAgg50 Tryz.sizeOf50 (C := (rg r i).map ei) (by rw [List.length_map, rg_len _ _ (by rw [hr]; omega)]) (cells_all hb22)) ?_; intro a ha
  refine sc ha (r_call ha [en d, .agg (((rg r i)).map ei).toArray] rfl Tryz.call54) rfl rfl rfl (c_pack1 d (rg r i) _ (by omega) (by rw [rg_len _ _ (by rw [hr]; omega)])) ?_
  rintro e w24 ⟨u25, rfl, hBc, hs25, hd25⟩
  have hg := grown_call hBc
  have hds_hs25_hovo := nds hd25 (fun j hj => (hovo.lt j hj).2)
  replace hd25 : ∀ j, u25.ownBlock = some j → w0.heap.size ≤ j := fun j hj => Nat.le_trans hB.size (hd25 j hj)
  replace hB := keepB0 hg hB
  replace hovo := keepW0 hg hovo
  refine ⟨_, rfl, ?_⟩; intro a ha
  refine sapp (C := ((pkR d r i)).map e8) (D := (paA d (rg r i) 256).map e8) ha rfl rfl Tryz.underlying22 rfl rfl rfl rfl hovo hs25 (one_e8 _) (by simp only [List.length_map, paA_len]; show _ * 1 ≤ _; omega) (by simp only [List.length_map, paA_len]; omega) hB.size rfl ?_
  intro a w27 v26 ha hg ho26 hnl26 hpl26
  rw [← List.map_append, List.length_map] at ho26
  have hds_ho26_hs25 : ∀ j, v26.ownBlock = some j → u25.ownBlock ≠ some j := fun j h1 h2 => (hpl26 j h1).elim (fun h => (fun j h1 h2 => hds_hs25_hovo j h2 h1) j h h2) (fun h => by have h4 := (fun j hj => hs25.lt j hj) j h2; omega)
  replace hB := keepBR hg (own_row hovo) hB
  replace hs25 := keepSR hg (fun j h1 h2 => hds_hs25_hovo j h2 h1) hs25
  refine s1 ha rfl (av rfl) ?_; intro a ha
  refine k18 _ _ ?_
  refine region ?_
  refine s2 ha rfl (fun _ ha => rn_add ha i 1 rfl rfl (by omega)) (mv rfl) ?_; intro a ha
  exact ⟨i + 1, by omega, v26, (by omega), ha.to [1, 8, 9, 5] rfl, hB, (own_castl (own_len ho26) rfl)⟩
 ·skip
  replace hc16 := of_decide_eq_false hc16
  refine wp_exit ?_
  obtain rfl : i = 3 := by omega
  refine k8 _ _ ?_
  refine qr fun K28 k29 => ?_
  refine s2 ha rfl (mv rfl) (av rfl) ?_; intro a ha
  refine k29 _ _ ?_
  refine wp_ret ?_
  exact ret1 ha Tryz.results53 rfl ⟨_, rfl, hB, (Sl.castM (l := pkR d r 3) (Sl.ofOwns hovo) rfl), (own_row hovo)⟩

theorem c_turn (bk : Nat) (v : Value) (rho : List UInt8) (w0 : World) (hs : Sl w0 v (rho.map e8)) (hbk : w0.heap[bk]? = some (.cells ([v]).toArray 22 (0, 0))) :
    Calls Tryz.prog 41 #[.func (.func 88) #[] #[.pointer (some ⟨bk, 0, none⟩)]] w0 fun e w' => ∃ bkn, e = .returned (.func (.func 90) #[] #[.pointer (some ⟨bkn, 0, none⟩)]) ∧ Below w0.heap.size w0 w' ∧ w'.heap[bkn]? = some (.cells (([.func (.func 88) #[] #[.pointer (some ⟨bk, 0, none⟩)]] : List Value)).toArray 58 (0, 0)) ∧ w0.heap.size ≤ bkn := by
 refine enter (args := [_]) Tryz.func41 rfl Tryz.ntmps41 rfl ?_
 intro a ha
 have hB := Below.refl w0.heap.size w0
 refine qr fun K1 k2 => ?_
 refine sbox1 ha rfl rfl rfl ?_
 intro a w3 b4 ha hg hb4 hge4 hlt4
 have hz4 := Nat.le_trans hB.size hge4
 have hqk_4 := bl hbk hge4
 replace hB := keepB0 hg hB
 replace hbk := keepO0 hg hbk
 refine s1 ha rfl (av rfl) ?_; intro a ha
 refine k2 _ _ ?_
 refine qr fun K5 k6 => ?_
 refine s2 ha rfl (fun _ ha => r_makeFunc ha [.tmp 1] [.pointer (some ⟨b4, 0, none⟩)] rfl) (av rfl) ?_; intro a ha
 refine k6 _ _ ?_
 refine wp_ret ?_
 exact ret1 ha Tryz.results41 rfl ⟨_, rfl, hB, hb4, hz4⟩
end Go.Proofs.YtaignhikdfpbbaaGreatDoor

/- WALKS written by gen.py (own program) out of specs. -/
namespace Go.Proofs.YtaignhikdfpbbaaGreatDoor
open Go.RowKit Go.Rx
set_option maxRecDepth 100000
set_option maxHeartbeats 4000000
set_option linter.unusedVariables false
set_option linter.unusedSimpArgs false

theorem zero_52M2 : ∀ w, (zeroValue 52).run Tryz.prog w = .ok (.agg ((List.replicate 768 (0 : Int)).map ei).toArray) w := fun _ => by kernel_rfl
theorem c_gen1 (v : Value) (b : List UInt8) (w0 : World) (hs : Sl w0 v (b.map e8)) (hb : b.length = 32) (hG : Glob w0) (hP : GlobP w0) :
    Calls Tryz.prog 28 #[v] w0 fun e w' => ∃ u0 u1 : Value, e = .returned (.tuple #[u0, u1, en 0]) ∧ Below w0.heap.size w0 w' ∧ Sl w' u0 ((ek1 b).map e8) ∧ (∀ j, u0.ownBlock = some j → w0.heap.size ≤ j) ∧ Sl w' u1 ((dk1 b).map e8) ∧ (∀ j, u1.ownBlock = some j → w0.heap.size ≤ j) := by
 refine enter (args := [_]) Tryz.func28 rfl Tryz.ntmps28 rfl ?_
 intro a ha
 have hB := Below.refl w0.heap.size w0
 refine qr fun K1 k2 => ?_
 refine s3 ha rfl (av rfl) (av rfl) (av rfl) ?_; intro a ha
 refine k2 _ _ ?_
 refine wp_seq_k fun K3 k4 => ?_
 refine qr fun K5 k6 => ?_
 refine s3 ha rfl (mv rfl) (fun _ ha => r_lenS ha Tryz.runUnderlying22 (hs.below hB) rfl (by rw [List.length_map])) (fun _ ha => r_neq ha ((b.length : Nat) : Int) 32 false rfl rfl (decide_eq_false (by omega))) ?_; intro a ha
 refine k6 _ _ ?_
 refine cond_f ha rfl ?_
 refine wp_skip ?_
 refine k4 _ _ ?_
 refine qr fun K7 k8 => ?_
 refine s1 ha rfl (mv rfl) ?_; intro a ha
 refine sbuildS ha [(0, .int .u8 3)] (([(3 : UInt8)] : List UInt8).map e8) rfl Tryz.runUnderlying22 Tryz.sizeOf5 Tryz.zeroValue5 rfl rfl rfl rfl rfl ?_
 intro a w9 b10 ha hg hb10 hge10 hlt10
 have hz10 := Nat.le_trans hB.size hge10
 replace hB := keepB0 hg hB
 refine sbuildS ha [(0, v), (1, .slice (some ⟨b10, 0, none⟩) 1 1)] [v, .slice (some ⟨b10, 0, none⟩) 1 1] rfl Tryz.runUnderlying96 Tryz.sizeOf22 Tryz.zeroValue22 rfl rfl rfl (fill2 (Sl.one (hs.below hB)) (Sl.one (Sl.ofBlockM hb10 (by rw [show ([(3 : UInt8)] : List UInt8).length = 1 from rfl]) (by omega)))) rfl ?_
 intro a w11 b12 ha hg hb12 hge12 hlt12
 have hz12 := Nat.le_trans hB.size hge12
 have hq10_12 := bl hb10 hge12
 replace hB := keepB0 hg hB
 replace hb10 := keepO0 hg hb10
 refine sc ha (r_call ha [(.slice (some ⟨b12, 0, none⟩) 2 2)] rfl Tryz.call52) rfl rfl rfl (c_join (.slice (some ⟨b12, 0, none⟩) 2 2) ([v, .slice (some ⟨b10, 0, none⟩) 1 1]) ([b, ([(3 : UInt8)] : List UInt8)]) _ (Sl.ofBlock (D := [v, .slice (some ⟨b10, 0, none⟩) 1 1]) (C := [v, .slice (some ⟨b10, 0, none⟩) 1 1]) hb12 rfl (Nat.le_refl _)) (.cons (hs.below hB) (.cons (Sl.ofBlockM hb10 (by rw [show ([(3 : UInt8)] : List UInt8).length = 1 from rfl]) (by omega)) .nil)) (by simp only [List.flatten_cons, List.flatten_nil, List.append_nil, List.length_append, List.length_cons, List.length_nil]; omega) (show 2 ≤ 1000 by omega)) ?_
 rintro e w13 ⟨u14, rfl, hBc, hs14, hd14⟩
 have hg := grown_call hBc
 replace hd14 : ∀ j, u14.ownBlock = some j → w0.heap.size ≤ j := fun j hj => Nat.le_trans hB.size (hd14 j hj)
 replace hB := keepB0 hg hB
 refine ⟨_, rfl, ?_⟩; intro a ha
 refine sc ha (r_call ha [u14] rfl Tryz.call75) rfl rfl rfl (c_sum512 u14 (([b, ([(3 : UInt8)] : List UInt8)]).flatten) _ hs14 (glob_keep hG hB)) ?_
 rintro e w15 ⟨u16, rfl, hBc, hs16, hd16⟩
 have hg := grown_call hBc
 replace hd16 : ∀ j, u16.ownBlock = some j → w0.heap.size ≤ j := fun j hj => Nat.le_trans hB.size (hd16 j hj)
 replace hB := keepB0 hg hB
 refine ⟨_, rfl, ?_⟩; intro a ha
 refine s1 ha rfl (av rfl) ?_; intro a ha
 refine k8 _ _ ?_
 refine wp_seq_k fun K17 k18 => ?_
 refine regionD (S := fun w => Below w0.heap.size w0 w ∧ Sl w u16 ((sum512 (([b, ([(3 : UInt8)] : List UInt8)]).flatten)).map e8) ∧ True) [] [0, 1, 2, 3, 4, 5] [0, 1, 2, 3, 4, 5] mixed (by kernel_rfl) (fun w hg => ⟨keepB0 hg hB, keepS0 hg hs16, trivial⟩) ?_
 intro w19 hg
 replace hB := keepB0 hg hB
 replace hs16 := keepS0 hg hs16
 refine c6 ha rfl (cmv rfl) (fun w ⟨_, hs16, _⟩ _ ha => r_resl (C := (sum512 (([b, ([(3 : UInt8)] : List UInt8)]).flatten)).map e8) ha 0 32 Tryz.runUnderlying22 Tryz.sizeOf5 hs16 rfl rfl rfl (by omega) (by rw [List.length_map]; exact (by rw [sum512_len]; omega))) (cmv rfl) (fun w ⟨_, hs16, _⟩ _ ha => r_resl (C := (sum512 (([b, ([(3 : UInt8)] : List UInt8)]).flatten)).map e8) ha 32 64 Tryz.runUnderlying22 Tryz.sizeOf5 hs16 rfl rfl (show 64 = _ by rw [List.length_map, sum512_len]) (by omega) (by rw [List.length_map]; exact (by rw [sum512_len]; omega))) (cav rfl) (cav rfl) ?_; intro a ha
 refine cfin (k18 _ _ ?_)
 refine qr fun K20 k21 => ?_
 refine s1 ha rfl (mv rfl) ?_; intro a ha
 refine scp ha (r_call ha [(rsl u16 32 64), en 0] rfl Tryz.call37) rfl rfl rfl (c_smalls (rsl u16 32 64) (gSeed b) 0 _ (Sl.castM (Sl.cutM (lo := 32) (hi := 64) hs16 (by omega) (by rw [sum512_len]; omega)) (cutE _ _ _ (sum512_len _))) (by first | (rw [gSeed_len]; omega) | (rw [gRho_len]; omega)) (by omega) (glob_keep hG hB)) ?_; intro w22 hg a ha
 replace hB := keepB0 hg hB
 replace hs16 := keepS0 hg hs16
 refine scp ha (r_call ha [.agg (((smA (gSeed b) 0 3)).map ei).toArray, .func (.func 39) #[] #[]] rfl Tryz.call38) rfl rfl rfl (c_eachFr (smA (gSeed b) 0 3) _ (by rw [smA_len _ _ _ (by omega)]) (glob_keep hG hB) (globP_keep hP hB)) ?_; intro w23 hg a ha
 replace hB := keepB0 hg hB
 replace hs16 := keepS0 hg hs16
 refine salloc ha zero_52M2 rfl ?_
 intro a w24 b25 ha hg hb25 hge25 hlt25
 have hz25 := Nat.le_trans hB.size hge25
 have hne_hs16_b25 : ∀ j, Value.ownBlock u16 = some j → j ≠ b25 := fun j hj => by have := hs16.lt j hj; omega
 replace hB := keepB0 hg hB
 replace hs16 := keepS0 hg hs16
 refine sstoreW ha rfl rfl (one_ei _) Tryz.sizeOf52 (by rw [List.length_map, eaR_len _ fwd_len _ (by rw [smA_len _ _ _ (by omega)]) _ (by omega)]) hb25 (by rw [List.length_map, List.length_replicate]) ?_
 intro a w26 ha hg hb25'
 replace hb25 := hb25'
 replace hB := keepB1 hg (by omega) hB
 replace hs16 := keepS1 hg (ne_of_ap hne_hs16_b25) hs16
 refine k21 _ _ ?_
 refine wp_seq_k fun K27 k28 => ?_
 have hJ39 : ∀ (a : Act) (w39 : World) (b31 : Nat) (b37 : Nat), Has 40 [(2, .slice none 0 0), (3, .slice none 0 0), (4, .int .i64 0), (6, rsl u16 0 32), (8, .pointer (some ⟨b25, 0, none⟩)), (9, .pointer (some ⟨b37, 0, none⟩))] a → (Below w0.heap.size w0 w39) → (w39.heap[b25]? = some (.cells ((eaR fwd (smA (gSeed b) 0 3) 3).map ei).toArray 52 (0, 0))) → (w39.heap[b31]? = some (.cells ([rsl u16 0 32]).toArray 22 (0, 0))) → (w39.heap[b37]? = some (.cells ((plR (tiA (mat (gRho b)) (eaR fwd (smA (gSeed b) 0 3) 3) 3) (eaR fwd (smA (gSeed b) 3 3) 3) 3).map ei).toArray 52 (0, 0))) → (Sl w39 u16 ((sum512 (([b, ([(3 : UInt8)] : List UInt8)]).flatten)).map e8)) → (w0.heap.size ≤ b31) → (w0.heap.size ≤ b37) → (b31 ≠ b25) → (b37 ≠ b25) → (b37 ≠ b31) → (∀ j, u16.ownBlock = some j → j ≠ b31) → (∀ j, u16.ownBlock = some j → j ≠ b37) → K27 a w39 := by
  intro a w39 b31 b37 ha hB hb25 hb31 hb37 hs16 hzb31 hzb37 hqb31_b25 hqb37_b25 hqb37_b31 hnj_hs16_b31 hnj_hs16_b37
  refine k28 _ _ ?_
  refine wp_seq_k fun K40 k41 => ?_
  refine regionD (S := fun w => Below w0.heap.size w0 w ∧ w.heap[b25]? = some (.cells ((eaR fwd (smA (gSeed b) 0 3) 3).map ei).toArray 52 (0, 0)) ∧ w.heap[b37]? = some (.cells ((plR (tiA (mat (gRho b)) (eaR fwd (smA (gSeed b) 0 3) 3) 3) (eaR fwd (smA (gSeed b) 3 3) 3) 3).map ei).toArray 52 (0, 0)) ∧ Sl w u16 ((sum512 (([b, ([(3 : UInt8)] : List UInt8)]).flatten)).map e8) ∧ True) [] [0, 2, 5, 7, 8, 9] [0, 2, 5, 1, 3, 4, 6, 7, 8, 9] mixed (by kernel_rfl) (fun w hg => ⟨keepB0 hg hB, keepO0 hg hb25, keepO0 hg hb37, keepS0 hg hs16, trivial⟩) ?_
  intro w42 hg
  replace hB := keepB0 hg hB
  replace hb25 := keepO0 hg hb25
  replace hb37 := keepO0 hg hb37
  replace hs16 := keepS0 hg hs16
  refine c3 ha rfl (fun w ⟨_, _, hb37, _⟩ _ ha => r_loadR ha rfl Tryz.isAgg52 Tryz.sizeOf52 (C := (plR (tiA (mat (gRho b)) (eaR fwd (smA (gSeed b) 0 3) 3) 3) (eaR fwd (smA (gSeed b) 3 3) 3) 3).map ei) (by rw [List.length_map, plR_len _ _ (by rw [tiA_len _ _ _ (by omega)]) _ (by omega)]) (cells_all hb37)) (cmv rfl) (fun w ⟨_, hb25, _⟩ _ ha => r_loadR ha rfl Tryz.isAgg52 Tryz.sizeOf52 (C := (eaR fwd (smA (gSeed b) 0 3) 3).map ei) (by rw [List.length_map, eaR_len _ fwd_len _ (by rw [smA_len _ _ _ (by omega)]) _ (by omega)]) (cells_all hb25)) ?_; intro a ha
  refine ccx ha rfl rfl (r_call ha [.agg (((plR (tiA (mat (gRho b)) (eaR fwd (smA (gSeed b) 0 3) 3) 3) (eaR fwd (smA (gSeed b) 3 3) 3) 3)).map ei).toArray, en 12] rfl Tryz.call53) rfl rfl rfl (c_packR (plR (tiA (mat (gRho b)) (eaR fwd (smA (gSeed b) 0 3) 3) 3) (eaR fwd (smA (gSeed b) 3 3) 3) 3) 12 _ (by rw [plR_len _ _ (by rw [tiA_len _ _ _ (by omega)]) _ (by omega)]) (by omega)) ?_
  rintro e w43 ⟨u44, rfl, hBc, hs44, hd44⟩
  have hg := grown_call hBc
  have hnb_hs44_b25 := nbn hd44 hb25
  have hnb_hs44_b37 := nbn hd44 hb37
  have hds_hs44_hs16 := nds hd44 (fun j hj => hs16.lt j hj)
  replace hd44 : ∀ j, u44.ownBlock = some j → w0.heap.size ≤ j := fun j hj => Nat.le_trans hB.size (hd44 j hj)
  replace hB := keepB0 hg hB
  replace hb25 := keepO0 hg hb25
  replace hb37 := keepO0 hg hb37
  replace hs16 := keepS0 hg hs16
  refine ⟨fun w => (Sl w u44 ((pkR 12 (plR (tiA (mat (gRho b)) (eaR fwd (smA (gSeed b) 0 3) 3) 3) (eaR fwd (smA (gSeed b) 3 3) 3) 3) 3).map e8)) ∧ Below w0.heap.size w0 w ∧ w.heap[b25]? = some (.cells ((eaR fwd (smA (gSeed b) 0 3) 3).map ei).toArray 52 (0, 0)) ∧ w.heap[b37]? = some (.cells ((plR (tiA (mat (gRho b)) (eaR fwd (smA (gSeed b) 0 3) 3) 3) (eaR fwd (smA (gSeed b) 3 3) 3) 3).map ei).toArray 52 (0, 0)) ∧ Sl w u16 ((sum512 (([b, ([(3 : UInt8)] : List UInt8)]).flatten)).map e8) ∧ True, fun w h => h.2, fun _ => ⟨hs44, hB, hb25, hb37, hs16, trivial⟩, _, rfl, ?_⟩; intro a ha
  obtain ⟨b45, w46, hr45, hg, hb45, hge45, hlt45⟩ := r_buildS (w := w43) (dst := some 36) (ty := 96) (pos := "kpke.go:106") (af := #[⟨1, .data⟩, ⟨2, .data⟩]) (g := none) (t := 96) (k := 2) (parts := [(0, .tmp 34), (1, .tmp 35)]) ha [(0, u44), (1, rsl u16 0 32)] [u44, rsl u16 0 32] rfl Tryz.runUnderlying96 Tryz.sizeOf22 Tryz.zeroValue22 rfl rfl rfl (fill2 (Sl.one hs44) (Sl.one (Sl.castM (Sl.cutM (lo := 0) (hi := 32) hs16 (by omega) (by rw [sum512_len]; omega)) (cut0 _ _))))
  have hz45 := Nat.le_trans hB.size hge45
  have hne_hs16_b45 : ∀ j, Value.ownBlock u16 = some j → j ≠ b45 := fun j hj => by have := hs16.lt j hj; omega
  have hne_hs44_b45 : ∀ j, Value.ownBlock u44 = some j → j ≠ b45 := fun j hj => by have := hs44.lt j hj; omega
  have hq25_45 := bl hb25 hge45
  have hq37_45 := bl hb37 hge45
  replace hB := keepB0 hg hB
  replace hb25 := keepO0 hg hb25
  replace hb37 := keepO0 hg hb37
  replace hs16 := keepS0 hg hs16
  replace hs44 := keepS0 hg hs44
  refine cwx ha rfl rfl hr45 rfl rfl rfl ⟨fun w => (w.heap[b45]? = some (.cells ([u44, rsl u16 0 32]).toArray 22 (0, 0))) ∧ (Sl w u44 ((pkR 12 (plR (tiA (mat (gRho b)) (eaR fwd (smA (gSeed b) 0 3) 3) 3) (eaR fwd (smA (gSeed b) 3 3) 3) 3) 3).map e8)) ∧ Below w0.heap.size w0 w ∧ w.heap[b25]? = some (.cells ((eaR fwd (smA (gSeed b) 0 3) 3).map ei).toArray 52 (0, 0)) ∧ w.heap[b37]? = some (.cells ((plR (tiA (mat (gRho b)) (eaR fwd (smA (gSeed b) 0 3) 3) 3) (eaR fwd (smA (gSeed b) 3 3) 3) 3).map ei).toArray 52 (0, 0)) ∧ Sl w u16 ((sum512 (([b, ([(3 : UInt8)] : List UInt8)]).flatten)).map e8) ∧ True, fun w h => h.2, fun _ => ⟨hb45, hs44, hB, hb25, hb37, hs16, trivial⟩, ?_⟩; intro a ha
  refine ccx ha rfl rfl (r_call ha [(.slice (some ⟨b45, 0, none⟩) 2 2)] rfl Tryz.call52) rfl rfl rfl (c_join (.slice (some ⟨b45, 0, none⟩) 2 2) ([u44, rsl u16 0 32]) ([pkR 12 (plR (tiA (mat (gRho b)) (eaR fwd (smA (gSeed b) 0 3) 3) 3) (eaR fwd (smA (gSeed b) 3 3) 3) 3) 3, gRho b]) _ (Sl.ofBlock (D := [u44, rsl u16 0 32]) (C := [u44, rsl u16 0 32]) hb45 rfl (Nat.le_refl _)) (.cons hs44 (.cons (Sl.castM (Sl.cutM (lo := 0) (hi := 32) hs16 (by omega) (by rw [sum512_len]; omega)) (cut0 _ _)) .nil)) (by simp only [List.flatten_cons, List.flatten_nil, List.append_nil, List.length_append, pkR_len, gRho_len]; omega) (show 2 ≤ 1000 by omega)) ?_
  rintro e w47 ⟨u48, rfl, hBc, hs48, hd48⟩
  have hg := grown_call hBc
  have hnb_hs48_b25 := nbn hd48 hb25
  have hnb_hs48_b37 := nbn hd48 hb37
  have hnb_hs48_b45 := nbn hd48 hb45
  have hds_hs48_hs16 := nds hd48 (fun j hj => hs16.lt j hj)
  have hds_hs48_hs44 := nds hd48 (fun j hj => hs44.lt j hj)
  replace hd48 : ∀ j, u48.ownBlock = some j → w0.heap.size ≤ j := fun j hj => Nat.le_trans hB.size (hd48 j hj)
  replace hB := keepB0 hg hB
  replace hb25 := keepO0 hg hb25
  replace hb37 := keepO0 hg hb37
  replace hb45 := keepO0 hg hb45
  replace hs16 := keepS0 hg hs16
  replace hs44 := keepS0 hg hs44
  refine ⟨fun w => (Sl w u48 ((([pkR 12 (plR (tiA (mat (gRho b)) (eaR fwd (smA (gSeed b) 0 3) 3) 3) (eaR fwd (smA (gSeed b) 3 3) 3) 3) 3, gRho b]).flatten).map e8)) ∧ (w.heap[b45]? = some (.cells ([u44, rsl u16 0 32]).toArray 22 (0, 0))) ∧ (Sl w u44 ((pkR 12 (plR (tiA (mat (gRho b)) (eaR fwd (smA (gSeed b) 0 3) 3) 3) (eaR fwd (smA (gSeed b) 3 3) 3) 3) 3).map e8)) ∧ Below w0.heap.size w0 w ∧ w.heap[b25]? = some (.cells ((eaR fwd (smA (gSeed b) 0 3) 3).map ei).toArray 52 (0, 0)) ∧ w.heap[b37]? = some (.cells ((plR (tiA (mat (gRho b)) (eaR fwd (smA (gSeed b) 0 3) 3) 3) (eaR fwd (smA (gSeed b) 3 3) 3) 3).map ei).toArray 52 (0, 0)) ∧ Sl w u16 ((sum512 (([b, ([(3 : UInt8)] : List UInt8)]).flatten)).map e8) ∧ True, fun w h => h.2, fun _ => ⟨hs48, hb45, hs44, hB, hb25, hb37, hs16, trivial⟩, _, rfl, ?_⟩; intro a ha
  refine ccx ha rfl rfl (r_call ha [.agg (((eaR fwd (smA (gSeed b) 0 3) 3)).map ei).toArray, en 12] rfl Tryz.call53) rfl rfl rfl (c_packR (eaR fwd (smA (gSeed b) 0 3) 3) 12 _ (by rw [eaR_len _ fwd_len _ (by rw [smA_len _ _ _ (by omega)]) _ (by omega)]) (by omega)) ?_
  rintro e w49 ⟨u50, rfl, hBc, hs50, hd50⟩
  have hg := grown_call hBc
  have hnb_hs50_b25 := nbn hd50 hb25
  have hnb_hs50_b37 := nbn hd50 hb37
  have hnb_hs50_b45 := nbn hd50 hb45
  have hds_hs50_hs16 := nds hd50 (fun j hj => hs16.lt j hj)
  have hds_hs50_hs44 := nds hd50 (fun j hj => hs44.lt j hj)
  have hds_hs50_hs48 := nds hd50 (fun j hj => hs48.lt j hj)
  replace hd50 : ∀ j, u50.ownBlock = some j → w0.heap.size ≤ j := fun j hj => Nat.le_trans hB.size (hd50 j hj)
  replace hB := keepB0 hg hB
  replace hb25 := keepO0 hg hb25
  replace hb37 := keepO0 hg hb37
  replace hb45 := keepO0 hg hb45
  replace hs16 := keepS0 hg hs16
  replace hs44 := keepS0 hg hs44
  replace hs48 := keepS0 hg hs48
  refine ⟨fun w => (Sl w u50 ((pkR 12 (eaR fwd (smA (gSeed b) 0 3) 3) 3).map e8)) ∧ (Sl w u48 ((([pkR 12 (plR (tiA (mat (gRho b)) (eaR fwd (smA (gSeed b) 0 3) 3) 3) (eaR fwd (smA (gSeed b) 3 3) 3) 3) 3, gRho b]).flatten).map e8)) ∧ (w.heap[b45]? = some (.cells ([u44, rsl u16 0 32]).toArray 22 (0, 0))) ∧ (Sl w u44 ((pkR 12 (plR (tiA (mat (gRho b)) (eaR fwd (smA (gSeed b) 0 3) 3) 3) (eaR fwd (smA (gSeed b) 3 3) 3) 3) 3).map e8)) ∧ Below w0.heap.size w0 w ∧ w.heap[b25]? = some (.cells ((eaR fwd (smA (gSeed b) 0 3) 3).map ei).toArray 52 (0, 0)) ∧ w.heap[b37]? = some (.cells ((plR (tiA (mat (gRho b)) (eaR fwd (smA (gSeed b) 0 3) 3) 3) (eaR fwd (smA (gSeed b) 3 3) 3) 3).map ei).toArray 52 (0, 0)) ∧ Sl w u16 ((sum512 (([b, ([(3 : UInt8)] : List UInt8)]).flatten)).map e8) ∧ True, fun w h => h.2, fun _ => ⟨hs50, hs48, hb45, hs44, hB, hb25, hb37, hs16, trivial⟩, _, rfl, ?_⟩; intro a ha
  refine c3 ha rfl (cav rfl) (cav rfl) (cav rfl) ?_; intro a ha
  refine cfin (k41 _ _ ?_)
  refine wp_ret ?_
  exact ret3 ha Tryz.results28 rfl rfl rfl ⟨_, _, rfl, hB, (Sl.castM (l := ([pkR 12 (plR (tiA (mat (gRho b)) (eaR fwd (smA (gSeed b) 0 3) 3) 3) (eaR fwd (smA (gSeed b) 3 3) 3) 3) 3, gRho b]).flatten) hs48 rfl), hd48, (Sl.castM (l := pkR 12 (eaR fwd (smA (gSeed b) 0 3) 3) 3) hs50 rfl), hd50⟩
 refine regionT (S := fun w => Below w0.heap.size w0 w ∧ w.heap[b25]? = some (.cells ((eaR fwd (smA (gSeed b) 0 3) 3).map ei).toArray 52 (0, 0)) ∧ Sl w u16 ((sum512 (([b, ([(3 : UInt8)] : List UInt8)]).flatten)).map e8) ∧ True) [9] [0, 2, 4] (.op 0 (.op 2 (.op 4 (.two 1 (.two 3 (.two 5 (.two 6 (.two 7 (.op 8 (.op 9 .fin)) 8 (.op 7 (.op 9 .fin))) 8 (.op 6 (.op 7 (.op 9 .fin)))) 8 (.op 5 (.op 6 (.op 7 (.op 9 .fin))))) 8 (.op 3 (.op 5 (.op 6 (.op 7 (.op 9 .fin)))))) 8 (.op 1 (.op 3 (.op 5 (.op 6 (.op 7 (.op 9 .fin)))))))))) mixed (by kernel_rfl) (fun w hg => ⟨keepB0 hg hB, keepO0 hg hb25, keepS0 hg hs16, trivial⟩) ?_
 intro w29 hg
 replace hB := keepB0 hg hB
 replace hb25 := keepO0 hg hb25
 replace hs16 := keepS0 hg hs16
 refine T.c3 ha rfl (cmv rfl) (fun w ⟨_, hb25, _⟩ _ ha => r_loadR ha rfl Tryz.isAgg52 Tryz.sizeOf52 (C := (eaR fwd (smA (gSeed b) 0 3) 3).map ei) (by rw [List.length_map, eaR_len _ fwd_len _ (by rw [smA_len _ _ _ (by omega)]) _ (by omega)]) (cells_all hb25)) (cmv rfl) ?_; intro a ha
 refine T.two ?_ ?_
 ·skip
  refine T.ccx ha rfl rfl (r_call ha [(rsl u16 0 32)] rfl Tryz.call40) rfl rfl rfl (c_matrix (rsl u16 0 32) (gRho b) _ (Sl.castM (Sl.cutM (lo := 0) (hi := 32) hs16 (by omega) (by rw [sum512_len]; omega)) (cut0 _ _))) ?_
  rintro e w51 ⟨b52, rfl, hBc, hb52, hge52⟩
  have hg := grown_call hBc
  have hz52 := Nat.le_trans hB.size hge52
  have hne_hs16_b52 : ∀ j, Value.ownBlock u16 = some j → j ≠ b52 := fun j hj => by have := hs16.lt j hj; omega
  have hq25_52 := bl hb25 hge52
  replace hB := keepB0 hg hB
  replace hb25 := keepO0 hg hb25
  replace hs16 := keepS0 hg hs16
  refine ⟨fun w => (w.heap[b52]? = some (.cells ([rsl u16 0 32]).toArray 22 (0, 0))) ∧ Below w0.heap.size w0 w ∧ w.heap[b25]? = some (.cells ((eaR fwd (smA (gSeed b) 0 3) 3).map ei).toArray 52 (0, 0)) ∧ Sl w u16 ((sum512 (([b, ([(3 : UInt8)] : List UInt8)]).flatten)).map e8) ∧ True, fun w h => h.2, fun _ => ⟨hb52, hB, hb25, hs16, trivial⟩, _, rfl, ?_⟩; intro a ha
  refine T.two ?_ ?_
  ·skip
   refine T.cc ha rfl rfl (r_call ha [.func (.func 88) #[] #[.pointer (some ⟨b52, 0, none⟩)], .agg (((eaR fwd (smA (gSeed b) 0 3) 3)).map ei).toArray] rfl Tryz.call42) rfl rfl rfl (c_timesM b52 (rsl u16 0 32) (gRho b) (eaR fwd (smA (gSeed b) 0 3) 3) _ (Sl.castM (Sl.cutM (lo := 0) (hi := 32) hs16 (by omega) (by rw [sum512_len]; omega)) (cut0 _ _)) (by first | (rw [gSeed_len]; omega) | (rw [gRho_len]; omega)) (by rw [eaR_len _ fwd_len _ (by rw [smA_len _ _ _ (by omega)]) _ (by omega)]) hb52 (glob_keep hG hB) (globP_keep hP hB)) ?_
   rintro e w53 ⟨rfl, hBc⟩
   have hg := grown_call hBc
   replace hB := keepB0 hg hB
   replace hb25 := keepO0 hg hb25
   replace hb52 := keepO0 hg hb52
   replace hs16 := keepS0 hg hs16
   refine ⟨fun _ => ⟨hb52, hB, hb25, hs16, trivial⟩, _, rfl, ?_⟩; intro a ha
   refine T.two ?_ ?_
   ·skip
    refine T.cc ha rfl rfl (r_call ha [(rsl u16 32 64), en 3] rfl Tryz.call37) rfl rfl rfl (c_smalls (rsl u16 32 64) (gSeed b) 3 _ (Sl.castM (Sl.cutM (lo := 32) (hi := 64) hs16 (by omega) (by rw [sum512_len]; omega)) (cutE _ _ _ (sum512_len _))) (by first | (rw [gSeed_len]; omega) | (rw [gRho_len]; omega)) (by omega) (glob_keep hG hB)) ?_
    rintro e w54 ⟨rfl, hBc⟩
    have hg := grown_call hBc
    replace hB := keepB0 hg hB
    replace hb25 := keepO0 hg hb25
    replace hb52 := keepO0 hg hb52
    replace hs16 := keepS0 hg hs16
    refine ⟨fun _ => ⟨hb52, hB, hb25, hs16, trivial⟩, _, rfl, ?_⟩; intro a ha
    refine T.two ?_ ?_
    ·skip
     refine T.cc ha rfl rfl (r_call ha [.agg (((smA (gSeed b) 3 3)).map ei).toArray, .func (.func 39) #[] #[]] rfl Tryz.call38) rfl rfl rfl (c_eachFr (smA (gSeed b) 3 3) _ (by rw [smA_len _ _ _ (by omega)]) (glob_keep hG hB) (globP_keep hP hB)) ?_
     rintro e w55 ⟨rfl, hBc⟩
     have hg := grown_call hBc
     replace hB := keepB0 hg hB
     replace hb25 := keepO0 hg hb25
     replace hb52 := keepO0 hg hb52
     replace hs16 := keepS0 hg hs16
     refine ⟨fun _ => ⟨hb52, hB, hb25, hs16, trivial⟩, _, rfl, ?_⟩; intro a ha
     refine T.two ?_ ?_
     ·skip
      refine T.cc ha rfl rfl (r_call ha [.agg (((tiA (mat (gRho b)) (eaR fwd (smA (gSeed b) 0 3) 3) 3)).map ei).toArray, .agg (((eaR fwd (smA (gSeed b) 3 3) 3)).map ei).toArray] rfl Tryz.call44) rfl rfl rfl (c_plusR (tiA (mat (gRho b)) (eaR fwd (smA (gSeed b) 0 3) 3) 3) (eaR fwd (smA (gSeed b) 3 3) 3) _ (by rw [tiA_len _ _ _ (by omega)]) (by rw [eaR_len _ fwd_len _ (by rw [smA_len _ _ _ (by omega)]) _ (by omega)]) (glob_keep hG hB) (globP_keep hP hB)) ?_
      rintro e w56 ⟨rfl, hBc⟩
      have hg := grown_call hBc
      replace hB := keepB0 hg hB
      replace hb25 := keepO0 hg hb25
      replace hb52 := keepO0 hg hb52
      replace hs16 := keepS0 hg hs16
      refine ⟨fun _ => ⟨hb52, hB, hb25, hs16, trivial⟩, _, rfl, ?_⟩; intro a ha
      refine T.calloc ha rfl rfl zero_52M2 rfl (fun w hg => ⟨keepO0 hg hb52, keepB0 hg hB, keepO0 hg hb25, keepS0 hg hs16, trivial⟩) ?_
      intro a w57 b58 ha hg hb58 hge58 hlt58
      have hz58 := Nat.le_trans hB.size hge58
      have hne_hs16_b58 : ∀ j, Value.ownBlock u16 = some j → j ≠ b58 := fun j hj => by have := hs16.lt j hj; omega
      have hq25_58 := bl hb25 hge58
      have hq52_58 := bl hb52 hge58
      replace hB := keepB0 hg hB
      replace hb25 := keepO0 hg hb25
      replace hb52 := keepO0 hg hb52
      replace hs16 := keepS0 hg hs16
      refine T.cstoreW ha rfl rfl rfl rfl (one_ei _) Tryz.sizeOf52 (by rw [List.length_map, plR_len _ _ (by rw [tiA_len _ _ _ (by omega)]) _ (by omega)]) hb58 (by rw [List.length_map, List.length_replicate]) rfl ?_
      intro a w59 ha hg hb58'
      replace hb58 := hb58'
      replace hB := keepB1 hg (by omega) hB
      replace hb25 := keepO1 hg (by omega) hb25
      replace hb52 := keepO1 hg (by omega) hb52
      replace hs16 := keepS1 hg (ne_of_ap hne_hs16_b58) hs16
      exact T.cfin (hJ39 _ _ b52 b58 (ha.to [2, 3, 4, 6, 8, 9] rfl) hB hb25 hb52 hb58 hs16 hz52 hz58 (by omega) (by omega) (by omega) hne_hs16_b52 hne_hs16_b58)
     ·skip
      refine T.calloc ha rfl rfl zero_52M2 rfl (fun w hg => ⟨keepO0 hg hb52, keepB0 hg hB, keepO0 hg hb25, keepS0 hg hs16, trivial⟩) ?_
      intro a w60 b61 ha hg hb61 hge61 hlt61
      have hz61 := Nat.le_trans hB.size hge61
      have hne_hs16_b61 : ∀ j, Value.ownBlock u16 = some j → j ≠ b61 := fun j hj => by have := hs16.lt j hj; omega
      have hq25_61 := bl hb25 hge61
      have hq52_61 := bl hb52 hge61
      replace hB := keepB0 hg hB
      replace hb25 := keepO0 hg hb25
      replace hb52 := keepO0 hg hb52
      replace hs16 := keepS0 hg hs16
      refine T.cc ha rfl rfl (r_call ha [.agg (((tiA (mat (gRho b)) (eaR fwd (smA (gSeed b) 0 3) 3) 3)).map ei).toArray, .agg (((eaR fwd (smA (gSeed b) 3 3) 3)).map ei).toArray] rfl Tryz.call44) rfl rfl rfl (c_plusR (tiA (mat (gRho b)) (eaR fwd (smA (gSeed b) 0 3) 3) 3) (eaR fwd (smA (gSeed b) 3 3) 3) _ (by rw [tiA_len _ _ _ (by omega)]) (by rw [eaR_len _ fwd_len _ (by rw [smA_len _ _ _ (by omega)]) _ (by omega)]) (glob_keep hG hB) (globP_keep hP hB)) ?_
      rintro e w62 ⟨rfl, hBc⟩
      have hg := grown_call hBc
      replace hB := keepB0 hg hB
      replace hb25 := keepO0 hg hb25
      replace hb52 := keepO0 hg hb52
      replace hb61 := keepO0 hg hb61
      replace hs16 := keepS0 hg hs16
      refine ⟨fun _ => ⟨hb52, hB, hb25, hs16, trivial⟩, _, rfl, ?_⟩; intro a ha
      refine T.cstoreW ha rfl rfl rfl rfl (one_ei _) Tryz.sizeOf52 (by rw [List.length_map, plR_len _ _ (by rw [tiA_len _ _ _ (by omega)]) _ (by omega)]) hb61 (by rw [List.length_map, List.length_replicate]) rfl ?_
      intro a w63 ha hg hb61'
      replace hb61 := hb61'
      replace hB := keepB1 hg (by omega) hB
      replace hb25 := keepO1 hg (by omega) hb25
      replace hb52 := keepO1 hg (by omega) hb52
      replace hs16 := keepS1 hg (ne_of_ap hne_hs16_b61) hs16
      exact T.cfin (hJ39 _ _ b52 b61 (ha.to [2, 3, 4, 6, 8, 9] rfl) hB hb25 hb52 hb61 hs16 hz52 hz61 (by omega) (by omega) (by omega) hne_hs16_b52 hne_hs16_b61)
    ·skip
     refine T.calloc ha rfl rfl zero_52M2 rfl (fun w hg => ⟨keepO0 hg hb52, keepB0 hg hB, keepO0 hg hb25, keepS0 hg hs16, trivial⟩) ?_
     intro a w64 b65 ha hg hb65 hge65 hlt65
     have hz65 := Nat.le_trans hB.size hge65
     have hne_hs16_b65 : ∀ j, Value.ownBlock u16 = some j → j ≠ b65 := fun j hj => by have := hs16.lt j hj; omega
     have hq25_65 := bl hb25 hge65
     have hq52_65 := bl hb52 hge65
     replace hB := keepB0 hg hB
     replace hb25 := keepO0 hg hb25
     replace hb52 := keepO0 hg hb52
     replace hs16 := keepS0 hg hs16
     refine T.cc ha rfl rfl (r_call ha [.agg (((smA (gSeed b) 3 3)).map ei).toArray, .func (.func 39) #[] #[]] rfl Tryz.call38) rfl rfl rfl (c_eachFr (smA (gSeed b) 3 3) _ (by rw [smA_len _ _ _ (by omega)]) (glob_keep hG hB) (globP_keep hP hB)) ?_
     rintro e w66 ⟨rfl, hBc⟩
     have hg := grown_call hBc
     replace hB := keepB0 hg hB
     replace hb25 := keepO0 hg hb25
     replace hb52 := keepO0 hg hb52
     replace hb65 := keepO0 hg hb65
     replace hs16 := keepS0 hg hs16
     refine ⟨fun _ => ⟨hb52, hB, hb25, hs16, trivial⟩, _, rfl, ?_⟩; intro a ha
     refine T.cc ha rfl rfl (r_call ha [.agg (((tiA (mat (gRho b)) (eaR fwd (smA (gSeed b) 0 3) 3) 3)).map ei).toArray, .agg (((eaR fwd (smA (gSeed b) 3 3) 3)).map ei).toArray] rfl Tryz.call44) rfl rfl rfl (c_plusR (tiA (mat (gRho b)) (eaR fwd (smA (gSeed b) 0 3) 3) 3) (eaR fwd (smA (gSeed b) 3 3) 3) _ (by rw [tiA_len _ _ _ (by omega)]) (by rw [eaR_len _ fwd_len _ (by rw [smA_len _ _ _ (by omega)]) _ (by omega)]) (glob_keep hG hB) (globP_keep hP hB)) ?_
     rintro e w67 ⟨rfl, hBc⟩
     have hg := grown_call hBc
     replace hB := keepB0 hg hB
     replace hb25 := keepO0 hg hb25
     replace hb52 := keepO0 hg hb52
     replace hb65 := keepO0 hg hb65
     replace hs16 := keepS0 hg hs16
     refine ⟨fun _ => ⟨hb52, hB, hb25, hs16, trivial⟩, _, rfl, ?_⟩; intro a ha
     refine T.cstoreW ha rfl rfl rfl rfl (one_ei _) Tryz.sizeOf52 (by rw [List.length_map, plR_len _ _ (by rw [tiA_len _ _ _ (by omega)]) _ (by omega)]) hb65 (by rw [List.length_map, List.length_replicate]) rfl ?_
     intro a w68 ha hg hb65'
     replace hb65 := hb65'
     replace hB := keepB1 hg (by omega) hB
     replace hb25 := keepO1 hg (by omega) hb25
     replace hb52 := keepO1 hg (by omega) hb52
     replace hs16 := keepS1 hg (ne_of_ap hne_hs16_b65) hs16
     exact T.cfin (hJ39 _ _ b52 b65 (ha.to [2, 3, 4, 6, 8, 9] rfl) hB hb25 hb52 hb65 hs16 hz52 hz65 (by omega) (by omega) (by omega) hne_hs16_b52 hne_hs16_b65)
   ·skip
    refine T.calloc ha rfl rfl zero_52M2 rfl (fun w hg => ⟨keepO0 hg hb52, keepB0 hg hB, keepO0 hg hb25, keepS0 hg hs16, trivial⟩) ?_
    intro a w69 b70 ha hg hb70 hge70 hlt70
    have hz70 := Nat.le_trans hB.size hge70
    have hne_hs16_b70 : ∀ j, Value.ownBlock u16 = some j → j ≠ b70 := fun j hj => by have := hs16.lt j hj; omega
    have hq25_70 := bl hb25 hge70
    have hq52_70 := bl hb52 hge70
    replace hB := keepB0 hg hB
    replace hb25 := keepO0 hg hb25
    replace hb52 := keepO0 hg hb52
    replace hs16 := keepS0 hg hs16
    refine T.cc ha rfl rfl (r_call ha [(rsl u16 32 64), en 3] rfl Tryz.call37) rfl rfl rfl (c_smalls (rsl u16 32 64) (gSeed b) 3 _ (Sl.castM (Sl.cutM (lo := 32) (hi := 64) hs16 (by omega) (by rw [sum512_len]; omega)) (cutE _ _ _ (sum512_len _))) (by first | (rw [gSeed_len]; omega) | (rw [gRho_len]; omega)) (by omega) (glob_keep hG hB)) ?_
    rintro e w71 ⟨rfl, hBc⟩
    have hg := grown_call hBc
    replace hB := keepB0 hg hB
    replace hb25 := keepO0 hg hb25
    replace hb52 := keepO0 hg hb52
    replace hb70 := keepO0 hg hb70
    replace hs16 := keepS0 hg hs16
    refine ⟨fun _ => ⟨hb52, hB, hb25, hs16, trivial⟩, _, rfl, ?_⟩; intro a ha
    refine T.cc ha rfl rfl (r_call ha [.agg (((smA (gSeed b) 3 3)).map ei).toArray, .func (.func 39) #[] #[]] rfl Tryz.call38) rfl rfl rfl (c_eachFr (smA (gSeed b) 3 3) _ (by rw [smA_len _ _ _ (by omega)]) (glob_keep hG hB) (globP_keep hP hB)) ?_
    rintro e w72 ⟨rfl, hBc⟩
    have hg := grown_call hBc
    replace hB := keepB0 hg hB
    replace hb25 := keepO0 hg hb25
    replace hb52 := keepO0 hg hb52
    replace hb70 := keepO0 hg hb70
    replace hs16 := keepS0 hg hs16
    refine ⟨fun _ => ⟨hb52, hB, hb25, hs16, trivial⟩, _, rfl, ?_⟩; intro a ha
    refine T.cc ha rfl rfl (r_call ha [.agg (((tiA (mat (gRho b)) (eaR fwd (smA (gSeed b) 0 3) 3) 3)).map ei).toArray, .agg (((eaR fwd (smA (gSeed b) 3 3) 3)).map ei).toArray] rfl Tryz.call44) rfl rfl rfl (c_plusR (tiA (mat (gRho b)) (eaR fwd (smA (gSeed b) 0 3) 3) 3) (eaR fwd (smA (gSeed b) 3 3) 3) _ (by rw [tiA_len _ _ _ (by omega)]) (by rw [eaR_len _ fwd_len _ (by rw [smA_len _ _ _ (by omega)]) _ (by omega)]) (glob_keep hG hB) (globP_keep hP hB)) ?_
    rintro e w73 ⟨rfl, hBc⟩
    have hg := grown_call hBc
    replace hB := keepB0 hg hB
    replace hb25 := keepO0 hg hb25
    replace hb52 := keepO0 hg hb52
    replace hb70 := keepO0 hg hb70
    replace hs16 := keepS0 hg hs16
    refine ⟨fun _ => ⟨hb52, hB, hb25, hs16, trivial⟩, _, rfl, ?_⟩; intro a ha
    refine T.cstoreW ha rfl rfl rfl rfl (one_ei _) Tryz.sizeOf52 (by rw [List.length_map, plR_len _ _ (by rw [tiA_len _ _ _ (by omega)]) _ (by omega)]) hb70 (by rw [List.length_map, List.length_replicate]) rfl ?_
    intro a w74 ha hg hb70'
    replace hb70 := hb70'
    replace hB := keepB1 hg (by omega) hB
    replace hb25 := keepO1 hg (by omega) hb25
    replace hb52 := keepO1 hg (by omega) hb52
    replace hs16 := keepS1 hg (ne_of_ap hne_hs16_b70) hs16
    exact T.cfin (hJ39 _ _ b52 b70 (ha.to [2, 3, 4, 6, 8, 9] rfl) hB hb25 hb52 hb70 hs16 hz52 hz70 (by omega) (by omega) (by omega) hne_hs16_b52 hne_hs16_b70)
  ·skip
   refine T.calloc ha rfl rfl zero_52M2 rfl (fun w hg => ⟨keepO0 hg hb52, keepB0 hg hB, keepO0 hg hb25, keepS0 hg hs16, trivial⟩) ?_
   intro a w75 b76 ha hg hb76 hge76 hlt76
   have hz76 := Nat.le_trans hB.size hge76
   have hne_hs16_b76 : ∀ j, Value.ownBlock u16 = some j → j ≠ b76 := fun j hj => by have := hs16.lt j hj; omega
   have hq25_76 := bl hb25 hge76
   have hq52_76 := bl hb52 hge76
   replace hB := keepB0 hg hB
   replace hb25 := keepO0 hg hb25
   replace hb52 := keepO0 hg hb52
   replace hs16 := keepS0 hg hs16
   refine T.cc ha rfl rfl (r_call ha [.func (.func 88) #[] #[.pointer (some ⟨b52, 0, none⟩)], .agg (((eaR fwd (smA (gSeed b) 0 3) 3)).map ei).toArray] rfl Tryz.call42) rfl rfl rfl (c_timesM b52 (rsl u16 0 32) (gRho b) (eaR fwd (smA (gSeed b) 0 3) 3) _ (Sl.castM (Sl.cutM (lo := 0) (hi := 32) hs16 (by omega) (by rw [sum512_len]; omega)) (cut0 _ _)) (by first | (rw [gSeed_len]; omega) | (rw [gRho_len]; omega)) (by rw [eaR_len _ fwd_len _ (by rw [smA_len _ _ _ (by omega)]) _ (by omega)]) hb52 (glob_keep hG hB) (globP_keep hP hB)) ?_
   rintro e w77 ⟨rfl, hBc⟩
   have hg := grown_call hBc
   replace hB := keepB0 hg hB
   replace hb25 := keepO0 hg hb25
   replace hb52 := keepO0 hg hb52
   replace hb76 := keepO0 hg hb76
   replace hs16 := keepS0 hg hs16
   refine ⟨fun _ => ⟨hb52, hB, hb25, hs16, trivial⟩, _, rfl, ?_⟩; intro a ha
   refine T.cc ha rfl rfl (r_call ha [(rsl u16 32 64), en 3] rfl Tryz.call37) rfl rfl rfl (c_smalls (rsl u16 32 64) (gSeed b) 3 _ (Sl.castM (Sl.cutM (lo := 32) (hi := 64) hs16 (by omega) (by rw [sum512_len]; omega)) (cutE _ _ _ (sum512_len _))) (by first | (rw [gSeed_len]; omega) | (rw [gRho_len]; omega)) (by omega) (glob_keep hG hB)) ?_
   rintro e w78 ⟨rfl, hBc⟩
   have hg := grown_call hBc
   replace hB := keepB0 hg hB
   replace hb25 := keepO0 hg hb25
   replace hb52 := keepO0 hg hb52
   replace hb76 := keepO0 hg hb76
   replace hs16 := keepS0 hg hs16
   refine ⟨fun _ => ⟨hb52, hB, hb25, hs16, trivial⟩, _, rfl, ?_⟩; intro a ha
   refine T.cc ha rfl rfl (r_call ha [.agg (((smA (gSeed b) 3 3)).map ei).toArray, .func (.func 39) #[] #[]] rfl Tryz.call38) rfl rfl rfl (c_eachFr (smA (gSeed b) 3 3) _ (by rw [smA_len _ _ _ (by omega)]) (glob_keep hG hB) (globP_keep hP hB)) ?_
   rintro e w79 ⟨rfl, hBc⟩
   have hg := grown_call hBc
   replace hB := keepB0 hg hB
   replace hb25 := keepO0 hg hb25
   replace hb52 := keepO0 hg hb52
   replace hb76 := keepO0 hg hb76
   replace hs16 := keepS0 hg hs16
   refine ⟨fun _ => ⟨hb52, hB, hb25, hs16, trivial⟩, _, rfl, ?_⟩; intro a ha
   refine T.cc ha rfl rfl (r_call ha [.agg (((tiA (mat (gRho b)) (eaR fwd (smA (gSeed b) 0 3) 3) 3)).map ei).toArray, .agg (((eaR fwd (smA (gSeed b) 3 3) 3)).map ei).toArray] rfl Tryz.call44) rfl rfl rfl (c_plusR (tiA (mat (gRho b)) (eaR fwd (smA (gSeed b) 0 3) 3) 3) (eaR fwd (smA (gSeed b) 3 3) 3) _ (by rw [tiA_len _ _ _ (by omega)]) (by rw [eaR_len _ fwd_len _ (by rw [smA_len _ _ _ (by omega)]) _ (by omega)]) (glob_keep hG hB) (globP_keep hP hB)) ?_
   rintro e w80 ⟨rfl, hBc⟩
   have hg := grown_call hBc
   replace hB := keepB0 hg hB
   replace hb25 := keepO0 hg hb25
   replace hb52 := keepO0 hg hb52
   replace hb76 := keepO0 hg hb76
   replace hs16 := keepS0 hg hs16
   refine ⟨fun _ => ⟨hb52, hB, hb25, hs16, trivial⟩, _, rfl, ?_⟩; intro a ha
   refine T.cstoreW ha rfl rfl rfl rfl (one_ei _) Tryz.sizeOf52 (by rw [List.length_map, plR_len _ _ (by rw [tiA_len _ _ _ (by omega)]) _ (by omega)]) hb76 (by rw [List.length_map, List.length_replicate]) rfl ?_
   intro a w81 ha hg hb76'
   replace hb76 := hb76'
   replace hB := keepB1 hg (by omega) hB
   replace hb25 := keepO1 hg (by omega) hb25
   replace hb52 := keepO1 hg (by omega) hb52
   replace hs16 := keepS1 hg (ne_of_ap hne_hs16_b76) hs16
   exact T.cfin (hJ39 _ _ b52 b76 (ha.to [2, 3, 4, 6, 8, 9] rfl) hB hb25 hb52 hb76 hs16 hz52 hz76 (by omega) (by omega) (by omega) hne_hs16_b52 hne_hs16_b76)
 ·skip
  refine T.calloc ha rfl rfl zero_52M2 rfl (fun w hg => ⟨keepB0 hg hB, keepO0 hg hb25, keepS0 hg hs16, trivial⟩) ?_
  intro a w82 b83 ha hg hb83 hge83 hlt83
  have hz83 := Nat.le_trans hB.size hge83
  have hne_hs16_b83 : ∀ j, Value.ownBlock u16 = some j → j ≠ b83 := fun j hj => by have := hs16.lt j hj; omega
  have hq25_83 := bl hb25 hge83
  replace hB := keepB0 hg hB
  replace hb25 := keepO0 hg hb25
  replace hs16 := keepS0 hg hs16
  refine T.ccx ha rfl rfl (r_call ha [(rsl u16 0 32)] rfl Tryz.call40) rfl rfl rfl (c_matrix (rsl u16 0 32) (gRho b) _ (Sl.castM (Sl.cutM (lo := 0) (hi := 32) hs16 (by omega) (by rw [sum512_len]; omega)) (cut0 _ _))) ?_
  rintro e w84 ⟨b85, rfl, hBc, hb85, hge85⟩
  have hg := grown_call hBc
  have hz85 := Nat.le_trans hB.size hge85
  have hne_hs16_b85 : ∀ j, Value.ownBlock u16 = some j → j ≠ b85 := fun j hj => by have := hs16.lt j hj; omega
  have hq25_85 := bl hb25 hge85
  have hq83_85 := bl hb83 hge85
  replace hB := keepB0 hg hB
  replace hb25 := keepO0 hg hb25
  replace hb83 := keepO0 hg hb83
  replace hs16 := keepS0 hg hs16
  refine ⟨fun w => (w.heap[b85]? = some (.cells ([rsl u16 0 32]).toArray 22 (0, 0))) ∧ Below w0.heap.size w0 w ∧ w.heap[b25]? = some (.cells ((eaR fwd (smA (gSeed b) 0 3) 3).map ei).toArray 52 (0, 0)) ∧ Sl w u16 ((sum512 (([b, ([(3 : UInt8)] : List UInt8)]).flatten)).map e8) ∧ True, fun w h => h.2, fun _ => ⟨hb85, hB, hb25, hs16, trivial⟩, _, rfl, ?_⟩; intro a ha
  refine T.cc ha rfl rfl (r_call ha [.func (.func 88) #[] #[.pointer (some ⟨b85, 0, none⟩)], .agg (((eaR fwd (smA (gSeed b) 0 3) 3)).map ei).toArray] rfl Tryz.call42) rfl rfl rfl (c_timesM b85 (rsl u16 0 32) (gRho b) (eaR fwd (smA (gSeed b) 0 3) 3) _ (Sl.castM (Sl.cutM (lo := 0) (hi := 32) hs16 (by omega) (by rw [sum512_len]; omega)) (cut0 _ _)) (by first | (rw [gSeed_len]; omega) | (rw [gRho_len]; omega)) (by rw [eaR_len _ fwd_len _ (by rw [smA_len _ _ _ (by omega)]) _ (by omega)]) hb85 (glob_keep hG hB) (globP_keep hP hB)) ?_
  rintro e w86 ⟨rfl, hBc⟩
  have hg := grown_call hBc
  replace hB := keepB0 hg hB
  replace hb25 := keepO0 hg hb25
  replace hb83 := keepO0 hg hb83
  replace hb85 := keepO0 hg hb85
  replace hs16 := keepS0 hg hs16
  refine ⟨fun _ => ⟨hb85, hB, hb25, hs16, trivial⟩, _, rfl, ?_⟩; intro a ha
  refine T.cc ha rfl rfl (r_call ha [(rsl u16 32 64), en 3] rfl Tryz.call37) rfl rfl rfl (c_smalls (rsl u16 32 64) (gSeed b) 3 _ (Sl.castM (Sl.cutM (lo := 32) (hi := 64) hs16 (by omega) (by rw [sum512_len]; omega)) (cutE _ _ _ (sum512_len _))) (by first | (rw [gSeed_len]; omega) | (rw [gRho_len]; omega)) (by omega) (glob_keep hG hB)) ?_
  rintro e w87 ⟨rfl, hBc⟩
  have hg := grown_call hBc
  replace hB := keepB0 hg hB
  replace hb25 := keepO0 hg hb25
  replace hb83 := keepO0 hg hb83
  replace hb85 := keepO0 hg hb85
  replace hs16 := keepS0 hg hs16
  refine ⟨fun _ => ⟨hb85, hB, hb25, hs16, trivial⟩, _, rfl, ?_⟩; intro a ha
  refine T.cc ha rfl rfl (r_call ha [.agg (((smA (gSeed b) 3 3)).map ei).toArray, .func (.func 39) #[] #[]] rfl Tryz.call38) rfl rfl rfl (c_eachFr (smA (gSeed b) 3 3) _ (by rw [smA_len _ _ _ (by omega)]) (glob_keep hG hB) (globP_keep hP hB)) ?_
  rintro e w88 ⟨rfl, hBc⟩
  have hg := grown_call hBc
  replace hB := keepB0 hg hB
  replace hb25 := keepO0 hg hb25
  replace hb83 := keepO0 hg hb83
  replace hb85 := keepO0 hg hb85
  replace hs16 := keepS0 hg hs16
  refine ⟨fun _ => ⟨hb85, hB, hb25, hs16, trivial⟩, _, rfl, ?_⟩; intro a ha
  refine T.cc ha rfl rfl (r_call ha [.agg (((tiA (mat (gRho b)) (eaR fwd (smA (gSeed b) 0 3) 3) 3)).map ei).toArray, .agg (((eaR fwd (smA (gSeed b) 3 3) 3)).map ei).toArray] rfl Tryz.call44) rfl rfl rfl (c_plusR (tiA (mat (gRho b)) (eaR fwd (smA (gSeed b) 0 3) 3) 3) (eaR fwd (smA (gSeed b) 3 3) 3) _ (by rw [tiA_len _ _ _ (by omega)]) (by rw [eaR_len _ fwd_len _ (by rw [smA_len _ _ _ (by omega)]) _ (by omega)]) (glob_keep hG hB) (globP_keep hP hB)) ?_
  rintro e w89 ⟨rfl, hBc⟩
  have hg := grown_call hBc
  replace hB := keepB0 hg hB
  replace hb25 := keepO0 hg hb25
  replace hb83 := keepO0 hg hb83
  replace hb85 := keepO0 hg hb85
  replace hs16 := keepS0 hg hs16
  refine ⟨fun _ => ⟨hb85, hB, hb25, hs16, trivial⟩, _, rfl, ?_⟩; intro a ha
  refine T.cstoreW ha rfl rfl rfl rfl (one_ei _) Tryz.sizeOf52 (by rw [List.length_map, plR_len _ _ (by rw [tiA_len _ _ _ (by omega)]) _ (by omega)]) hb83 (by rw [List.length_map, List.length_replicate]) rfl ?_
  intro a w90 ha hg hb83'
  replace hb83 := hb83'
  replace hB := keepB1 hg (by omega) hB
  replace hb25 := keepO1 hg (by omega) hb25
  replace hb85 := keepO1 hg (by omega) hb85
  replace hs16 := keepS1 hg (ne_of_ap hne_hs16_b83) hs16
  exact T.cfin (hJ39 _ _ b85 b83 (ha.to [2, 3, 4, 6, 8, 9] rfl) hB hb25 hb85 hb83 hs16 hz85 hz83 (by omega) (by omega) (by omega) hne_hs16_b85 hne_hs16_b83)

theorem zero_50M2 : ∀ w, (zeroValue 50).run Tryz.prog w = .ok (.agg ((List.replicate 256 (0 : Int)).map ei).toArray) w := fun _ => by kernel_rfl
theorem c_enc_1 (p : List Int) (w0 : World) (hp : p.length = 256) :
    Calls Tryz.prog 50 #[.agg ((p).map ei).toArray] w0 fun e w' => e = .returned (.agg ((sq10 p).map ei).toArray) ∧ Below w0.heap.size w0 w' := by
 refine enter (args := [_]) Tryz.func50 rfl Tryz.ntmps50 rfl ?_
 intro a ha
 have hB := Below.refl w0.heap.size w0
 refine qr fun K1 k2 => ?_
 refine sbox ha rfl rfl ?_
 intro a w3 b4 ha hg hb4 hge4 hlt4
 have hz4 := Nat.le_trans hB.size hge4
 replace hB := keepB0 hg hB
 refine salloc ha zero_50M2 rfl ?_
 intro a w5 b6 ha hg hb6 hge6 hlt6
 have hz6 := Nat.le_trans hB.size hge6
 have hq4_6 := bl hb4 hge6
 replace hB := keepB0 hg hB
 replace hb4 := keepO0 hg hb4
 refine k2 _ _ ?_
 refine qr fun K7 k8 => ?_
 refine s1 ha rfl (fun _ ha => r_loadR ha rfl Tryz.isAgg50 Tryz.sizeOf50 (C := (p).map ei) (by rw [List.length_map, hp]) (cells_all hb4)) ?_; intro a ha
 refine scp ha (r_call ha [ei 10, .agg ((p).map ei).toArray] rfl Tryz.call51) rfl rfl rfl (c_squeeze 10 p _ (by rw [hp])) ?_; intro w9 hg a ha
 replace hB := keepB0 hg hB
 replace hb6 := keepO0 hg hb6
 refine sstoreW ha rfl rfl (one_ei _) Tryz.sizeOf50 (by rw [List.length_map, sqA_len, hp]) hb6 (by rw [List.length_map, List.length_replicate]) ?_
 intro a w10 ha hg hb6'
 replace hb6 := hb6'
 replace hB := keepB1 hg (by omega) hB
 refine k8 _ _ ?_
 refine wp_ret ?_
 exact retC _ ha Tryz.results50 rfl hb6 Tryz.underlying50 rfl (by rw [List.length_map, sqA_len, hp]; kernel_rfl) ⟨rfl, hB⟩

theorem c_dec_1 (p : List Int) (w0 : World) (hp : p.length = 256) (hG : Glob w0) (hP : GlobP w0) :
    Calls Tryz.prog 60 #[.agg ((p).map ei).toArray] w0 fun e w' => e = .returned (.agg ((fsp p).map ei).toArray) ∧ Below w0.heap.size w0 w' := by
 refine enter (args := [_]) Tryz.func60 rfl Tryz.ntmps60 rfl ?_
 intro a ha
 have hB := Below.refl w0.heap.size w0
 refine qr fun K1 k2 => ?_
 refine sbox ha rfl rfl ?_
 intro a w3 b4 ha hg hb4 hge4 hlt4
 have hz4 := Nat.le_trans hB.size hge4
 replace hB := keepB0 hg hB
 refine salloc ha zero_50M2 rfl ?_
 intro a w5 b6 ha hg hb6 hge6 hlt6
 have hz6 := Nat.le_trans hB.size hge6
 have hq4_6 := bl hb4 hge6
 replace hB := keepB0 hg hB
 replace hb4 := keepO0 hg hb4
 refine k2 _ _ ?_
 refine qr fun K7 k8 => ?_
 refine s1 ha rfl (fun _ ha => r_loadR ha rfl Tryz.isAgg50 Tryz.sizeOf50 (C := (p).map ei) (by rw [List.length_map, hp]) (cells_all hb4)) ?_; intro a ha
 refine scp ha (r_call ha [ei 10, .agg ((p).map ei).toArray] rfl Tryz.call49) rfl rfl rfl (c_spread 10 p _ (by rw [hp])) ?_; intro w9 hg a ha
 replace hB := keepB0 hg hB
 replace hb6 := keepO0 hg hb6
 refine scp ha (r_call ha [.agg (((spA 10 p 256)).map ei).toArray] rfl Tryz.call39) rfl rfl rfl (c_fwd (spA 10 p 256) _ (by rw [spA_len, hp]) (globP_keep hP hB)) ?_; intro w10 hg a ha
 replace hB := keepB0 hg hB
 replace hb6 := keepO0 hg hb6
 refine sstoreW ha rfl rfl (one_ei _) Tryz.sizeOf50 (by rw [List.length_map, (fwd_red _ (by rw [spA_len, hp])).len]) hb6 (by rw [List.length_map, List.length_replicate]) ?_
 intro a w11 ha hg hb6'
 replace hb6 := hb6'
 replace hB := keepB1 hg (by omega) hB
 refine k8 _ _ ?_
 refine wp_ret ?_
 exact retC _ ha Tryz.results60 rfl hb6 Tryz.underlying50 rfl (by rw [List.length_map, (fwd_red _ (by rw [spA_len, hp])).len]; kernel_rfl) ⟨rfl, hB⟩

theorem c_turnedF (i j b2 : Nat) (bk : Nat) (v : Value) (rho : List UInt8) (w0 : World) (hij : i ≤ 1000 ∧ j ≤ 1000) (hs : Sl w0 v (rho.map e8)) (hk : rho.length ≤ 50000) (hb2 : w0.heap[b2]? = some (.cells (([.func (.func 88) #[] #[.pointer (some ⟨bk, 0, none⟩)]] : List Value)).toArray 58 (0, 0))) (hbk : w0.heap[bk]? = some (.cells ([v]).toArray 22 (0, 0))) (hG : Glob w0) (hP : GlobP w0) :
    Calls Tryz.prog 90 #[en i, en j, .pointer (some ⟨b2, 0, none⟩)] w0 fun e w' => e = .returned (.agg ((matT rho i j).map ei).toArray) ∧ Below w0.heap.size w0 w' := by
 refine enter (args := [_, _, _]) Tryz.func90 rfl Tryz.ntmps90 rfl ?_
 intro a ha
 have hB := Below.refl w0.heap.size w0
 refine qr fun K1 k2 => ?_
 refine salloc ha zero_50M2 rfl ?_
 intro a w3 b4 ha hg hb4 hge4 hlt4
 have hz4 := Nat.le_trans hB.size hge4
 have hq2_4 := bl hb2 hge4
 have hqk_4 := bl hbk hge4
 replace hB := keepB0 hg hB
 replace hb2 := keepO0 hg hb2
 replace hbk := keepO0 hg hbk
 refine k2 _ _ ?_
 refine qr fun K5 k6 => ?_
 refine s3 ha rfl (fun _ ha => r_load ha rfl Tryz.isAgg58 (cell_of hb2 rfl)) (mv rfl) (mv rfl) ?_; intro a ha
 refine scp ha (r_callV ha (cap := #[.pointer (some ⟨bk, 0, none⟩)]) [en j, en i] rfl rfl Tryz.call88) rfl rfl rfl (c_matrixF j i bk v rho _ (by omega) (hs.below hB) (by omega) hbk (glob_keep hG hB)) ?_; intro w7 hg a ha
 replace hB := keepB0 hg hB
 replace hb2 := keepO0 hg hb2
 replace hbk := keepO0 hg hbk
 replace hb4 := keepO0 hg hb4
 refine sstoreW ha rfl rfl (one_ei _) Tryz.sizeOf50 (by rw [List.length_map, mat_len]) hb4 (by rw [List.length_map, List.length_replicate]) ?_
 intro a w8 ha hg hb4'
 replace hb4 := hb4'
 replace hB := keepB1 hg (by omega) hB
 replace hb2 := keepO1 hg (by omega) hb2
 replace hbk := keepO1 hg (by omega) hbk
 refine k6 _ _ ?_
 refine wp_ret ?_
 exact retC _ ha Tryz.results90 rfl hb4 Tryz.underlying50 rfl (by rw [List.length_map, mat_len]; kernel_rfl) ⟨rfl, hB⟩

theorem c_dot (r s : List Int) (w0 : World) (hr : r.length = 768) (hs2 : s.length = 768) (hG : Glob w0) (hP : GlobP w0) :
    Calls Tryz.prog 47 #[.agg ((r).map ei).toArray, .agg ((s).map ei).toArray] w0 fun e w' => e = .returned (.agg ((dotA r s 3).map ei).toArray) ∧ Below w0.heap.size w0 w' := by
 refine enter (args := [_, _]) Tryz.func47 rfl Tryz.ntmps47 rfl ?_
 intro a ha
 have hB := Below.refl w0.heap.size w0
 refine qr fun K1 k2 => ?_
 refine sbox ha rfl rfl ?_
 intro a w3 b4 ha hg hb4 hge4 hlt4
 have hz4 := Nat.le_trans hB.size hge4
 replace hB := keepB0 hg hB
 refine sbox ha rfl rfl ?_
 intro a w5 b6 ha hg hb6 hge6 hlt6
 have hz6 := Nat.le_trans hB.size hge6
 have hq4_6 := bl hb4 hge6
 replace hB := keepB0 hg hB
 replace hb4 := keepO0 hg hb4
 refine salloc ha zero_50M2 rfl ?_
 intro a w7 b8 ha hg hb8 hge8 hlt8
 have hz8 := Nat.le_trans hB.size hge8
 have hq4_8 := bl hb4 hge8
 have hq6_8 := bl hb6 hge8
 replace hB := keepB0 hg hB
 replace hb4 := keepO0 hg hb4
 replace hb6 := keepO0 hg hb6
 refine k2 _ _ ?_
 refine qr fun K9 k10 => ?_
 refine salloc ha zero_50M2 rfl ?_
 intro a w11 b12 ha hg hb12 hge12 hlt12
 have hz12 := Nat.le_trans hB.size hge12
 have hq4_12 := bl hb4 hge12
 have hq6_12 := bl hb6 hge12
 have hq8_12 := bl hb8 hge12
 replace hB := keepB0 hg hB
 replace hb4 := keepO0 hg hb4
 replace hb6 := keepO0 hg hb6
 replace hb8 := keepO0 hg hb8
 refine k10 _ _ ?_
 refine wp_seq_k fun K13 k14 => ?_
 refine qr fun K15 k16 => ?_
 refine s1 ha rfl (mv rfl) ?_; intro a ha
 refine k16 _ _ ?_
 refine wp_block ?_
 refine loopG (fun (i : Nat) a w => (i ≤ 3) ∧ Has 21 [(2, .pointer (some ⟨b4, 0, none⟩)), (3, .pointer (some ⟨b6, 0, none⟩)), (4, .pointer (some ⟨b8, 0, none⟩)), (5, .pointer (some ⟨b12, 0, none⟩)), (7, en i)] a ∧ Below w0.heap.size w0 w ∧ w.heap[b4]? = some (.cells ((r).map ei).toArray 52 (0, 0)) ∧ w.heap[b6]? = some (.cells ((s).map ei).toArray 52 (0, 0)) ∧ w.heap[b8]? = some (.cells ((List.replicate 256 (0 : Int)).map ei).toArray 50 (0, 0)) ∧ w.heap[b12]? = some (.cells ((dotA r s i).map ei).toArray 50 (0, 0))) (fun i => 3 - i) 0 ⟨(by omega), ha.to [2, 3, 4, 5, 7] rfl, hB, hb4, hb6, hb8, hb12⟩ ?_
 clear ha a hB hb4 hb6 hb8 hb12
 intro i a w17 ⟨hki, ha, hB, hb4, hb6, hb8, hb12⟩
 refine qr fun K18 k19 => ?_
 refine s1 ha rfl (fun _ ha => r_lss ha ((i : Nat) : Int) 3 (decide (i < 3)) rfl rfl (decide_eq_decide.2 (by omega))) ?_; intro a ha
 refine k19 _ _ ?_
 refine wp_seq_k fun K20 k21 => ?_
 refine cond_if ha rfl (fun hc22 => ?_) (fun hc22 => ?_)
 ·skip
  replace hc22 := of_decide_eq_true hc22
  refine wp_skip ?_
  refine k21 _ _ ?_
  refine wp_seq_k fun K23 k24 => ?_
  refine wp_block ?_
  refine qr fun K25 k26 => ?_
  refine s2 ha rfl (mv rfl) (av rfl) ?_; intro a ha
  refine k26 _ _ ?_
  refine regionD (S := fun w => Below w0.heap.size w0 w ∧ w.heap[b4]? = some (.cells ((r).map ei).toArray 52 (0, 0)) ∧ w.heap[b6]? = some (.cells ((s).map ei).toArray 52 (0, 0)) ∧ w.heap[b8]? = some (.cells ((List.replicate 256 (0 : Int)).map ei).toArray 50 (0, 0)) ∧ w.heap[b12]? = some (.cells ((dotA r s i).map ei).toArray 50 (0, 0)) ∧ True) [9] [0, 1, 2, 3, 4, 5, 6] [0, 1, 2, 3, 4, 5, 6, 7, 8, 9] mixed (by kernel_rfl) (fun w hg => ⟨keepB0 hg hB, keepO0 hg hb4, keepO0 hg hb6, keepO0 hg hb8, keepO0 hg hb12, trivial⟩) ?_
  intro w27 hg
  replace hB := keepB0 hg hB
  replace hb4 := keepO0 hg hb4
  replace hb6 := keepO0 hg hb6
  replace hb8 := keepO0 hg hb8
  replace hb12 := keepO0 hg hb12
  refine c6 ha rfl (fun w ⟨_, _, _, _, hb12, _⟩ _ ha => r_loadR ha rfl Tryz.isAgg50 Tryz.sizeOf50 (C := (dotA r s i).map ei) (by rw [List.length_map, dotA_len]) (cells_all hb12)) (cmv rfl) (fun w _ _ ha => r_indexArr (i := i) ha (i * 256) Tryz.runUnderlying52 Tryz.sizeOf50 rfl rfl (by omega) (by omega)) (fun w ⟨_, hb4, _⟩ _ ha => r_loadR ha rfl Tryz.isAgg50 Tryz.sizeOf50 (C := (rg r i).map ei) (by rw [List.length_map, rg_len _ _ (by rw [hr]; omega)]) (cells_of (i * 256) hb4 (rg_map _ _ (by rw [hr]; omega)))) (cmv rfl) (fun w _ _ ha => r_indexArr (i := i) ha (i * 256) Tryz.runUnderlying52 Tryz.sizeOf50 rfl rfl (by omega) (by omega)) ?_; intro a ha
  refine c1 ha rfl (fun w ⟨_, _, hb6, _⟩ _ ha => r_loadR ha rfl Tryz.isAgg50 Tryz.sizeOf50 (C := (rg s i).map ei) (by rw [List.length_map, rg_len _ _ (by rw [hs2]; omega)]) (cells_of (i * 256) hb6 (rg_map _ _ (by rw [hs2]; omega)))) ?_; intro a ha
  refine cc ha rfl rfl (r_call ha [.agg (((rg r i)).map ei).toArray, .agg (((rg s i)).map ei).toArray] rfl Tryz.call91) rfl rfl rfl (c_times (rg r i) (rg s i) _ (by rw [rg_len _ _ (by rw [hr]; omega)]) (by rw [rg_len _ _ (by rw [hs2]; omega)]) (globP_keep hP hB)) ?_
  rintro e w28 ⟨rfl, hBc⟩
  have hg := grown_call hBc
  replace hB := keepB0 hg hB
  replace hb4 := keepO0 hg hb4
  replace hb6 := keepO0 hg hb6
  replace hb8 := keepO0 hg hb8
  replace hb12 := keepO0 hg hb12
  refine ⟨fun _ => ⟨hB, hb4, hb6, hb8, hb12, trivial⟩, _, rfl, ?_⟩; intro a ha
  refine cc ha rfl rfl (r_call ha [.agg (((dotA r s i)).map ei).toArray, .agg (((tms (rg r i) (rg s i))).map ei).toArray] rfl Tryz.call46) rfl rfl rfl (c_plus (dotA r s i) (tms (rg r i) (rg s i)) _ (by rw [dotA_len]) (by rw [(tms_red _ _).len])) ?_
  rintro e w29 ⟨rfl, hBc⟩
  have hg := grown_call hBc
  replace hB := keepB0 hg hB
  replace hb4 := keepO0 hg hb4
  replace hb6 := keepO0 hg hb6
  replace hb8 := keepO0 hg hb8
  replace hb12 := keepO0 hg hb12
  refine ⟨fun _ => ⟨hB, hb4, hb6, hb8, hb12, trivial⟩, _, rfl, ?_⟩; intro a ha
  refine cstoreW ha rfl rfl rfl rfl (one_ei _) Tryz.sizeOf50 (by rw [List.length_map, (pl_red _ _ (by rw [dotA_len])).len]) hb12 (by rw [List.length_map, dotA_len]) rfl ?_
  intro a w30 ha hg hb12'
  replace hb12 := hb12'
  replace hB := keepB1 hg (by omega) hB
  replace hb4 := keepO1 hg (by omega) hb4
  replace hb6 := keepO1 hg (by omega) hb6
  replace hb8 := keepO1 hg (by omega) hb8
  refine cfin (k24 _ _ ?_)
  refine region ?_
  refine s2 ha rfl (fun _ ha => rn_add ha i 1 rfl rfl (by omega)) (mv rfl) ?_; intro a ha
  exact ⟨i + 1, by omega, (by omega), ha.to [2, 3, 4, 5, 7] rfl, hB, hb4, hb6, hb8, hb12⟩
 ·skip
  replace hc22 := of_decide_eq_false hc22
  refine wp_exit ?_
  obtain rfl : i = 3 := by omega
  refine k14 _ _ ?_
  refine qr fun K31 k32 => ?_
  refine s1 ha rfl (fun _ ha => r_loadR ha rfl Tryz.isAgg50 Tryz.sizeOf50 (C := (dotA r s 3).map ei) (by rw [List.length_map, dotA_len]) (cells_all hb12)) ?_; intro a ha
  refine sstoreW ha rfl rfl (one_ei _) Tryz.sizeOf50 (by rw [List.length_map, dotA_len]) hb8 (by rw [List.length_map, List.length_replicate]) ?_
  intro a w33 ha hg hb8'
  replace hb8 := hb8'
  replace hB := keepB1 hg (by omega) hB
  replace hb12 := keepO1 hg (by omega) hb12
  refine k32 _ _ ?_
  refine wp_ret ?_
  exact retC _ ha Tryz.results47 rfl hb8 Tryz.underlying50 rfl (by rw [List.length_map, dotA_len]; kernel_rfl) ⟨rfl, hB⟩

theorem c_unpackR (d : Nat) (v : Value) (b : List UInt8) (w0 : World) (hd : 1 ≤ d ∧ d ≤ 12) (hs : Sl w0 v (b.map e8)) (hb : b.length = 32 * d * 3) :
    Calls Tryz.prog 36 #[en d, v] w0 fun e w' => e = .returned (.agg ((unR d b 3).map ei).toArray) ∧ Below w0.heap.size w0 w' := by
 refine enter (args := [_, _]) Tryz.func36 rfl Tryz.ntmps36 rfl ?_
 intro a ha
 have hB := Below.refl w0.heap.size w0
 refine qr fun K1 k2 => ?_
 refine salloc ha zero_52M2 rfl ?_
 intro a w3 b4 ha hg hb4 hge4 hlt4
 have hz4 := Nat.le_trans hB.size hge4
 replace hB := keepB0 hg hB
 refine k2 _ _ ?_
 refine qr fun K5 k6 => ?_
 refine salloc ha zero_52M2 rfl ?_
 intro a w7 b8 ha hg hb8 hge8 hlt8
 have hz8 := Nat.le_trans hB.size hge8
 have hq4_8 := bl hb4 hge8
 replace hB := keepB0 hg hB
 replace hb4 := keepO0 hg hb4
 refine k6 _ _ ?_
 refine wp_seq_k fun K9 k10 => ?_
 refine qr fun K11 k12 => ?_
 refine s1 ha rfl (mv rfl) ?_; intro a ha
 refine k12 _ _ ?_
 refine wp_block ?_
 refine loopG (fun (i : Nat) a w => (i ≤ 3) ∧ Has 32 [(0, en d), (1, v), (4, .pointer (some ⟨b4, 0, none⟩)), (5, .pointer (some ⟨b8, 0, none⟩)), (7, en i)] a ∧ Below w0.heap.size w0 w ∧ w.heap[b4]? = some (.cells ((List.replicate 768 (0 : Int)).map ei).toArray 52 (0, 0)) ∧ w.heap[b8]? = some (.cells ((unR d b i).map ei).toArray 52 (0, 0))) (fun i => 3 - i) 0 ⟨(by omega), ha.to [0, 1, 4, 5, 7] rfl, hB, hb4, hb8⟩ ?_
 clear ha a hB hb4 hb8
 intro i a w13 ⟨hki, ha, hB, hb4, hb8⟩
 have hdi : i < 3 → 32 * d * i + 32 * d ≤ 32 * d * 3 := fun h => by have := Nat.mul_le_mul_left (32 * d) (show i + 1 ≤ 3 from h); rw [Nat.mul_succ] at this; exact this
 have hdm := Nat.mul_le_mul (Nat.mul_le_mul (Nat.le_refl 32) hd.2) (show i ≤ 3 by omega)
 refine qr fun K14 k15 => ?_
 refine s1 ha rfl (fun _ ha => r_lss ha ((i : Nat) : Int) 3 (decide (i < 3)) rfl rfl (decide_eq_decide.2 (by omega))) ?_; intro a ha
 refine k15 _ _ ?_
 refine wp_seq_k fun K16 k17 => ?_
 refine cond_if ha rfl (fun hc18 => ?_) (fun hc18 => ?_)
 ·skip
  replace hc18 := of_decide_eq_true hc18
  refine wp_skip ?_
  refine k17 _ _ ?_
  refine wp_seq_k fun K19 k20 => ?_
  refine wp_block ?_
  refine qr fun K21 k22 => ?_
  refine s2 ha rfl (mv rfl) (av rfl) ?_; intro a ha
  refine k22 _ _ ?_
  refine region ?_
  refine s6 ha rfl (mv rfl) (mv rfl) (mv rfl) (mv rfl) (fun _ ha => rn_mul ha 32 d rfl rfl (by omega)) (mv rfl) ?_; intro a ha
  refine s6 ha rfl (fun _ ha => rn_mul ha (32 * d) i rfl rfl (by omega)) (mv rfl) (fun _ ha => rn_mul ha 32 d rfl rfl (by omega)) (mv rfl) (fun _ ha => rn_mul ha (32 * d) i rfl rfl (by omega)) (mv rfl) ?_; intro a ha
  refine s3 ha rfl (fun _ ha => rn_mul ha 32 d rfl rfl (by omega)) (fun _ ha => rn_add ha ((32 * d) * i) (32 * d) rfl rfl (by omega)) (fun _ ha => r_resl (C := (b).map e8) ha ((32 * d) * i) (((32 * d) * i) + (32 * d)) Tryz.runUnderlying22 Tryz.sizeOf5 (hs.below hB) rfl rfl rfl (by omega) (by rw [List.length_map]; exact (by omega))) ?_; intro a ha
  refine scp ha (r_call ha [en d, (rsl v ((32 * d) * i) (((32 * d) * i) + (32 * d)))] rfl Tryz.call45) rfl rfl rfl (c_unpack1 d (rsl v ((32 * d) * i) (((32 * d) * i) + (32 * d))) ((b.drop (32 * d * i)).take (32 * d)) _ (by omega) (Sl.castM (Sl.cutM (lo := (32 * d) * i) (hi := ((32 * d) * i) + (32 * d)) (hs.below hB) (by omega) (by omega)) (cutM _ _ _ _ rfl)) (by rw [List.length_take, List.length_drop]; omega)) ?_; intro w23 hg a ha
  replace hB := keepB0 hg hB
  replace hb4 := keepO0 hg hb4
  replace hb8 := keepO0 hg hb8
  refine s4 ha rfl (mv rfl) (fun _ ha => r_extract ha (vs := #[.agg ((unA d ((b.drop (32 * d * i)).take (32 * d)) 256).map ei).toArray, en 0]) rfl rfl) (fun _ ha => r_extract ha (vs := #[.agg ((unA d ((b.drop (32 * d * i)).take (32 * d)) 256).map ei).toArray, en 0]) rfl rfl) (fun _ ha => r_indexArr (i := i) ha (i * 256) Tryz.runUnderlying52 Tryz.sizeOf50 rfl rfl (by omega) (by omega)) ?_; intro a ha
  refine sstoreR ha rfl rfl (one_ei _) Tryz.sizeOf50 (by rw [List.length_map, unA_len]) hb8 (by simp only [List.length_map]; rw [unA_len, unR_len _ _ _ (by omega)]; omega) ?_
  intro a w24 ha hg hb8'
  rw [rs_map _ _ _ (by rw [unA_len])] at hb8'
  replace hb8 := hb8'
  replace hB := keepB1 hg (by omega) hB
  replace hb4 := keepO1 hg (by omega) hb4
  refine k20 _ _ ?_
  refine region ?_
  refine s2 ha rfl (fun _ ha => rn_add ha i 1 rfl rfl (by omega)) (mv rfl) ?_; intro a ha
  exact ⟨i + 1, by omega, (by omega), ha.to [0, 1, 4, 5, 7] rfl, hB, hb4, hb8⟩
 ·skip
  replace hc18 := of_decide_eq_false hc18
  refine wp_exit ?_
  obtain rfl : i = 3 := by omega
  refine k10 _ _ ?_
  refine qr fun K25 k26 => ?_
  refine s1 ha rfl (fun _ ha => r_loadR ha rfl Tryz.isAgg52 Tryz.sizeOf52 (C := (unR d b 3).map ei) (by rw [List.length_map, unR_len _ _ _ (by omega)]) (cells_all hb8)) ?_; intro a ha
  refine sstoreW ha rfl rfl (one_ei _) Tryz.sizeOf52 (by rw [List.length_map, unR_len _ _ _ (by omega)]) hb4 (by rw [List.length_map, List.length_replicate]) ?_
  intro a w27 ha hg hb4'
  replace hb4 := hb4'
  replace hB := keepB1 hg (by omega) hB
  replace hb8 := keepO1 hg (by omega) hb8
  refine k26 _ _ ?_
  refine wp_ret ?_
  exact retC _ ha Tryz.results36 rfl hb4 Tryz.underlying52 rfl (by rw [List.length_map, unR_len _ _ _ (by omega)]; kernel_rfl) ⟨rfl, hB⟩
end Go.Proofs.YtaignhikdfpbbaaGreatDoor

/- WALKS written by gen.py (own program) out of specs. -/
namespace Go.Proofs.YtaignhikdfpbbaaGreatDoor
open Go.RowKit Go.Rx
set_option maxRecDepth 100000
set_option maxHeartbeats 4000000
set_option linter.unusedVariables false
set_option linter.unusedSimpArgs false

theorem c_xor (v u : Value) (p q : List UInt8) (w0 : World) (hs : Sl w0 v (p.map e8)) (hsu : Sl w0 u (q.map e8)) (hb : p.length ≤ 140737488355328) :
    Calls Tryz.prog 107 #[v, u] w0 fun e w' => ∃ u0 : Value, e = .returned (u0) ∧ Below w0.heap.size w0 w' ∧ Sl w' u0 ((xorB p q).map e8) ∧ (∀ j, u0.ownBlock = some j → w0.heap.size ≤ j) := by
 refine enter (args := [_, _]) Tryz.func107 rfl Tryz.ntmps107 rfl ?_
 intro a ha
 have hB := Below.refl w0.heap.size w0
 refine qr fun K1 k2 => ?_
 refine s1 ha rfl (av rfl) ?_; intro a ha
 refine k2 _ _ ?_
 refine qr fun K3 k4 => ?_
 refine s5 ha rfl (mv rfl) (fun _ ha => r_lenS ha Tryz.runUnderlying22 (hs.below hB) rfl (by rw [List.length_map])) (mv rfl) (fun _ ha => r_lenS ha Tryz.runUnderlying22 (hsu.below hB) rfl (by rw [List.length_map])) (fun _ ha => rn_min ha p.length q.length rfl rfl) ?_; intro a ha
 refine smake (k := min p.length q.length) ha rfl rfl Tryz.underlying22 rfl rfl rfl rfl (show 1 * _ ≤ _ by omega) (by omega) rfl ?_
 intro a w5 b6 ha hg hb6 hge6 hlt6
 have hz6 := Nat.le_trans hB.size hge6
 replace hB := keepB0 hg hB
 rw [show (List.replicate (min p.length q.length) (Value.int .u8 0)) = (List.replicate (min p.length q.length) (0 : UInt8)).map e8 by rw [List.map_replicate]; rfl] at hb6
 refine s1 ha rfl (av rfl) ?_; intro a ha
 refine k4 _ _ ?_
 refine wp_seq_k fun K7 k8 => ?_
 refine qr fun K9 k10 => ?_
 refine s3 ha rfl (mv rfl) (fun _ ha => r_lenB ha Tryz.runUnderlying22 rfl) (mv rfl) ?_; intro a ha
 refine k10 _ _ ?_
 refine wp_block ?_
 refine loopG (fun (k : Nat) a w => (k ≤ (min p.length q.length)) ∧ Has 32 [(0, v), (1, u), (5, .slice (some ⟨b6, 0, none⟩) (min p.length q.length) (min p.length q.length)), (14, en (min p.length q.length)), (15, en k)] a ∧ Below w0.heap.size w0 w ∧ w.heap[b6]? = some (.cells ((xoA p q k).map e8).toArray 5 (0, 0))) (fun k => (min p.length q.length) - k) 0 ⟨(by omega), ha.to [0, 1, 5, 14, 15] rfl, hB, hb6⟩ ?_
 clear ha a hB hb6
 intro k a w11 ⟨hkk, ha, hB, hb6⟩
 refine qr fun K12 k13 => ?_
 refine s1 ha rfl (fun _ ha => r_lss ha ((k : Nat) : Int) ((min p.length q.length : Nat) : Int) (decide (k < min p.length q.length)) rfl rfl (decide_eq_decide.2 (by omega))) ?_; intro a ha
 refine k13 _ _ ?_
 refine wp_seq_k fun K14 k15 => ?_
 refine cond_if ha rfl (fun hc16 => ?_) (fun hc16 => ?_)
 ·skip
  replace hc16 := of_decide_eq_true hc16
  refine wp_skip ?_
  refine k15 _ _ ?_
  refine wp_seq_k fun K17 k18 => ?_
  refine wp_block ?_
  refine qr fun K19 k20 => ?_
  refine s2 ha rfl (mv rfl) (av rfl) ?_; intro a ha
  refine k20 _ _ ?_
  refine regionD (S := fun w => Below w0.heap.size w0 w ∧ w.heap[b6]? = some (.cells ((xoA p q k).map e8).toArray 5 (0, 0)) ∧ True) [12] [0, 1, 2, 3, 4, 5, 6, 7, 8, 9, 10, 11] [0, 1, 2, 3, 4, 5, 6, 7, 8, 9, 10, 11, 12] mixed (by kernel_rfl) (fun w hg => ⟨keepB0 hg hB, keepO0 hg hb6, trivial⟩) ?_
  intro w21 hg
  replace hB := keepB0 hg hB
  replace hb6 := keepO0 hg hb6
  refine c6 ha rfl (cmv rfl) (cmv rfl) (cmv rfl) (cmv rfl) (fun w ⟨hB, _⟩ _ ha => r_indexS (i := k) ha Tryz.runUnderlying22 Tryz.sizeOf5 (hs.below hB) (C := (p).map e8) rfl rfl (by rw [List.length_map]; omega)) (fun w ⟨hB, _⟩ _ ha => r_loadS ha rfl Tryz.isAgg5 (hs.below hB) (get_map e8 p 0 k (by omega))) ?_; intro a ha
  refine c6 ha rfl (cmv rfl) (cmv rfl) (fun w ⟨hB, _⟩ _ ha => r_indexS (i := k) ha Tryz.runUnderlying22 Tryz.sizeOf5 (hsu.below hB) (C := (q).map e8) rfl rfl (by rw [List.length_map]; omega)) (fun w ⟨hB, _⟩ _ ha => r_loadS ha rfl Tryz.isAgg5 (hsu.below hB) (get_map e8 q 0 k (by omega))) (fun w _ _ ha => rb_xor ha (p.getD k 0) (q.getD k 0) rfl rfl) (fun w _ _ ha => r_indexB ha k Tryz.runUnderlying22 Tryz.sizeOf5 rfl rfl (by omega)) ?_; intro a ha
  refine cstore ha rfl rfl (v := e8 ((p.getD k 0) ^^^ (q.getD k 0))) rfl rfl rfl rfl Tryz.sizeOf5 hb6 (by rw [List.length_map, xoA_len]; omega) rfl ?_
  intro a w22 ha hg hb6'
  rw [set_map] at hb6'
  replace hb6 := hb6'
  replace hB := keepB1 hg (by omega) hB
  refine cfin (k18 _ _ ?_)
  refine region ?_
  refine s2 ha rfl (fun _ ha => rn_add ha k 1 rfl rfl (by omega)) (mv rfl) ?_; intro a ha
  exact ⟨k + 1, by omega, (by omega), ha.to [0, 1, 5, 14, 15] rfl, hB, hb6⟩
 ·skip
  replace hc16 := of_decide_eq_false hc16
  refine wp_exit ?_
  obtain rfl : k = (min p.length q.length) := by omega
  refine k8 _ _ ?_
  refine qr fun K23 k24 => ?_
  refine s2 ha rfl (mv rfl) (av rfl) ?_; intro a ha
  refine k24 _ _ ?_
  refine wp_ret ?_
  exact ret1 ha Tryz.results107 rfl ⟨_, rfl, hB, (Sl.castM (l := xoA p q (min p.length q.length)) (Sl.ofBlockM hb6 (by rw [xoA_len]) (by omega)) rfl), (fun j hj => by cases hj; exact hz6)⟩

theorem c_gather (v : Value) (b : List UInt8) (w0 : World) (hs : Sl w0 v (b.map e8)) (hb : b.length ≤ 140737488355328) :
    Calls Tryz.prog 106 #[v] w0 fun e w' => e = .returned (e8 (gaA b b.length)) ∧ Below w0.heap.size w0 w' := by
 refine enter (args := [_]) Tryz.func106 rfl Tryz.ntmps106 rfl ?_
 intro a ha
 have hB := Below.refl w0.heap.size w0
 refine qr fun K1 k2 => ?_
 refine s1 ha rfl (av rfl) ?_; intro a ha
 refine k2 _ _ ?_
 refine qr fun K3 k4 => ?_
 refine s1 ha rfl (av rfl) ?_; intro a ha
 refine k4 _ _ ?_
 refine wp_seq_k fun K5 k6 => ?_
 refine qr fun K7 k8 => ?_
 refine s3 ha rfl (mv rfl) (fun _ ha => r_lenS ha Tryz.runUnderlying22 (hs.below hB) rfl (by rw [List.length_map])) (mv rfl) ?_; intro a ha
 refine k8 _ _ ?_
 refine wp_block ?_
 refine loopG (fun (k : Nat) a w => (k ≤ b.length) ∧ Has 17 [(6, v), (7, en b.length), (3, e8 (gaA b k)), (8, en k)] a ∧ Below w0.heap.size w0 w) (fun k => b.length - k) 0 ⟨(by omega), ha.to [6, 7, 3, 8] rfl, hB⟩ ?_
 clear ha a hB
 intro k a w9 ⟨hkk, ha, hB⟩
 refine qr fun K10 k11 => ?_
 refine s1 ha rfl (fun _ ha => r_lss ha ((k : Nat) : Int) ((b.length : Nat) : Int) (decide (k < b.length)) rfl rfl (decide_eq_decide.2 (by omega))) ?_; intro a ha
 refine k11 _ _ ?_
 refine wp_seq_k fun K12 k13 => ?_
 refine cond_if ha rfl (fun hc14 => ?_) (fun hc14 => ?_)
 ·skip
  replace hc14 := of_decide_eq_true hc14
  refine wp_skip ?_
  refine k13 _ _ ?_
  refine wp_seq_k fun K15 k16 => ?_
  refine wp_block ?_
  refine qr fun K17 k18 => ?_
  refine s3 ha rfl (fun _ ha => r_indexS (i := k) ha Tryz.runUnderlying22 Tryz.sizeOf5 (hs.below hB) (C := (b).map e8) rfl rfl (by rw [List.length_map]; omega)) (fun _ ha => r_loadS ha rfl Tryz.isAgg5 (hs.below hB) (get_map e8 b 0 k (by omega))) (av rfl) ?_; intro a ha
  refine k18 _ _ ?_
  refine region ?_
  refine s4 ha rfl (mv rfl) (mv rfl) (fun _ ha => rb_or ha (gaA b k) (b.getD k 0) rfl rfl) (av rfl) ?_; intro a ha
  refine k16 _ _ ?_
  refine region ?_
  refine s2 ha rfl (fun _ ha => rn_add ha k 1 rfl rfl (by omega)) (mv rfl) ?_; intro a ha
  exact ⟨k + 1, by omega, (by omega), ha.to [6, 7, 3, 8] rfl, hB⟩
 ·skip
  replace hc14 := of_decide_eq_false hc14
  refine wp_exit ?_
  obtain rfl : k = b.length := by omega
  refine k6 _ _ ?_
  refine qr fun K19 k20 => ?_
  refine s2 ha rfl (mv rfl) (av rfl) ?_; intro a ha
  refine k20 _ _ ?_
  refine wp_ret ?_
  exact ret1 ha Tryz.results106 rfl ⟨rfl, hB⟩

theorem c_equal (v u : Value) (p q : List UInt8) (w0 : World) (hs : Sl w0 v (p.map e8)) (hsu : Sl w0 u (q.map e8)) (hb : p.length ≤ 140737488355328) :
    Calls Tryz.prog 67 #[v, u] w0 fun e w' => e = .returned (.bool (decide (p = q))) ∧ Below w0.heap.size w0 w' := by
 refine enter (args := [_, _]) Tryz.func67 rfl Tryz.ntmps67 rfl ?_
 intro a ha
 have hB := Below.refl w0.heap.size w0
 refine qr fun K1 k2 => ?_
 refine s1 ha rfl (av rfl) ?_; intro a ha
 refine k2 _ _ ?_
 refine qr fun K3 k4 => ?_
 refine s6 ha rfl (mv rfl) (fun _ ha => r_lenS ha Tryz.runUnderlying22 (hs.below hB) rfl (by rw [List.length_map])) (mv rfl) (fun _ ha => r_lenS ha Tryz.runUnderlying22 (hsu.below hB) rfl (by rw [List.length_map])) (fun _ ha => r_eql ha ((p.length : Nat) : Int) ((q.length : Nat) : Int) (decide (p.length = q.length)) rfl rfl (decide_eq_decide.2 (by omega))) (mv rfl) ?_; intro a ha
 cases hq5 : (decide (p.length = q.length))
 all_goals rw [hq5] at ha
 case false =>
  replace hq5 := of_decide_eq_false hq5
  refine sno ha rfl rfl rfl rfl rfl rfl ?_; intro a ha
  refine sno ha rfl rfl rfl rfl rfl rfl ?_; intro a ha
  refine sno ha rfl rfl rfl rfl rfl rfl ?_; intro a ha
  refine sno ha rfl rfl rfl rfl rfl rfl ?_; intro a ha
  refine sno ha rfl rfl rfl rfl rfl rfl ?_; intro a ha
  refine s2 ha rfl (fun _ ha => r_pick ha false rfl rfl) (av rfl) ?_; intro a ha
  refine k4 _ _ ?_
  refine wp_ret ?_
  exact ret1 ha Tryz.results67 rfl ⟨(by first | rw [equal_eq _ _ (by assumption)] | rw [equal_ne _ _ (by assumption)]), hB⟩
 case true =>
  replace hq5 := of_decide_eq_true hq5
  refine svg ha (r_move ha rfl) rfl rfl rfl rfl rfl ?_; intro a ha
  refine svg ha (r_move ha rfl) rfl rfl rfl rfl rfl ?_; intro a ha
  refine scg ha (r_call ha [v, u] rfl Tryz.call107) rfl rfl rfl rfl rfl (c_xor v u p q _ (hs.below hB) (hsu.below hB) (by first | omega | (rw [xorB_len]; omega))) ?_
  rintro e w6 ⟨u7, rfl, hBc, hs7, hd7⟩
  have hg := grown_call hBc
  replace hd7 : ∀ j, u7.ownBlock = some j → w0.heap.size ≤ j := fun j hj => Nat.le_trans hB.size (hd7 j hj)
  replace hB := keepB0 hg hB
  refine ⟨_, rfl, ?_⟩; intro a ha
  refine scg ha (r_call ha [u7] rfl Tryz.call106) rfl rfl rfl rfl rfl (c_gather u7 (xorB p q) _ hs7 (by first | omega | (rw [xorB_len]; omega))) ?_
  rintro e w8 ⟨rfl, hBc⟩
  have hg := grown_call hBc
  replace hB := keepB0 hg hB
  replace hs7 := keepS0 hg hs7
  refine ⟨_, rfl, ?_⟩; intro a ha
  refine svg ha (r_eql ha ((gaA (xorB p q) (xorB p q).length).toNat : Int) (((0 : UInt8)).toNat : Int) (decide (gaA (xorB p q) (xorB p q).length = (0 : UInt8))) rfl rfl (eql_u8 _ _)) rfl rfl rfl rfl rfl ?_; intro a ha
  refine s2 ha rfl (fun _ ha => r_pick ha true rfl rfl) (av rfl) ?_; intro a ha
  refine k4 _ _ ?_
  refine wp_ret ?_
  exact ret1 ha Tryz.results67 rfl ⟨(by first | rw [equal_eq _ _ (by assumption)] | rw [equal_ne _ _ (by assumption)]), hB⟩
end Go.Proofs.YtaignhikdfpbbaaGreatDoor

/- WALKS written by gen.py (own program) out of specs. -/
namespace Go.Proofs.YtaignhikdfpbbaaGreatDoor
open Go.RowKit Go.Rx
set_option maxRecDepth 100000
set_option maxHeartbeats 4000000
set_option linter.unusedVariables false
set_option linter.unusedSimpArgs false

theorem c_kgen1 (v : Value) (d : List UInt8) (u : Value) (z : List UInt8) (w0 : World) (hs : Sl w0 v (d.map e8)) (hsu : Sl w0 u (z.map e8)) (h1 : d.length = 32) (h2 : z.length = 32) (hG : Glob w0) (hP : GlobP w0) :
    Calls Tryz.prog 18 #[v, u] w0 fun e w' => ∃ u0 u1 : Value, e = .returned (.tuple #[u0, u1, en 0]) ∧ Below w0.heap.size w0 w' ∧ Sl w' u0 ((ek1 d).map e8) ∧ (∀ j, u0.ownBlock = some j → w0.heap.size ≤ j) ∧ Sl w' u1 ((kdk d z).map e8) ∧ (∀ j, u1.ownBlock = some j → w0.heap.size ≤ j) := by
 refine enter (args := [_, _]) Tryz.func18 rfl Tryz.ntmps18 rfl ?_
 intro a ha
 have hB := Below.refl w0.heap.size w0
 refine qr fun K1 k2 => ?_
 refine s3 ha rfl (av rfl) (av rfl) (av rfl) ?_; intro a ha
 refine k2 _ _ ?_
 refine wp_seq_k fun K3 k4 => ?_
 refine qr fun K5 k6 => ?_
 refine s4 ha rfl (mv rfl) (fun _ ha => r_lenS ha Tryz.runUnderlying22 (hs.below hB) rfl (by rw [List.length_map])) (fun _ ha => r_neq ha ((d.length : Nat) : Int) 32 false rfl rfl (decide_eq_false (by omega))) (mv rfl) ?_; intro a ha
 refine svg ha (r_move ha rfl) rfl rfl rfl rfl rfl ?_; intro a ha
 refine svg ha (r_lenS ha Tryz.runUnderlying22 (hsu.below hB) rfl (by rw [List.length_map])) rfl rfl rfl rfl rfl ?_; intro a ha
 refine svg ha (r_neq ha ((z.length : Nat) : Int) 32 false rfl rfl (decide_eq_false (by omega))) rfl rfl rfl rfl rfl ?_; intro a ha
 refine s1 ha rfl (fun _ ha => r_pick ha false rfl rfl) ?_; intro a ha
 refine k6 _ _ ?_
 refine cond_f ha rfl ?_
 refine wp_skip ?_
 refine k4 _ _ ?_
 refine qr fun K7 k8 => ?_
 refine s1 ha rfl (mv rfl) ?_; intro a ha
 refine sc ha (r_call ha [v] rfl Tryz.call28) rfl rfl rfl (c_gen1 v d _ (hs.below hB) (by omega) (glob_keep hG hB) (globP_keep hP hB)) ?_
 rintro e w9 ⟨u10, u11, rfl, hBc, hs10, hd10, hs11, hd11⟩
 have hg := grown_call hBc
 replace hd10 : ∀ j, u10.ownBlock = some j → w0.heap.size ≤ j := fun j hj => Nat.le_trans hB.size (hd10 j hj)
 replace hd11 : ∀ j, u11.ownBlock = some j → w0.heap.size ≤ j := fun j hj => Nat.le_trans hB.size (hd11 j hj)
 replace hB := keepB0 hg hB
 refine ⟨_, rfl, ?_⟩; intro a ha
 refine s6 ha rfl (mv rfl) (fun _ ha => r_extract ha (vs := #[u10, u11, en 0]) rfl rfl) (fun _ ha => r_extract ha (vs := #[u10, u11, en 0]) rfl rfl) (fun _ ha => r_extract ha (vs := #[u10, u11, en 0]) rfl rfl) (av rfl) (av rfl) ?_; intro a ha
 refine s1 ha rfl (av rfl) ?_; intro a ha
 refine k8 _ _ ?_
 refine qr fun K12 k13 => ?_
 refine s4 ha rfl (mv rfl) (mv rfl) (mv rfl) (mv rfl) ?_; intro a ha
 refine sc ha (r_call ha [u10] rfl Tryz.call64) rfl rfl rfl (c_sum256 u10 (ek1 d) _ hs10 (glob_keep hG hB)) ?_
 rintro e w14 ⟨u15, rfl, hBc, hs15, hd15⟩
 have hg := grown_call hBc
 have hds_hs15_hs10 := nds hd15 (fun j hj => hs10.lt j hj)
 have hds_hs15_hs11 := nds hd15 (fun j hj => hs11.lt j hj)
 replace hd15 : ∀ j, u15.ownBlock = some j → w0.heap.size ≤ j := fun j hj => Nat.le_trans hB.size (hd15 j hj)
 replace hB := keepB0 hg hB
 replace hs10 := keepS0 hg hs10
 replace hs11 := keepS0 hg hs11
 refine ⟨_, rfl, ?_⟩; intro a ha
 refine s1 ha rfl (mv rfl) ?_; intro a ha
 refine sbuildS ha [(0, u11), (1, u10), (2, u15), (3, u)] [u11, u10, u15, u] rfl Tryz.runUnderlying96 Tryz.sizeOf22 Tryz.zeroValue22 rfl rfl rfl (fill4 (Sl.one hs11) (Sl.one hs10) (Sl.one hs15) (Sl.one (hsu.below hB))) rfl ?_
 intro a w16 b17 ha hg hb17 hge17 hlt17
 have hz17 := Nat.le_trans hB.size hge17
 have hne_hs10_b17 : ∀ j, Value.ownBlock u10 = some j → j ≠ b17 := fun j hj => by have := hs10.lt j hj; omega
 have hne_hs11_b17 : ∀ j, Value.ownBlock u11 = some j → j ≠ b17 := fun j hj => by have := hs11.lt j hj; omega
 have hne_hs15_b17 : ∀ j, Value.ownBlock u15 = some j → j ≠ b17 := fun j hj => by have := hs15.lt j hj; omega
 replace hB := keepB0 hg hB
 replace hs10 := keepS0 hg hs10
 replace hs11 := keepS0 hg hs11
 replace hs15 := keepS0 hg hs15
 refine sc ha (r_call ha [(.slice (some ⟨b17, 0, none⟩) 4 4)] rfl Tryz.call52) rfl rfl rfl (c_join (.slice (some ⟨b17, 0, none⟩) 4 4) ([u11, u10, u15, u]) ([dk1 d, ek1 d, sum256 (ek1 d), z]) _ (Sl.ofBlock (D := [u11, u10, u15, u]) (C := [u11, u10, u15, u]) hb17 rfl (Nat.le_refl _)) (.cons hs11 (.cons hs10 (.cons hs15 (.cons (hsu.below hB) .nil)))) (by first | omega | (rw [ek1_len]; omega) | (simp only [List.flatten_cons, List.flatten_nil, List.append_nil, List.length_append, dk1_len, ek1_len, sum256_len]; omega)) (show 4 ≤ 1000 by omega)) ?_
 rintro e w18 ⟨u19, rfl, hBc, hs19, hd19⟩
 have hg := grown_call hBc
 have hds_hs19_hs10 := nds hd19 (fun j hj => hs10.lt j hj)
 replace hd19 : ∀ j, u19.ownBlock = some j → w0.heap.size ≤ j := fun j hj => Nat.le_trans hB.size (hd19 j hj)
 replace hB := keepB0 hg hB
 replace hs10 := keepS0 hg hs10
 refine ⟨_, rfl, ?_⟩; intro a ha
 refine s3 ha rfl (av rfl) (av rfl) (av rfl) ?_; intro a ha
 refine k13 _ _ ?_
 refine wp_ret ?_
 exact ret3 ha Tryz.results18 rfl rfl rfl ⟨_, _, rfl, hB, (Sl.castM (l := ek1 d) hs10 rfl), hd10, (Sl.castM (l := ([dk1 d, ek1 d, sum256 (ek1 d), z]).flatten) hs19 rfl), hd19⟩

theorem zero_50N2 : ∀ w, (zeroValue 50).run Tryz.prog w = .ok (.agg ((List.replicate 256 (0 : Int)).map ei).toArray) w := fun _ => by kernel_rfl
theorem c_kck (v : Value) (b : List UInt8) (w0 : World) (hs : Sl w0 v (b.map e8)) :
    Calls Tryz.prog 20 #[v] w0 fun e w' => e = .returned (en (ckE b)) ∧ Below w0.heap.size w0 w' := by
 refine enter (args := [_]) Tryz.func20 rfl Tryz.ntmps20 rfl ?_
 intro a ha
 have hB := Below.refl w0.heap.size w0
 refine qr fun K1 k2 => ?_
 refine s1 ha rfl (av rfl) ?_; intro a ha
 refine k2 _ _ ?_
 refine wp_seq_k fun K3 k4 => ?_
 refine qr fun K5 k6 => ?_
 refine s3 ha rfl (mv rfl) (fun _ ha => r_lenS ha Tryz.runUnderlying22 (hs.below hB) rfl (by rw [List.length_map])) (fun _ ha => r_neq ha ((b.length : Nat) : Int) 1184 (decide (b.length ≠ 1184)) rfl rfl (decide_eq_decide.2 (by omega))) ?_; intro a ha
 refine k6 _ _ ?_
 refine cond_if ha rfl (fun hc7 => ?_) (fun hc7 => ?_)
 ·skip
  replace hc7 := of_decide_eq_true hc7
  refine qr fun K8 k9 => ?_
  refine s1 ha rfl (av rfl) ?_; intro a ha
  refine k9 _ _ ?_
  refine wp_ret (t_ret ?_)
  exact ret1 ha Tryz.results20 rfl ⟨(by first | (rw [ckE_len (by omega)]; done) | (rw [ckE_ok (by omega) hpp]; done) | (rw [ckE_no (by omega) (i := i) (by omega) (by assumption)]; done) | (rw [ckE_len (by omega)]; rfl) | (rw [ckE_ok (by omega) hpp]; rfl) | (rw [ckE_no (by omega) (i := i) (by omega) (by assumption)]; rfl)), hB⟩
 ·skip
  replace hc7 := of_decide_eq_false hc7
  refine wp_skip ?_
  refine k4 _ _ ?_
  refine wp_seq_k fun K10 k11 => ?_
  refine qr fun K12 k13 => ?_
  refine s1 ha rfl (mv rfl) ?_; intro a ha
  refine k13 _ _ ?_
  refine wp_block ?_
  refine loopG (fun (i : Nat) a w => (i ≤ 3) ∧ (ckP b i) ∧ Has 34 [(0, v), (10, en i)] a ∧ Below w0.heap.size w0 w) (fun i => 3 - i) 0 ⟨(by omega), trivial, ha.to [0, 10] rfl, hB⟩ ?_
  clear ha a hB
  intro i a w14 ⟨hki, hpp, ha, hB⟩
  refine qr fun K15 k16 => ?_
  refine s1 ha rfl (fun _ ha => r_lss ha ((i : Nat) : Int) 3 (decide (i < 3)) rfl rfl (decide_eq_decide.2 (by omega))) ?_; intro a ha
  refine k16 _ _ ?_
  refine wp_seq_k fun K17 k18 => ?_
  refine cond_if ha rfl (fun hc19 => ?_) (fun hc19 => ?_)
  ·skip
   replace hc19 := of_decide_eq_true hc19
   refine wp_skip ?_
   refine k18 _ _ ?_
   refine wp_seq_k fun K20 k21 => ?_
   refine wp_block ?_
   refine qr fun K22 k23 => ?_
   refine s2 ha rfl (mv rfl) (av rfl) ?_; intro a ha
   refine k23 _ _ ?_
   refine qr fun K24 k25 => ?_
   refine s6 ha rfl (mv rfl) (mv rfl) (fun _ ha => rn_mul ha 384 i rfl rfl (by omega)) (mv rfl) (fun _ ha => rn_mul ha 384 i rfl rfl (by omega)) (fun _ ha => rn_add ha (384 * i) 384 rfl rfl (by omega)) ?_; intro a ha
   refine s5 ha rfl (mv rfl) (fun _ ha => rn_mul ha 384 i rfl rfl (by omega)) (fun _ ha => rn_add ha (384 * i) 384 rfl rfl (by omega)) (fun _ ha => r_resl3 (C := (b).map e8) ha (384 * i) ((384 * i) + 384) ((384 * i) + 384) Tryz.runUnderlying22 Tryz.sizeOf5 (hs.below hB) rfl rfl rfl rfl (by omega) (by omega) (by rw [List.length_map]; exact (by omega))) (av rfl) ?_; intro a ha
   refine k25 _ _ ?_
   refine qr fun K26 k27 => ?_
   refine s1 ha rfl (mv rfl) ?_; intro a ha
   refine scp ha (r_call ha [en 12, (rsl3 v (384 * i) ((384 * i) + 384) ((384 * i) + 384))] rfl Tryz.call45) rfl rfl rfl (c_unpack1 12 (rsl3 v (384 * i) ((384 * i) + 384) ((384 * i) + 384)) (cut b i) _ (by omega) (Sl.castM (Sl.cut3M (lo := 384 * i) (hi := (384 * i) + 384) (mx := (384 * i) + 384) (hs.below hB) (by omega) (by omega) (by omega)) (cutM _ _ _ _ rfl)) (cut_len b i (by omega))) ?_; intro w28 hg a ha
   replace hB := keepB0 hg hB
   refine s3 ha rfl (mv rfl) (fun _ ha => r_extract ha (vs := #[.agg ((unA 12 (cut b i) 256).map ei).toArray, en 0]) rfl rfl) (fun _ ha => r_extract ha (vs := #[.agg ((unA 12 (cut b i) 256).map ei).toArray, en 0]) rfl rfl) ?_; intro a ha
   refine salloc ha zero_50N2 rfl ?_
   intro a w29 b30 ha hg hb30 hge30 hlt30
   have hz30 := Nat.le_trans hB.size hge30
   replace hB := keepB0 hg hB
   refine sstoreW ha rfl rfl (one_ei _) Tryz.sizeOf50 (by rw [List.length_map, unA_len]) hb30 (by rw [List.length_map, List.length_replicate]) ?_
   intro a w31 ha hg hb30'
   replace hb30 := hb30'
   replace hB := keepB1 hg (by omega) hB
   refine s1 ha rfl (av rfl) ?_; intro a ha
   refine k27 _ _ ?_
   refine qr fun K32 k33 => ?_
   refine s1 ha rfl (fun _ ha => r_loadR ha rfl Tryz.isAgg50 Tryz.sizeOf50 (C := (unA 12 (cut b i) 256).map ei) (by rw [List.length_map, unA_len]) (cells_all hb30)) ?_; intro a ha
   refine sc ha (r_call ha [en 12, .agg (((unA 12 (cut b i) 256)).map ei).toArray] rfl Tryz.call54) rfl rfl rfl (c_pack1 12 (unA 12 (cut b i) 256) _ (by omega) (by rw [unA_len])) ?_
   rintro e w34 ⟨u35, rfl, hBc, hs35, hd35⟩
   have hg := grown_call hBc
   replace hd35 : ∀ j, u35.ownBlock = some j → w0.heap.size ≤ j := fun j hj => Nat.le_trans hB.size (hd35 j hj)
   replace hB := keepB0 hg hB
   refine ⟨_, rfl, ?_⟩; intro a ha
   refine s1 ha rfl (mv rfl) ?_; intro a ha
   refine scp ha (r_call ha [u35, (rsl3 v (384 * i) ((384 * i) + 384) ((384 * i) + 384))] rfl Tryz.call67) rfl rfl rfl (c_equal u35 (rsl3 v (384 * i) ((384 * i) + 384) ((384 * i) + 384)) (paA 12 (unA 12 (cut b i) 256) 256) (cut b i) _ hs35 (Sl.castM (Sl.cut3M (lo := 384 * i) (hi := (384 * i) + 384) (mx := (384 * i) + 384) (hs.below hB) (by omega) (by omega) (by omega)) (cutM _ _ _ _ rfl)) (by rw [paA_len]; omega)) ?_; intro w36 hg a ha
   replace hB := keepB0 hg hB
   refine s1 ha rfl (fun _ ha => r_not ha (decide ((paA 12 (unA 12 (cut b i) 256) 256) = (cut b i))) (!(decide ((paA 12 (unA 12 (cut b i) 256) 256) = (cut b i)))) rfl rfl) ?_; intro a ha
   refine k33 _ _ ?_
   refine cond_if ha rfl (fun hc37 => ?_) (fun hc37 => ?_)
   ·skip
    replace hc37 := of_decide_eq_false ((Bool.not_eq_true' _).mp hc37)
    refine qr fun K38 k39 => ?_
    refine s1 ha rfl (av rfl) ?_; intro a ha
    refine k39 _ _ ?_
    refine wp_ret (x_ret (t_ret (t_ret (x_ret (t_ret ?_)))))
    exact ret1 ha Tryz.results20 rfl ⟨(by first | (rw [ckE_len (by omega)]; done) | (rw [ckE_ok (by omega) hpp]; done) | (rw [ckE_no (by omega) (i := i) (by omega) (by assumption)]; done) | (rw [ckE_len (by omega)]; rfl) | (rw [ckE_ok (by omega) hpp]; rfl) | (rw [ckE_no (by omega) (i := i) (by omega) (by assumption)]; rfl)), hB⟩
   ·skip
    replace hc37 := of_decide_eq_true ((Bool.not_eq_false' _).mp hc37)
    refine wp_skip ?_
    refine k21 _ _ ?_
    refine region ?_
    refine s2 ha rfl (fun _ ha => rn_add ha i 1 rfl rfl (by omega)) (mv rfl) ?_; intro a ha
    exact ⟨i + 1, by omega, (by omega), ⟨hpp, by assumption⟩, ha.to [0, 10] rfl, hB⟩
  ·skip
   replace hc19 := of_decide_eq_false hc19
   refine wp_exit ?_
   obtain rfl : i = 3 := by omega
   refine k11 _ _ ?_
   refine qr fun K40 k41 => ?_
   refine s1 ha rfl (av rfl) ?_; intro a ha
   refine k41 _ _ ?_
   refine wp_ret ?_
   exact ret1 ha Tryz.results20 rfl ⟨(by first | (rw [ckE_len (by omega)]; done) | (rw [ckE_ok (by omega) hpp]; done) | (rw [ckE_no (by omega) (i := i) (by omega) (by assumption)]; done) | (rw [ckE_len (by omega)]; rfl) | (rw [ckE_ok (by omega) hpp]; rfl) | (rw [ckE_no (by omega) (i := i) (by omega) (by assumption)]; rfl)), hB⟩

theorem c_kcp (v : Value) (b : List UInt8) (w0 : World) (hs : Sl w0 v (b.map e8)) (hG : Glob w0) :
    Calls Tryz.prog 21 #[v] w0 fun e w' => e = .returned (en (cpE b)) ∧ Below w0.heap.size w0 w' := by
 refine enter (args := [_]) Tryz.func21 rfl Tryz.ntmps21 rfl ?_
 intro a ha
 have hB := Below.refl w0.heap.size w0
 refine qr fun K1 k2 => ?_
 refine s1 ha rfl (av rfl) ?_; intro a ha
 refine k2 _ _ ?_
 refine wp_seq_k fun K3 k4 => ?_
 refine qr fun K5 k6 => ?_
 refine s3 ha rfl (mv rfl) (fun _ ha => r_lenS ha Tryz.runUnderlying22 (hs.below hB) rfl (by rw [List.length_map])) (fun _ ha => r_neq ha ((b.length : Nat) : Int) 2400 (decide (b.length ≠ 2400)) rfl rfl (decide_eq_decide.2 (by omega))) ?_; intro a ha
 refine k6 _ _ ?_
 refine cond_if ha rfl (fun hc7 => ?_) (fun hc7 => ?_)
 ·skip
  replace hc7 := of_decide_eq_true hc7
  refine qr fun K8 k9 => ?_
  refine s1 ha rfl (av rfl) ?_; intro a ha
  refine k9 _ _ ?_
  refine wp_ret (t_ret ?_)
  exact ret1 ha Tryz.results21 rfl ⟨(by first | (rw [cpE_len (by omega)]; done) | (rw [cpE_ok (by omega) (by assumption)]; done) | (rw [cpE_no (by omega) (by assumption)]; done) | (rw [cpE_len (by omega)]; rfl) | (rw [cpE_ok (by omega) (by assumption)]; rfl) | (rw [cpE_no (by omega) (by assumption)]; rfl)), hB⟩
 ·skip
  replace hc7 := of_decide_eq_false hc7
  refine wp_skip ?_
  refine k4 _ _ ?_
  refine wp_seq_k fun K10 k11 => ?_
  refine qr fun K12 k13 => ?_
  refine s1 ha rfl (mv rfl) ?_; intro a ha
  refine scp ha (r_call ha [v] rfl Tryz.call68) rfl rfl rfl (c_priv v b _ (hs.below hB) (by omega)) ?_; intro w14 hg a ha
  replace hB := keepB0 hg hB
  refine s6 ha rfl (mv rfl) (fun _ ha => r_extract ha (vs := #[rsl3 v 0 1152 1152, rsl3 v 1152 2336 2336, rsl3 v 2336 2368 2368, rsl v 2368 b.length]) rfl rfl) (fun _ ha => r_extract ha (vs := #[rsl3 v 0 1152 1152, rsl3 v 1152 2336 2336, rsl3 v 2336 2368 2368, rsl v 2368 b.length]) rfl rfl) (fun _ ha => r_extract ha (vs := #[rsl3 v 0 1152 1152, rsl3 v 1152 2336 2336, rsl3 v 2336 2368 2368, rsl v 2368 b.length]) rfl rfl) (fun _ ha => r_extract ha (vs := #[rsl3 v 0 1152 1152, rsl3 v 1152 2336 2336, rsl3 v 2336 2368 2368, rsl v 2368 b.length]) rfl rfl) (av rfl) ?_; intro a ha
  refine s3 ha rfl (av rfl) (av rfl) (av rfl) ?_; intro a ha
  refine k13 _ _ ?_
  refine qr fun K15 k16 => ?_
  refine s1 ha rfl (mv rfl) ?_; intro a ha
  refine sc ha (r_call ha [(rsl3 v 1152 2336 2336)] rfl Tryz.call64) rfl rfl rfl (c_sum256 (rsl3 v 1152 2336 2336) (ekS b) _ (Sl.castM (Sl.cut3M (lo := 1152) (hi := 2336) (mx := 2336) (hs.below hB) (by omega) (by omega) (by omega)) rfl) (glob_keep hG hB)) ?_
  rintro e w17 ⟨u18, rfl, hBc, hs18, hd18⟩
  have hg := grown_call hBc
  replace hd18 : ∀ j, u18.ownBlock = some j → w0.heap.size ≤ j := fun j hj => Nat.le_trans hB.size (hd18 j hj)
  replace hB := keepB0 hg hB
  refine ⟨_, rfl, ?_⟩; intro a ha
  refine s1 ha rfl (mv rfl) ?_; intro a ha
  refine scp ha (r_call ha [u18, (rsl3 v 2336 2368 2368)] rfl Tryz.call67) rfl rfl rfl (c_equal u18 (rsl3 v 2336 2368 2368) (sum256 (ekS b)) (hS b) _ hs18 (Sl.castM (Sl.cut3M (lo := 2336) (hi := 2368) (mx := 2368) (hs.below hB) (by omega) (by omega) (by omega)) rfl) (by first | (rw [ekS_len (by omega)]; omega) | (rw [sum256_len]; omega))) ?_; intro w19 hg a ha
  replace hB := keepB0 hg hB
  refine s1 ha rfl (fun _ ha => r_not ha (decide ((sum256 (ekS b)) = (hS b))) (!(decide ((sum256 (ekS b)) = (hS b)))) rfl rfl) ?_; intro a ha
  refine k16 _ _ ?_
  refine cond_if ha rfl (fun hc20 => ?_) (fun hc20 => ?_)
  ·skip
   replace hc20 := of_decide_eq_false ((Bool.not_eq_true' _).mp hc20)
   refine qr fun K21 k22 => ?_
   refine s1 ha rfl (av rfl) ?_; intro a ha
   refine k22 _ _ ?_
   refine wp_ret (t_ret ?_)
   exact ret1 ha Tryz.results21 rfl ⟨(by first | (rw [cpE_len (by omega)]; done) | (rw [cpE_ok (by omega) (by assumption)]; done) | (rw [cpE_no (by omega) (by assumption)]; done) | (rw [cpE_len (by omega)]; rfl) | (rw [cpE_ok (by omega) (by assumption)]; rfl) | (rw [cpE_no (by omega) (by assumption)]; rfl)), hB⟩
  ·skip
   replace hc20 := of_decide_eq_true ((Bool.not_eq_false' _).mp hc20)
   refine wp_skip ?_
   refine k11 _ _ ?_
   refine qr fun K23 k24 => ?_
   refine s1 ha rfl (av rfl) ?_; intro a ha
   refine k24 _ _ ?_
   refine wp_ret ?_
   exact ret1 ha Tryz.results21 rfl ⟨(by first | (rw [cpE_len (by omega)]; done) | (rw [cpE_ok (by omega) (by assumption)]; done) | (rw [cpE_no (by omega) (by assumption)]; done) | (rw [cpE_len (by omega)]; rfl) | (rw [cpE_ok (by omega) (by assumption)]; rfl) | (rw [cpE_no (by omega) (by assumption)]; rfl)), hB⟩
end Go.Proofs.YtaignhikdfpbbaaGreatDoor

/- WALKS written by gen.py (own program) out of specs. -/
namespace Go.Proofs.YtaignhikdfpbbaaGreatDoor
open Go.RowKit Go.Rx
set_option maxRecDepth 100000
set_option maxHeartbeats 4000000
set_option linter.unusedVariables false
set_option linter.unusedSimpArgs false

theorem zero_52M3 : ∀ w, (zeroValue 52).run Tryz.prog w = .ok (.agg ((List.replicate 768 (0 : Int)).map ei).toArray) w := fun _ => by kernel_rfl
theorem c_eachEr (r : List Int) (w0 : World) (hr : r.length = 768) :
    Calls Tryz.prog 38 #[.agg ((r).map ei).toArray, .func (.func 50) #[] #[]] w0 fun e w' => e = .returned (.agg ((eaR sq10 r 3).map ei).toArray) ∧ Below w0.heap.size w0 w' := by
 refine enter (args := [_, _]) Tryz.func38 rfl Tryz.ntmps38 rfl ?_
 intro a ha
 have hB := Below.refl w0.heap.size w0
 refine qr fun K1 k2 => ?_
 refine sbox ha rfl rfl ?_
 intro a w3 b4 ha hg hb4 hge4 hlt4
 have hz4 := Nat.le_trans hB.size hge4
 replace hB := keepB0 hg hB
 refine salloc ha zero_52M3 rfl ?_
 intro a w5 b6 ha hg hb6 hge6 hlt6
 have hz6 := Nat.le_trans hB.size hge6
 have hq4_6 := bl hb4 hge6
 replace hB := keepB0 hg hB
 replace hb4 := keepO0 hg hb4
 refine k2 _ _ ?_
 refine wp_seq_k fun K7 k8 => ?_
 refine qr fun K9 k10 => ?_
 refine s1 ha rfl (mv rfl) ?_; intro a ha
 refine k10 _ _ ?_
 refine wp_block ?_
 refine loopG (fun (i : Nat) a w => (i ≤ 3) ∧ Has 18 [(1, .func (.func 50) #[] #[]), (2, .pointer (some ⟨b4, 0, none⟩)), (4, .pointer (some ⟨b6, 0, none⟩)), (6, en i)] a ∧ Below w0.heap.size w0 w ∧ w.heap[b4]? = some (.cells ((eaR sq10 r i).map ei).toArray 52 (0, 0)) ∧ w.heap[b6]? = some (.cells ((List.replicate 768 (0 : Int)).map ei).toArray 52 (0, 0))) (fun i => 3 - i) 0 ⟨(by omega), ha.to [1, 2, 4, 6] rfl, hB, hb4, hb6⟩ ?_
 clear ha a hB hb4 hb6
 intro i a w11 ⟨hki, ha, hB, hb4, hb6⟩
 refine qr fun K12 k13 => ?_
 refine s1 ha rfl (fun _ ha => r_lss ha ((i : Nat) : Int) 3 (decide (i < 3)) rfl rfl (decide_eq_decide.2 (by omega))) ?_; intro a ha
 refine k13 _ _ ?_
 refine wp_seq_k fun K14 k15 => ?_
 refine cond_if ha rfl (fun hc16 => ?_) (fun hc16 => ?_)
 ·skip
  replace hc16 := of_decide_eq_true hc16
  refine wp_skip ?_
  refine k15 _ _ ?_
  refine wp_seq_k fun K17 k18 => ?_
  refine wp_block ?_
  refine qr fun K19 k20 => ?_
  refine s2 ha rfl (mv rfl) (av rfl) ?_; intro a ha
  refine k20 _ _ ?_
  refine region ?_
  refine s5 ha rfl (mv rfl) (mv rfl) (mv rfl) (fun _ ha => r_indexArr (i := i) ha (i * 256) Tryz.runUnderlying52 Tryz.sizeOf50 rfl rfl (by omega) (by omega)) (fun _ ha => r_loadR ha rfl Tryz.isAgg50 Tryz.sizeOf50 (C := (rg (eaR sq10 r i) i).map ei) (by rw [List.length_map, rg_len _ _ (by rw [eaR_len _ sq10_len _ (by rw [hr]) _ (by omega)]; omega)]) (cells_of (i * 256) hb4 (rg_map _ _ (by rw [eaR_len _ sq10_len _ (by rw [hr]) _ (by omega)]; omega)))) ?_; intro a ha
  refine scp ha (r_callV ha (cap := #[]) [.agg (((rg (eaR sq10 r i) i)).map ei).toArray] rfl rfl Tryz.call50) rfl rfl rfl (c_enc_1 (rg (eaR sq10 r i) i) _ (by rw [rg_len _ _ (by rw [eaR_len _ sq10_len _ (by rw [hr]) _ (by omega)]; omega)])) ?_; intro w21 hg a ha
  replace hB := keepB0 hg hB
  replace hb4 := keepO0 hg hb4
  replace hb6 := keepO0 hg hb6
  refine s1 ha rfl (fun _ ha => r_indexArr (i := i) ha (i * 256) Tryz.runUnderlying52 Tryz.sizeOf50 rfl rfl (by omega) (by omega)) ?_; intro a ha
  refine sstoreR ha rfl rfl (one_ei _) Tryz.sizeOf50 (by rw [List.length_map, sq10_len _ (by rw [rg_len _ _ (by rw [eaR_len _ sq10_len _ (by rw [hr]) _ (by omega)]; omega)])]) hb4 (by simp only [List.length_map]; rw [sq10_len _ (by rw [rg_len _ _ (by rw [eaR_len _ sq10_len _ (by rw [hr]) _ (by omega)]; omega)]), eaR_len _ sq10_len _ (by rw [hr]) _ (by omega)]; omega) ?_
  intro a w22 ha hg hb4'
  rw [rs_map _ _ _ (by rw [sq10_len _ (by rw [rg_len _ _ (by rw [eaR_len _ sq10_len _ (by rw [hr]) _ (by omega)]; omega)])])] at hb4'
  replace hb4 := hb4'
  replace hB := keepB1 hg (by omega) hB
  replace hb6 := keepO1 hg (by omega) hb6
  refine k18 _ _ ?_
  refine region ?_
  refine s2 ha rfl (fun _ ha => rn_add ha i 1 rfl rfl (by omega)) (mv rfl) ?_; intro a ha
  exact ⟨i + 1, by omega, (by omega), ha.to [1, 2, 4, 6] rfl, hB, hb4, hb6⟩
 ·skip
  replace hc16 := of_decide_eq_false hc16
  refine wp_exit ?_
  obtain rfl : i = 3 := by omega
  refine k8 _ _ ?_
  refine qr fun K23 k24 => ?_
  refine s1 ha rfl (fun _ ha => r_loadR ha rfl Tryz.isAgg52 Tryz.sizeOf52 (C := (eaR sq10 r 3).map ei) (by rw [List.length_map, eaR_len _ sq10_len _ (by rw [hr]) _ (by omega)]) (cells_all hb4)) ?_; intro a ha
  refine sstoreW ha rfl rfl (one_ei _) Tryz.sizeOf52 (by rw [List.length_map, eaR_len _ sq10_len _ (by rw [hr]) _ (by omega)]) hb6 (by rw [List.length_map, List.length_replicate]) ?_
  intro a w25 ha hg hb6'
  replace hb6 := hb6'
  replace hB := keepB1 hg (by omega) hB
  replace hb4 := keepO1 hg (by omega) hb4
  refine k24 _ _ ?_
  refine wp_ret ?_
  exact retC _ ha Tryz.results38 rfl hb6 Tryz.underlying52 rfl (by rw [List.length_map, eaR_len _ sq10_len _ (by rw [hr]) _ (by omega)]; kernel_rfl) ⟨rfl, hB⟩

theorem c_eachDr (r : List Int) (w0 : World) (hr : r.length = 768) (hG : Glob w0) (hP : GlobP w0) :
    Calls Tryz.prog 38 #[.agg ((r).map ei).toArray, .func (.func 60) #[] #[]] w0 fun e w' => e = .returned (.agg ((eaR fsp r 3).map ei).toArray) ∧ Below w0.heap.size w0 w' := by
 refine enter (args := [_, _]) Tryz.func38 rfl Tryz.ntmps38 rfl ?_
 intro a ha
 have hB := Below.refl w0.heap.size w0
 refine qr fun K1 k2 => ?_
 refine sbox ha rfl rfl ?_
 intro a w3 b4 ha hg hb4 hge4 hlt4
 have hz4 := Nat.le_trans hB.size hge4
 replace hB := keepB0 hg hB
 refine salloc ha zero_52M3 rfl ?_
 intro a w5 b6 ha hg hb6 hge6 hlt6
 have hz6 := Nat.le_trans hB.size hge6
 have hq4_6 := bl hb4 hge6
 replace hB := keepB0 hg hB
 replace hb4 := keepO0 hg hb4
 refine k2 _ _ ?_
 refine wp_seq_k fun K7 k8 => ?_
 refine qr fun K9 k10 => ?_
 refine s1 ha rfl (mv rfl) ?_; intro a ha
 refine k10 _ _ ?_
 refine wp_block ?_
 refine loopG (fun (i : Nat) a w => (i ≤ 3) ∧ Has 18 [(1, .func (.func 60) #[] #[]), (2, .pointer (some ⟨b4, 0, none⟩)), (4, .pointer (some ⟨b6, 0, none⟩)), (6, en i)] a ∧ Below w0.heap.size w0 w ∧ w.heap[b4]? = some (.cells ((eaR fsp r i).map ei).toArray 52 (0, 0)) ∧ w.heap[b6]? = some (.cells ((List.replicate 768 (0 : Int)).map ei).toArray 52 (0, 0))) (fun i => 3 - i) 0 ⟨(by omega), ha.to [1, 2, 4, 6] rfl, hB, hb4, hb6⟩ ?_
 clear ha a hB hb4 hb6
 intro i a w11 ⟨hki, ha, hB, hb4, hb6⟩
 refine qr fun K12 k13 => ?_
 refine s1 ha rfl (fun _ ha => r_lss ha ((i : Nat) : Int) 3 (decide (i < 3)) rfl rfl (decide_eq_decide.2 (by omega))) ?_; intro a ha
 refine k13 _ _ ?_
 refine wp_seq_k fun K14 k15 => ?_
 refine cond_if ha rfl (fun hc16 => ?_) (fun hc16 => ?_)
 ·skip
  replace hc16 := of_decide_eq_true hc16
  refine wp_skip ?_
  refine k15 _ _ ?_
  refine wp_seq_k fun K17 k18 => ?_
  refine wp_block ?_
  refine qr fun K19 k20 => ?_
  refine s2 ha rfl (mv rfl) (av rfl) ?_; intro a ha
  refine k20 _ _ ?_
  refine region ?_
  refine s5 ha rfl (mv rfl) (mv rfl) (mv rfl) (fun _ ha => r_indexArr (i := i) ha (i * 256) Tryz.runUnderlying52 Tryz.sizeOf50 rfl rfl (by omega) (by omega)) (fun _ ha => r_loadR ha rfl Tryz.isAgg50 Tryz.sizeOf50 (C := (rg (eaR fsp r i) i).map ei) (by rw [List.length_map, rg_len _ _ (by rw [eaR_len _ fsp_len _ (by rw [hr]) _ (by omega)]; omega)]) (cells_of (i * 256) hb4 (rg_map _ _ (by rw [eaR_len _ fsp_len _ (by rw [hr]) _ (by omega)]; omega)))) ?_; intro a ha
  refine scp ha (r_callV ha (cap := #[]) [.agg (((rg (eaR fsp r i) i)).map ei).toArray] rfl rfl Tryz.call60) rfl rfl rfl (c_dec_1 (rg (eaR fsp r i) i) _ (by rw [rg_len _ _ (by rw [eaR_len _ fsp_len _ (by rw [hr]) _ (by omega)]; omega)]) (glob_keep hG hB) (globP_keep hP hB)) ?_; intro w21 hg a ha
  replace hB := keepB0 hg hB
  replace hb4 := keepO0 hg hb4
  replace hb6 := keepO0 hg hb6
  refine s1 ha rfl (fun _ ha => r_indexArr (i := i) ha (i * 256) Tryz.runUnderlying52 Tryz.sizeOf50 rfl rfl (by omega) (by omega)) ?_; intro a ha
  refine sstoreR ha rfl rfl (one_ei _) Tryz.sizeOf50 (by rw [List.length_map, fsp_len _ (by rw [rg_len _ _ (by rw [eaR_len _ fsp_len _ (by rw [hr]) _ (by omega)]; omega)])]) hb4 (by simp only [List.length_map]; rw [fsp_len _ (by rw [rg_len _ _ (by rw [eaR_len _ fsp_len _ (by rw [hr]) _ (by omega)]; omega)]), eaR_len _ fsp_len _ (by rw [hr]) _ (by omega)]; omega) ?_
  intro a w22 ha hg hb4'
  rw [rs_map _ _ _ (by rw [fsp_len _ (by rw [rg_len _ _ (by rw [eaR_len _ fsp_len _ (by rw [hr]) _ (by omega)]; omega)])])] at hb4'
  replace hb4 := hb4'
  replace hB := keepB1 hg (by omega) hB
  replace hb6 := keepO1 hg (by omega) hb6
  refine k18 _ _ ?_
  refine region ?_
  refine s2 ha rfl (fun _ ha => rn_add ha i 1 rfl rfl (by omega)) (mv rfl) ?_; intro a ha
  exact ⟨i + 1, by omega, (by omega), ha.to [1, 2, 4, 6] rfl, hB, hb4, hb6⟩
 ·skip
  replace hc16 := of_decide_eq_false hc16
  refine wp_exit ?_
  obtain rfl : i = 3 := by omega
  refine k8 _ _ ?_
  refine qr fun K23 k24 => ?_
  refine s1 ha rfl (fun _ ha => r_loadR ha rfl Tryz.isAgg52 Tryz.sizeOf52 (C := (eaR fsp r 3).map ei) (by rw [List.length_map, eaR_len _ fsp_len _ (by rw [hr]) _ (by omega)]) (cells_all hb4)) ?_; intro a ha
  refine sstoreW ha rfl rfl (one_ei _) Tryz.sizeOf52 (by rw [List.length_map, eaR_len _ fsp_len _ (by rw [hr]) _ (by omega)]) hb6 (by rw [List.length_map, List.length_replicate]) ?_
  intro a w25 ha hg hb6'
  replace hb6 := hb6'
  replace hB := keepB1 hg (by omega) hB
  replace hb4 := keepO1 hg (by omega) hb4
  refine k24 _ _ ?_
  refine wp_ret ?_
  exact retC _ ha Tryz.results38 rfl hb6 Tryz.underlying52 rfl (by rw [List.length_map, eaR_len _ fsp_len _ (by rw [hr]) _ (by omega)]; kernel_rfl) ⟨rfl, hB⟩

theorem c_timesT (b2 : Nat) (bk : Nat) (v : Value) (rho : List UInt8) (r : List Int) (w0 : World) (hs : Sl w0 v (rho.map e8)) (hk : rho.length ≤ 50000) (hr : r.length = 768) (hb2 : w0.heap[b2]? = some (.cells (([.func (.func 88) #[] #[.pointer (some ⟨bk, 0, none⟩)]] : List Value)).toArray 58 (0, 0))) (hbk : w0.heap[bk]? = some (.cells ([v]).toArray 22 (0, 0))) (hG : Glob w0) (hP : GlobP w0) :
    Calls Tryz.prog 42 #[.func (.func 90) #[] #[.pointer (some ⟨b2, 0, none⟩)], .agg ((r).map ei).toArray] w0 fun e w' => e = .returned (.agg ((tiA (matT rho) r 3).map ei).toArray) ∧ Below w0.heap.size w0 w' := by
 refine enter (args := [_, _]) Tryz.func42 rfl Tryz.ntmps42 rfl ?_
 intro a ha
 have hB := Below.refl w0.heap.size w0
 refine qr fun K1 k2 => ?_
 refine sbox ha rfl rfl ?_
 intro a w3 b4 ha hg hb4 hge4 hlt4
 have hz4 := Nat.le_trans hB.size hge4
 have hq2_4 := bl hb2 hge4
 have hqk_4 := bl hbk hge4
 replace hB := keepB0 hg hB
 replace hb2 := keepO0 hg hb2
 replace hbk := keepO0 hg hbk
 refine salloc ha zero_52M3 rfl ?_
 intro a w5 b6 ha hg hb6 hge6 hlt6
 have hz6 := Nat.le_trans hB.size hge6
 have hq2_6 := bl hb2 hge6
 have hqk_6 := bl hbk hge6
 have hq4_6 := bl hb4 hge6
 replace hB := keepB0 hg hB
 replace hb2 := keepO0 hg hb2
 replace hbk := keepO0 hg hbk
 replace hb4 := keepO0 hg hb4
 refine k2 _ _ ?_
 refine qr fun K7 k8 => ?_
 refine salloc ha zero_52M3 rfl ?_
 intro a w9 b10 ha hg hb10 hge10 hlt10
 have hz10 := Nat.le_trans hB.size hge10
 have hq2_10 := bl hb2 hge10
 have hqk_10 := bl hbk hge10
 have hq4_10 := bl hb4 hge10
 have hq6_10 := bl hb6 hge10
 replace hB := keepB0 hg hB
 replace hb2 := keepO0 hg hb2
 replace hbk := keepO0 hg hbk
 replace hb4 := keepO0 hg hb4
 replace hb6 := keepO0 hg hb6
 refine k8 _ _ ?_
 refine wp_seq_k fun K11 k12 => ?_
 refine qr fun K13 k14 => ?_
 refine s1 ha rfl (mv rfl) ?_; intro a ha
 refine k14 _ _ ?_
 refine wp_block ?_
 refine loopG (fun (i : Nat) a w => (i ≤ 3) ∧ Has 31 [(0, .func (.func 90) #[] #[.pointer (some ⟨b2, 0, none⟩)]), (3, .pointer (some ⟨b4, 0, none⟩)), (4, .pointer (some ⟨b6, 0, none⟩)), (5, .pointer (some ⟨b10, 0, none⟩)), (8, en i)] a ∧ Below w0.heap.size w0 w ∧ w.heap[b2]? = some (.cells (([.func (.func 88) #[] #[.pointer (some ⟨bk, 0, none⟩)]] : List Value)).toArray 58 (0, 0)) ∧ w.heap[bk]? = some (.cells ([v]).toArray 22 (0, 0)) ∧ w.heap[b4]? = some (.cells ((r).map ei).toArray 52 (0, 0)) ∧ w.heap[b6]? = some (.cells ((List.replicate 768 (0 : Int)).map ei).toArray 52 (0, 0)) ∧ w.heap[b10]? = some (.cells ((tiA (matT rho) r i).map ei).toArray 52 (0, 0))) (fun i => 3 - i) 0 ⟨(by omega), ha.to [0, 3, 4, 5, 8] rfl, hB, hb2, hbk, hb4, hb6, hb10⟩ ?_
 clear ha a hB hb2 hbk hb4 hb6 hb10
 intro i a w15 ⟨hki, ha, hB, hb2, hbk, hb4, hb6, hb10⟩
 refine qr fun K16 k17 => ?_
 refine s1 ha rfl (fun _ ha => r_lss ha ((i : Nat) : Int) 3 (decide (i < 3)) rfl rfl (decide_eq_decide.2 (by omega))) ?_; intro a ha
 refine k17 _ _ ?_
 refine wp_seq_k fun K18 k19 => ?_
 refine cond_if ha rfl (fun hc20 => ?_) (fun hc20 => ?_)
 ·skip
  replace hc20 := of_decide_eq_true hc20
  refine wp_skip ?_
  refine k19 _ _ ?_
  refine wp_seq_k fun K21 k22 => ?_
  refine wp_block ?_
  refine qr fun K23 k24 => ?_
  refine s2 ha rfl (mv rfl) (av rfl) ?_; intro a ha
  refine k24 _ _ ?_
  refine qr fun K25 k26 => ?_
  refine s1 ha rfl (mv rfl) ?_; intro a ha
  refine k26 _ _ ?_
  refine wp_block ?_
  have hti := tiA_len (matT rho) r i (by omega)
  refine loopG (fun (j : Nat) a w => (j ≤ 3) ∧ Has 31 [(0, .func (.func 90) #[] #[.pointer (some ⟨b2, 0, none⟩)]), (3, .pointer (some ⟨b4, 0, none⟩)), (4, .pointer (some ⟨b6, 0, none⟩)), (5, .pointer (some ⟨b10, 0, none⟩)), (8, en i), (6, en i), (11, en j)] a ∧ Below w0.heap.size w0 w ∧ w.heap[b2]? = some (.cells (([.func (.func 88) #[] #[.pointer (some ⟨bk, 0, none⟩)]] : List Value)).toArray 58 (0, 0)) ∧ w.heap[bk]? = some (.cells ([v]).toArray 22 (0, 0)) ∧ w.heap[b4]? = some (.cells ((r).map ei).toArray 52 (0, 0)) ∧ w.heap[b6]? = some (.cells ((List.replicate 768 (0 : Int)).map ei).toArray 52 (0, 0)) ∧ w.heap[b10]? = some (.cells ((tiB (matT rho) r (tiA (matT rho) r i) i j).map ei).toArray 52 (0, 0))) (fun j => 3 - j) 0 ⟨(by omega), ha.to [0, 3, 4, 5, 8, 6, 11] rfl, hB, hb2, hbk, hb4, hb6, hb10⟩ ?_
  clear ha a hB hb2 hbk hb4 hb6 hb10
  intro j a w27 ⟨hkj, ha, hB, hb2, hbk, hb4, hb6, hb10⟩
  refine qr fun K28 k29 => ?_
  refine s1 ha rfl (fun _ ha => r_lss ha ((j : Nat) : Int) 3 (decide (j < 3)) rfl rfl (decide_eq_decide.2 (by omega))) ?_; intro a ha
  refine k29 _ _ ?_
  refine wp_seq_k fun K30 k31 => ?_
  refine cond_if ha rfl (fun hc32 => ?_) (fun hc32 => ?_)
  ·skip
   replace hc32 := of_decide_eq_true hc32
   refine wp_skip ?_
   refine k31 _ _ ?_
   refine wp_seq_k fun K33 k34 => ?_
   refine wp_block ?_
   refine qr fun K35 k36 => ?_
   refine s2 ha rfl (mv rfl) (av rfl) ?_; intro a ha
   refine k36 _ _ ?_
   refine regionD (S := fun w => Below w0.heap.size w0 w ∧ w.heap[b2]? = some (.cells (([.func (.func 88) #[] #[.pointer (some ⟨bk, 0, none⟩)]] : List Value)).toArray 58 (0, 0)) ∧ w.heap[bk]? = some (.cells ([v]).toArray 22 (0, 0)) ∧ w.heap[b4]? = some (.cells ((r).map ei).toArray 52 (0, 0)) ∧ w.heap[b6]? = some (.cells ((List.replicate 768 (0 : Int)).map ei).toArray 52 (0, 0)) ∧ w.heap[b10]? = some (.cells ((tiB (matT rho) r (tiA (matT rho) r i) i j).map ei).toArray 52 (0, 0)) ∧ True) [14] [0, 1, 2, 3, 4, 5, 6, 8, 9, 10, 13] [0, 1, 2, 3, 4, 5, 6, 8, 9, 10, 7, 11, 12, 13, 14] mixed (by kernel_rfl) (fun w hg => ⟨keepB0 hg hB, keepO0 hg hb2, keepO0 hg hbk, keepO0 hg hb4, keepO0 hg hb6, keepO0 hg hb10, trivial⟩) ?_
   intro w37 hg
   replace hB := keepB0 hg hB
   replace hb2 := keepO0 hg hb2
   replace hbk := keepO0 hg hbk
   replace hb4 := keepO0 hg hb4
   replace hb6 := keepO0 hg hb6
   replace hb10 := keepO0 hg hb10
   refine c6 ha rfl (cmv rfl) (cmv rfl) (fun w _ _ ha => r_indexArr (i := i) ha (i * 256) Tryz.runUnderlying52 Tryz.sizeOf50 rfl rfl (by omega) (by omega)) (fun w ⟨_, _, _, _, _, hb10, _⟩ _ ha => r_loadR ha rfl Tryz.isAgg50 Tryz.sizeOf50 (C := (rg (tiB (matT rho) r (tiA (matT rho) r i) i j) i).map ei) (by rw [List.length_map, rg_len _ _ (by rw [tiB_len _ _ _ hti _ (by omega)]; omega)]) (cells_of (i * 256) hb10 (rg_map _ _ (by rw [tiB_len _ _ _ hti _ (by omega)]; omega)))) (cmv rfl) (cmv rfl) ?_; intro a ha
   refine c4 ha rfl (cmv rfl) (cmv rfl) (fun w _ _ ha => r_indexArr (i := j) ha (j * 256) Tryz.runUnderlying52 Tryz.sizeOf50 rfl rfl (by omega) (by omega)) (fun w ⟨_, _, _, hb4, _⟩ _ ha => r_loadR ha rfl Tryz.isAgg50 Tryz.sizeOf50 (C := (rg r j).map ei) (by rw [List.length_map, rg_len _ _ (by rw [hr]; omega)]) (cells_of (j * 256) hb4 (rg_map _ _ (by rw [hr]; omega)))) ?_; intro a ha
   refine cc ha rfl rfl (r_callV ha (cap := #[.pointer (some ⟨b2, 0, none⟩)]) [en i, en j] rfl rfl Tryz.call90) rfl rfl rfl (c_turnedF i j b2 bk v rho _ (by omega) (hs.below hB) (by omega) hb2 hbk (glob_keep hG hB) (globP_keep hP hB)) ?_
   rintro e w38 ⟨rfl, hBc⟩
   have hg := grown_call hBc
   replace hB := keepB0 hg hB
   replace hb2 := keepO0 hg hb2
   replace hbk := keepO0 hg hbk
   replace hb4 := keepO0 hg hb4
   replace hb6 := keepO0 hg hb6
   replace hb10 := keepO0 hg hb10
   refine ⟨fun _ => ⟨hB, hb2, hbk, hb4, hb6, hb10, trivial⟩, _, rfl, ?_⟩; intro a ha
   refine cc ha rfl rfl (r_call ha [.agg (((matT rho i j)).map ei).toArray, .agg (((rg r j)).map ei).toArray] rfl Tryz.call91) rfl rfl rfl (c_times (matT rho i j) (rg r j) _ (by rw [matT_len]) (by rw [rg_len _ _ (by rw [hr]; omega)]) (globP_keep hP hB)) ?_
   rintro e w39 ⟨rfl, hBc⟩
   have hg := grown_call hBc
   replace hB := keepB0 hg hB
   replace hb2 := keepO0 hg hb2
   replace hbk := keepO0 hg hbk
   replace hb4 := keepO0 hg hb4
   replace hb6 := keepO0 hg hb6
   replace hb10 := keepO0 hg hb10
   refine ⟨fun _ => ⟨hB, hb2, hbk, hb4, hb6, hb10, trivial⟩, _, rfl, ?_⟩; intro a ha
   refine cc ha rfl rfl (r_call ha [.agg (((rg (tiB (matT rho) r (tiA (matT rho) r i) i j) i)).map ei).toArray, .agg (((tms (matT rho i j) (rg r j))).map ei).toArray] rfl Tryz.call46) rfl rfl rfl (c_plus (rg (tiB (matT rho) r (tiA (matT rho) r i) i j) i) (tms (matT rho i j) (rg r j)) _ (by rw [rg_len _ _ (by rw [tiB_len _ _ _ hti _ (by omega)]; omega)]) (by rw [(tms_red _ _).len])) ?_
   rintro e w40 ⟨rfl, hBc⟩
   have hg := grown_call hBc
   replace hB := keepB0 hg hB
   replace hb2 := keepO0 hg hb2
   replace hbk := keepO0 hg hbk
   replace hb4 := keepO0 hg hb4
   replace hb6 := keepO0 hg hb6
   replace hb10 := keepO0 hg hb10
   refine ⟨fun _ => ⟨hB, hb2, hbk, hb4, hb6, hb10, trivial⟩, _, rfl, ?_⟩; intro a ha
   refine c1 ha rfl (fun w _ _ ha => r_indexArr (i := i) ha (i * 256) Tryz.runUnderlying52 Tryz.sizeOf50 rfl rfl (by omega) (by omega)) ?_; intro a ha
   refine cstoreR ha rfl rfl rfl rfl (one_ei _) Tryz.sizeOf50 (by rw [List.length_map, (pl_red _ _ (by rw [rg_len _ _ (by rw [tiB_len _ _ _ hti _ (by omega)]; omega)])).len]) hb10 (by simp only [List.length_map]; rw [(pl_red _ _ (by rw [rg_len _ _ (by rw [tiB_len _ _ _ hti _ (by omega)]; omega)])).len, tiB_len _ _ _ hti _ (by omega)]; omega) rfl ?_
   intro a w41 ha hg hb10'
   rw [rs_map _ _ _ (by rw [(pl_red _ _ (by rw [rg_len _ _ (by rw [tiB_len _ _ _ hti _ (by omega)]; omega)])).len])] at hb10'
   replace hb10 := hb10'
   replace hB := keepB1 hg (by omega) hB
   replace hb2 := keepO1 hg (by omega) hb2
   replace hbk := keepO1 hg (by omega) hbk
   replace hb4 := keepO1 hg (by omega) hb4
   replace hb6 := keepO1 hg (by omega) hb6
   refine cfin (k34 _ _ ?_)
   refine region ?_
   refine s2 ha rfl (fun _ ha => rn_add ha j 1 rfl rfl (by omega)) (mv rfl) ?_; intro a ha
   exact ⟨j + 1, by omega, (by omega), ha.to [0, 3, 4, 5, 8, 6, 11] rfl, hB, hb2, hbk, hb4, hb6, hb10⟩
  ·skip
   replace hc32 := of_decide_eq_false hc32
   refine wp_exit ?_
   obtain rfl : j = 3 := by omega
   refine k22 _ _ ?_
   refine region ?_
   refine s2 ha rfl (fun _ ha => rn_add ha i 1 rfl rfl (by omega)) (mv rfl) ?_; intro a ha
   exact ⟨i + 1, by omega, (by omega), ha.to [0, 3, 4, 5, 8] rfl, hB, hb2, hbk, hb4, hb6, hb10⟩
 ·skip
  replace hc20 := of_decide_eq_false hc20
  refine wp_exit ?_
  obtain rfl : i = 3 := by omega
  refine k12 _ _ ?_
  refine qr fun K42 k43 => ?_
  refine s1 ha rfl (fun _ ha => r_loadR ha rfl Tryz.isAgg52 Tryz.sizeOf52 (C := (tiA (matT rho) r 3).map ei) (by rw [List.length_map, tiA_len _ _ _ (by omega)]) (cells_all hb10)) ?_; intro a ha
  refine sstoreW ha rfl rfl (one_ei _) Tryz.sizeOf52 (by rw [List.length_map, tiA_len _ _ _ (by omega)]) hb6 (by rw [List.length_map, List.length_replicate]) ?_
  intro a w44 ha hg hb6'
  replace hb6 := hb6'
  replace hB := keepB1 hg (by omega) hB
  replace hb2 := keepO1 hg (by omega) hb2
  replace hbk := keepO1 hg (by omega) hbk
  replace hb10 := keepO1 hg (by omega) hb10
  refine k43 _ _ ?_
  refine wp_ret ?_
  exact retC _ ha Tryz.results42 rfl hb6 Tryz.underlying52 rfl (by rw [List.length_map, tiA_len _ _ _ (by omega)]; kernel_rfl) ⟨rfl, hB⟩
end Go.Proofs.YtaignhikdfpbbaaGreatDoor

/- WALKS written by gen.py (own program) out of specs. -/
namespace Go.Proofs.YtaignhikdfpbbaaGreatDoor
open Go.RowKit Go.Rx
set_option maxRecDepth 100000
set_option maxHeartbeats 4000000
set_option linter.unusedVariables false
set_option linter.unusedSimpArgs false

theorem zero_52M4 : ∀ w, (zeroValue 52).run Tryz.prog w = .ok (.agg ((List.replicate 768 (0 : Int)).map ei).toArray) w := fun _ => by kernel_rfl
theorem zero_50M4 : ∀ w, (zeroValue 50).run Tryz.prog w = .ok (.agg ((List.replicate 256 (0 : Int)).map ei).toArray) w := fun _ => by kernel_rfl
theorem c_enc1 (v u z : Value) (ek m r : List UInt8) (w0 : World) (hs : Sl w0 v (ek.map e8)) (hsu : Sl w0 u (m.map e8)) (hsz : Sl w0 z (r.map e8)) (h1 : ek.length = 1184) (h2 : m.length = 32) (h3 : r.length = 32) (hG : Glob w0) (hP : GlobP w0) :
    Calls Tryz.prog 13 #[v, u, z] w0 fun e w' => ∃ u0 : Value, e = .returned (.tuple #[u0, en 0]) ∧ Below w0.heap.size w0 w' ∧ Sl w' u0 ((enc1 ek m r).map e8) ∧ (∀ j, u0.ownBlock = some j → w0.heap.size ≤ j) := by
 refine enter (args := [_, _, _]) Tryz.func13 rfl Tryz.ntmps13 rfl ?_
 intro a ha
 have hB := Below.refl w0.heap.size w0
 refine qr fun K1 k2 => ?_
 refine s2 ha rfl (av rfl) (av rfl) ?_; intro a ha
 refine k2 _ _ ?_
 refine wp_seq_k fun K3 k4 => ?_
 refine qr fun K5 k6 => ?_
 refine s4 ha rfl (mv rfl) (fun _ ha => r_lenS ha Tryz.runUnderlying22 (hs.below hB) rfl (by rw [List.length_map])) (fun _ ha => r_neq ha ((ek.length : Nat) : Int) 1184 false rfl rfl (decide_eq_false (by omega))) (mv rfl) ?_; intro a ha
 refine svg ha (r_move ha rfl) rfl rfl rfl rfl rfl ?_; intro a ha
 refine svg ha (r_lenS ha Tryz.runUnderlying22 (hsu.below hB) rfl (by rw [List.length_map])) rfl rfl rfl rfl rfl ?_; intro a ha
 refine svg ha (r_neq ha ((m.length : Nat) : Int) 32 false rfl rfl (decide_eq_false (by omega))) rfl rfl rfl rfl rfl ?_; intro a ha
 refine s2 ha rfl (fun _ ha => r_pick ha false rfl rfl) (mv rfl) ?_; intro a ha
 refine svg ha (r_move ha rfl) rfl rfl rfl rfl rfl ?_; intro a ha
 refine svg ha (r_lenS ha Tryz.runUnderlying22 (hsz.below hB) rfl (by rw [List.length_map])) rfl rfl rfl rfl rfl ?_; intro a ha
 refine svg ha (r_neq ha ((r.length : Nat) : Int) 32 false rfl rfl (decide_eq_false (by omega))) rfl rfl rfl rfl rfl ?_; intro a ha
 refine s1 ha rfl (fun _ ha => r_pick ha false rfl rfl) ?_; intro a ha
 refine k6 _ _ ?_
 refine cond_f ha rfl ?_
 refine wp_skip ?_
 refine k4 _ _ ?_
 refine wp_seq_k fun K7 k8 => ?_
 have hJ14 : ∀ (a : Act) (w14 : World) (b12 : Nat), Has 70 [(1, u), (2, z), (6, .slice none 0 0), (7, .int .i64 0), (8, .pointer (some ⟨b12, 0, none⟩)), (9, rsl v 1152 ek.length)] a → (Below w0.heap.size w0 w14) → (w14.heap[b12]? = some (.cells ((unR 12 (ek.take 1152) 3).map ei).toArray 52 (0, 0))) → (w0.heap.size ≤ b12) → K7 a w14 := by
  intro a w14 b12 ha hB hb12 hzb12
  refine k8 _ _ ?_
  refine qr fun K15 k16 => ?_
  refine s1 ha rfl (mv rfl) ?_; intro a ha
  refine scp ha (r_call ha [z, en 0] rfl Tryz.call37) rfl rfl rfl (c_smalls z r 0 _ (hsz.below hB) (by omega) (by omega) (glob_keep hG hB)) ?_; intro w17 hg a ha
  replace hB := keepB0 hg hB
  replace hb12 := keepO0 hg hb12
  refine scp ha (r_call ha [.agg (((smA r 0 3)).map ei).toArray, .func (.func 39) #[] #[]] rfl Tryz.call38) rfl rfl rfl (c_eachFr (smA r 0 3) _ (by rw [smA_len _ _ _ (by omega)]) (glob_keep hG hB) (globP_keep hP hB)) ?_; intro w18 hg a ha
  replace hB := keepB0 hg hB
  replace hb12 := keepO0 hg hb12
  refine salloc ha zero_52M4 rfl ?_
  intro a w19 b20 ha hg hb20 hge20 hlt20
  have hz20 := Nat.le_trans hB.size hge20
  have hq12_20 := bl hb12 hge20
  replace hB := keepB0 hg hB
  replace hb12 := keepO0 hg hb12
  refine sstoreW ha rfl rfl (one_ei _) Tryz.sizeOf52 (by rw [List.length_map, eaR_len _ fwd_len _ (by rw [smA_len _ _ _ (by omega)]) _ (by omega)]) hb20 (by rw [List.length_map, List.length_replicate]) ?_
  intro a w21 ha hg hb20'
  replace hb20 := hb20'
  replace hB := keepB1 hg (by omega) hB
  replace hb12 := keepO1 hg (by omega) hb12
  refine k16 _ _ ?_
  refine wp_seq_k fun K22 k23 => ?_
  have hJ36 : ∀ (a : Act) (w36 : World) (b26 : Nat) (b28 : Nat) (b34 : Nat), Has 70 [(1, u), (2, z), (6, .slice none 0 0), (7, .int .i64 0), (8, .pointer (some ⟨b12, 0, none⟩)), (10, .pointer (some ⟨b20, 0, none⟩)), (11, .pointer (some ⟨b34, 0, none⟩))] a → (Below w0.heap.size w0 w36) → (w36.heap[b12]? = some (.cells ((unR 12 (ek.take 1152) 3).map ei).toArray 52 (0, 0))) → (w36.heap[b20]? = some (.cells ((eaR fwd (smA r 0 3) 3).map ei).toArray 52 (0, 0))) → (w36.heap[b26]? = some (.cells ([rsl v 1152 ek.length]).toArray 22 (0, 0))) → (w36.heap[b28]? = some (.cells (([.func (.func 88) #[] #[.pointer (some ⟨b26, 0, none⟩)]] : List Value)).toArray 58 (0, 0))) → (w36.heap[b34]? = some (.cells ((plR (eaR inv (tiA (matT (ek.drop 1152)) (eaR fwd (smA r 0 3) 3) 3) 3) (smA r 3 3) 3).map ei).toArray 52 (0, 0))) → (w0.heap.size ≤ b26) → (w0.heap.size ≤ b28) → (w0.heap.size ≤ b34) → (b26 ≠ b12) → (b26 ≠ b20) → (b28 ≠ b12) → (b28 ≠ b20) → (b28 ≠ b26) → (b34 ≠ b12) → (b34 ≠ b20) → (b34 ≠ b26) → (b34 ≠ b28) → K22 a w36 := by
   intro a w36 b26 b28 b34 ha hB hb12 hb20 hb26 hb28 hb34 hzb26 hzb28 hzb34 hqb26_b12 hqb26_b20 hqb28_b12 hqb28_b20 hqb28_b26 hqb34_b12 hqb34_b20 hqb34_b26 hqb34_b28
   refine k23 _ _ ?_
   refine qr fun K37 k38 => ?_
   refine s1 ha rfl (mv rfl) ?_; intro a ha
   refine scp ha (r_call ha [en 1, u] rfl Tryz.call45) rfl rfl rfl (c_unpack1 1 u m _ (by omega) (hsu.below hB) (by omega)) ?_; intro w39 hg a ha
   replace hB := keepB0 hg hB
   replace hb12 := keepO0 hg hb12
   replace hb20 := keepO0 hg hb20
   replace hb34 := keepO0 hg hb34
   refine s3 ha rfl (mv rfl) (fun _ ha => r_extract ha (vs := #[.agg ((unA 1 m 256).map ei).toArray, en 0]) rfl rfl) (fun _ ha => r_extract ha (vs := #[.agg ((unA 1 m 256).map ei).toArray, en 0]) rfl rfl) ?_; intro a ha
   refine salloc ha zero_50M4 rfl ?_
   intro a w40 b41 ha hg hb41 hge41 hlt41
   have hz41 := Nat.le_trans hB.size hge41
   have hq12_41 := bl hb12 hge41
   have hq20_41 := bl hb20 hge41
   have hq34_41 := bl hb34 hge41
   replace hB := keepB0 hg hB
   replace hb12 := keepO0 hg hb12
   replace hb20 := keepO0 hg hb20
   replace hb34 := keepO0 hg hb34
   refine sstoreW ha rfl rfl (one_ei _) Tryz.sizeOf50 (by rw [List.length_map, unA_len]) hb41 (by rw [List.length_map, List.length_replicate]) ?_
   intro a w42 ha hg hb41'
   replace hb41 := hb41'
   replace hB := keepB1 hg (by omega) hB
   replace hb12 := keepO1 hg (by omega) hb12
   replace hb20 := keepO1 hg (by omega) hb20
   replace hb34 := keepO1 hg (by omega) hb34
   refine s1 ha rfl (av rfl) ?_; intro a ha
   refine k38 _ _ ?_
   refine wp_seq_k fun K43 k44 => ?_
   have hJ55 : ∀ (a : Act) (w55 : World) (b53 : Nat), Has 70 [(6, .slice none 0 0), (7, .int .i64 0), (11, .pointer (some ⟨b34, 0, none⟩)), (14, .pointer (some ⟨b53, 0, none⟩))] a → (Below w0.heap.size w0 w55) → (w55.heap[b12]? = some (.cells ((unR 12 (ek.take 1152) 3).map ei).toArray 52 (0, 0))) → (w55.heap[b20]? = some (.cells ((eaR fwd (smA r 0 3) 3).map ei).toArray 52 (0, 0))) → (w55.heap[b34]? = some (.cells ((plR (eaR inv (tiA (matT (ek.drop 1152)) (eaR fwd (smA r 0 3) 3) 3) 3) (smA r 3 3) 3).map ei).toArray 52 (0, 0))) → (w55.heap[b41]? = some (.cells ((unA 1 m 256).map ei).toArray 50 (0, 0))) → (w55.heap[b53]? = some (.cells ((pl (pl (inv (dotA (unR 12 (ek.take 1152) 3) (eaR fwd (smA r 0 3) 3) 3)) (small2 r 6)) (spA 1 (unA 1 m 256) 256)).map ei).toArray 50 (0, 0))) → (w0.heap.size ≤ b53) → (b53 ≠ b12) → (b53 ≠ b20) → (b53 ≠ b34) → (b53 ≠ b41) → K43 a w55 := by
    intro a w55 b53 ha hB hb12 hb20 hb34 hb41 hb53 hzb53 hqb53_b12 hqb53_b20 hqb53_b34 hqb53_b41
    refine k44 _ _ ?_
    refine qr fun K56 k57 => ?_
    refine s1 ha rfl (av rfl) ?_; intro a ha
    refine k57 _ _ ?_
    refine wp_seq_k fun K58 k59 => ?_
    refine regionD (S := fun w => Below w0.heap.size w0 w ∧ w.heap[b34]? = some (.cells ((plR (eaR inv (tiA (matT (ek.drop 1152)) (eaR fwd (smA r 0 3) 3) 3) 3) (smA r 3 3) 3).map ei).toArray 52 (0, 0)) ∧ w.heap[b53]? = some (.cells ((pl (pl (inv (dotA (unR 12 (ek.take 1152) 3) (eaR fwd (smA r 0 3) 3) 3)) (small2 r 6)) (spA 1 (unA 1 m 256) 256)).map ei).toArray 50 (0, 0)) ∧ True) [] [0, 1, 4, 9, 10] [0, 1, 4, 2, 3, 5, 6, 7, 8, 9, 10] mixed (by kernel_rfl) (fun w hg => ⟨keepB0 hg hB, keepO0 hg hb34, keepO0 hg hb53, trivial⟩) ?_
    intro w60 hg
    replace hB := keepB0 hg hB
    replace hb34 := keepO0 hg hb34
    replace hb53 := keepO0 hg hb53
    refine c3 ha rfl (fun w ⟨_, hb34, _⟩ _ ha => r_loadR ha rfl Tryz.isAgg52 Tryz.sizeOf52 (C := (plR (eaR inv (tiA (matT (ek.drop 1152)) (eaR fwd (smA r 0 3) 3) 3) 3) (smA r 3 3) 3).map ei) (by rw [List.length_map, plR_len _ _ (by rw [eaR_len _ inv_len _ (by rw [tiA_len _ _ _ (by omega)]) _ (by omega)]) _ (by omega)]) (cells_all hb34)) (cmv rfl) (fun w ⟨_, _, hb53, _⟩ _ ha => r_loadR ha rfl Tryz.isAgg50 Tryz.sizeOf50 (C := (pl (pl (inv (dotA (unR 12 (ek.take 1152) 3) (eaR fwd (smA r 0 3) 3) 3)) (small2 r 6)) (spA 1 (unA 1 m 256) 256)).map ei) (by rw [List.length_map, (pl_red _ _ (by rw [(pl_red _ _ (by rw [(inv_red _ (by rw [dotA_len])).len])).len])).len]) (cells_all hb53)) ?_; intro a ha
    refine cc ha rfl rfl (r_call ha [.agg (((plR (eaR inv (tiA (matT (ek.drop 1152)) (eaR fwd (smA r 0 3) 3) 3) 3) (smA r 3 3) 3)).map ei).toArray, .func (.func 50) #[] #[]] rfl Tryz.call38) rfl rfl rfl (c_eachEr (plR (eaR inv (tiA (matT (ek.drop 1152)) (eaR fwd (smA r 0 3) 3) 3) 3) (smA r 3 3) 3) _ (by rw [plR_len _ _ (by rw [eaR_len _ inv_len _ (by rw [tiA_len _ _ _ (by omega)]) _ (by omega)]) _ (by omega)])) ?_
    rintro e w61 ⟨rfl, hBc⟩
    have hg := grown_call hBc
    replace hB := keepB0 hg hB
    replace hb34 := keepO0 hg hb34
    replace hb53 := keepO0 hg hb53
    refine ⟨fun _ => ⟨hB, hb34, hb53, trivial⟩, _, rfl, ?_⟩; intro a ha
    refine ccx ha rfl rfl (r_call ha [.agg (((eaR sq10 (plR (eaR inv (tiA (matT (ek.drop 1152)) (eaR fwd (smA r 0 3) 3) 3) 3) (smA r 3 3) 3) 3)).map ei).toArray, en 10] rfl Tryz.call53) rfl rfl rfl (c_packR (eaR sq10 (plR (eaR inv (tiA (matT (ek.drop 1152)) (eaR fwd (smA r 0 3) 3) 3) 3) (smA r 3 3) 3) 3) 10 _ (by rw [eaR_len _ sq10_len _ (by rw [plR_len _ _ (by rw [eaR_len _ inv_len _ (by rw [tiA_len _ _ _ (by omega)]) _ (by omega)]) _ (by omega)]) _ (by omega)]) (by omega)) ?_
    rintro e w62 ⟨u63, rfl, hBc, hs63, hd63⟩
    have hg := grown_call hBc
    have hnb_hs63_b34 := nbn hd63 hb34
    have hnb_hs63_b53 := nbn hd63 hb53
    replace hd63 : ∀ j, u63.ownBlock = some j → w0.heap.size ≤ j := fun j hj => Nat.le_trans hB.size (hd63 j hj)
    replace hB := keepB0 hg hB
    replace hb34 := keepO0 hg hb34
    replace hb53 := keepO0 hg hb53
    refine ⟨fun w => (Sl w u63 ((pkR 10 (eaR sq10 (plR (eaR inv (tiA (matT (ek.drop 1152)) (eaR fwd (smA r 0 3) 3) 3) 3) (smA r 3 3) 3) 3) 3).map e8)) ∧ Below w0.heap.size w0 w ∧ w.heap[b34]? = some (.cells ((plR (eaR inv (tiA (matT (ek.drop 1152)) (eaR fwd (smA r 0 3) 3) 3) 3) (smA r 3 3) 3).map ei).toArray 52 (0, 0)) ∧ w.heap[b53]? = some (.cells ((pl (pl (inv (dotA (unR 12 (ek.take 1152) 3) (eaR fwd (smA r 0 3) 3) 3)) (small2 r 6)) (spA 1 (unA 1 m 256) 256)).map ei).toArray 50 (0, 0)) ∧ True, fun w h => h.2, fun _ => ⟨hs63, hB, hb34, hb53, trivial⟩, _, rfl, ?_⟩; intro a ha
    refine cc ha rfl rfl (r_call ha [ei 4, .agg (((pl (pl (inv (dotA (unR 12 (ek.take 1152) 3) (eaR fwd (smA r 0 3) 3) 3)) (small2 r 6)) (spA 1 (unA 1 m 256) 256))).map ei).toArray] rfl Tryz.call51) rfl rfl rfl (c_squeeze 4 (pl (pl (inv (dotA (unR 12 (ek.take 1152) 3) (eaR fwd (smA r 0 3) 3) 3)) (small2 r 6)) (spA 1 (unA 1 m 256) 256)) _ (by rw [(pl_red _ _ (by rw [(pl_red _ _ (by rw [(inv_red _ (by rw [dotA_len])).len])).len])).len])) ?_
    rintro e w64 ⟨rfl, hBc⟩
    have hg := grown_call hBc
    replace hB := keepB0 hg hB
    replace hb34 := keepO0 hg hb34
    replace hb53 := keepO0 hg hb53
    replace hs63 := keepS0 hg hs63
    refine ⟨fun _ => ⟨hs63, hB, hb34, hb53, trivial⟩, _, rfl, ?_⟩; intro a ha
    refine ccx ha rfl rfl (r_call ha [en 4, .agg (((sqA 4 (pl (pl (inv (dotA (unR 12 (ek.take 1152) 3) (eaR fwd (smA r 0 3) 3) 3)) (small2 r 6)) (spA 1 (unA 1 m 256) 256)) 256)).map ei).toArray] rfl Tryz.call54) rfl rfl rfl (c_pack1 4 (sqA 4 (pl (pl (inv (dotA (unR 12 (ek.take 1152) 3) (eaR fwd (smA r 0 3) 3) 3)) (small2 r 6)) (spA 1 (unA 1 m 256) 256)) 256) _ (by omega) (by rw [sqA_len, (pl_red _ _ (by rw [(pl_red _ _ (by rw [(inv_red _ (by rw [dotA_len])).len])).len])).len])) ?_
    rintro e w65 ⟨u66, rfl, hBc, hs66, hd66⟩
    have hg := grown_call hBc
    have hnb_hs66_b34 := nbn hd66 hb34
    have hnb_hs66_b53 := nbn hd66 hb53
    have hds_hs66_hs63 := nds hd66 (fun j hj => hs63.lt j hj)
    replace hd66 : ∀ j, u66.ownBlock = some j → w0.heap.size ≤ j := fun j hj => Nat.le_trans hB.size (hd66 j hj)
    replace hB := keepB0 hg hB
    replace hb34 := keepO0 hg hb34
    replace hb53 := keepO0 hg hb53
    replace hs63 := keepS0 hg hs63
    refine ⟨fun w => (Sl w u66 ((paA 4 (sqA 4 (pl (pl (inv (dotA (unR 12 (ek.take 1152) 3) (eaR fwd (smA r 0 3) 3) 3)) (small2 r 6)) (spA 1 (unA 1 m 256) 256)) 256) 256).map e8)) ∧ (Sl w u63 ((pkR 10 (eaR sq10 (plR (eaR inv (tiA (matT (ek.drop 1152)) (eaR fwd (smA r 0 3) 3) 3) 3) (smA r 3 3) 3) 3) 3).map e8)) ∧ Below w0.heap.size w0 w ∧ w.heap[b34]? = some (.cells ((plR (eaR inv (tiA (matT (ek.drop 1152)) (eaR fwd (smA r 0 3) 3) 3) 3) (smA r 3 3) 3).map ei).toArray 52 (0, 0)) ∧ w.heap[b53]? = some (.cells ((pl (pl (inv (dotA (unR 12 (ek.take 1152) 3) (eaR fwd (smA r 0 3) 3) 3)) (small2 r 6)) (spA 1 (unA 1 m 256) 256)).map ei).toArray 50 (0, 0)) ∧ True, fun w h => h.2, fun _ => ⟨hs66, hs63, hB, hb34, hb53, trivial⟩, _, rfl, ?_⟩; intro a ha
    obtain ⟨b67, w68, hr67, hg, hb67, hge67, hlt67⟩ := r_buildS (w := w65) (dst := some 68) (ty := 96) (pos := "kpke.go:120") (af := #[⟨3, .data⟩, ⟨6, .data⟩]) (g := none) (t := 96) (k := 2) (parts := [(0, .tmp 64), (1, .tmp 67)]) ha [(0, u63), (1, u66)] [u63, u66] rfl Tryz.runUnderlying96 Tryz.sizeOf22 Tryz.zeroValue22 rfl rfl rfl (fill2 (Sl.one hs63) (Sl.one hs66))
    have hz67 := Nat.le_trans hB.size hge67
    have hne_hs63_b67 : ∀ j, Value.ownBlock u63 = some j → j ≠ b67 := fun j hj => by have := hs63.lt j hj; omega
    have hne_hs66_b67 : ∀ j, Value.ownBlock u66 = some j → j ≠ b67 := fun j hj => by have := hs66.lt j hj; omega
    have hq34_67 := bl hb34 hge67
    have hq53_67 := bl hb53 hge67
    replace hB := keepB0 hg hB
    replace hb34 := keepO0 hg hb34
    replace hb53 := keepO0 hg hb53
    replace hs63 := keepS0 hg hs63
    replace hs66 := keepS0 hg hs66
    refine cwx ha rfl rfl hr67 rfl rfl rfl ⟨fun w => (w.heap[b67]? = some (.cells ([u63, u66]).toArray 22 (0, 0))) ∧ (Sl w u66 ((paA 4 (sqA 4 (pl (pl (inv (dotA (unR 12 (ek.take 1152) 3) (eaR fwd (smA r 0 3) 3) 3)) (small2 r 6)) (spA 1 (unA 1 m 256) 256)) 256) 256).map e8)) ∧ (Sl w u63 ((pkR 10 (eaR sq10 (plR (eaR inv (tiA (matT (ek.drop 1152)) (eaR fwd (smA r 0 3) 3) 3) 3) (smA r 3 3) 3) 3) 3).map e8)) ∧ Below w0.heap.size w0 w ∧ w.heap[b34]? = some (.cells ((plR (eaR inv (tiA (matT (ek.drop 1152)) (eaR fwd (smA r 0 3) 3) 3) 3) (smA r 3 3) 3).map ei).toArray 52 (0, 0)) ∧ w.heap[b53]? = some (.cells ((pl (pl (inv (dotA (unR 12 (ek.take 1152) 3) (eaR fwd (smA r 0 3) 3) 3)) (small2 r 6)) (spA 1 (unA 1 m 256) 256)).map ei).toArray 50 (0, 0)) ∧ True, fun w h => h.2, fun _ => ⟨hb67, hs66, hs63, hB, hb34, hb53, trivial⟩, ?_⟩; intro a ha
    refine ccx ha rfl rfl (r_call ha [(.slice (some ⟨b67, 0, none⟩) 2 2)] rfl Tryz.call52) rfl rfl rfl (c_join (.slice (some ⟨b67, 0, none⟩) 2 2) ([u63, u66]) ([pkR 10 (eaR sq10 (plR (eaR inv (tiA (matT (ek.drop 1152)) (eaR fwd (smA r 0 3) 3) 3) 3) (smA r 3 3) 3) 3) 3, paA 4 (sqA 4 (pl (pl (inv (dotA (unR 12 (ek.take 1152) 3) (eaR fwd (smA r 0 3) 3) 3)) (small2 r 6)) (spA 1 (unA 1 m 256) 256)) 256) 256]) _ (Sl.ofBlock (D := [u63, u66]) (C := [u63, u66]) hb67 rfl (Nat.le_refl _)) (.cons hs63 (.cons hs66 .nil)) (by simp only [List.flatten_cons, List.flatten_nil, List.append_nil, List.length_append, pkR_len, paA_len]; omega) (show 2 ≤ 1000 by omega)) ?_
    rintro e w69 ⟨u70, rfl, hBc, hs70, hd70⟩
    have hg := grown_call hBc
    have hnb_hs70_b34 := nbn hd70 hb34
    have hnb_hs70_b53 := nbn hd70 hb53
    have hnb_hs70_b67 := nbn hd70 hb67
    have hds_hs70_hs63 := nds hd70 (fun j hj => hs63.lt j hj)
    have hds_hs70_hs66 := nds hd70 (fun j hj => hs66.lt j hj)
    replace hd70 : ∀ j, u70.ownBlock = some j → w0.heap.size ≤ j := fun j hj => Nat.le_trans hB.size (hd70 j hj)
    replace hB := keepB0 hg hB
    replace hb34 := keepO0 hg hb34
    replace hb53 := keepO0 hg hb53
    replace hb67 := keepO0 hg hb67
    replace hs63 := keepS0 hg hs63
    replace hs66 := keepS0 hg hs66
    refine ⟨fun w => (Sl w u70 ((([pkR 10 (eaR sq10 (plR (eaR inv (tiA (matT (ek.drop 1152)) (eaR fwd (smA r 0 3) 3) 3) 3) (smA r 3 3) 3) 3) 3, paA 4 (sqA 4 (pl (pl (inv (dotA (unR 12 (ek.take 1152) 3) (eaR fwd (smA r 0 3) 3) 3)) (small2 r 6)) (spA 1 (unA 1 m 256) 256)) 256) 256]).flatten).map e8)) ∧ (w.heap[b67]? = some (.cells ([u63, u66]).toArray 22 (0, 0))) ∧ (Sl w u66 ((paA 4 (sqA 4 (pl (pl (inv (dotA (unR 12 (ek.take 1152) 3) (eaR fwd (smA r 0 3) 3) 3)) (small2 r 6)) (spA 1 (unA 1 m 256) 256)) 256) 256).map e8)) ∧ (Sl w u63 ((pkR 10 (eaR sq10 (plR (eaR inv (tiA (matT (ek.drop 1152)) (eaR fwd (smA r 0 3) 3) 3) 3) (smA r 3 3) 3) 3) 3).map e8)) ∧ Below w0.heap.size w0 w ∧ w.heap[b34]? = some (.cells ((plR (eaR inv (tiA (matT (ek.drop 1152)) (eaR fwd (smA r 0 3) 3) 3) 3) (smA r 3 3) 3).map ei).toArray 52 (0, 0)) ∧ w.heap[b53]? = some (.cells ((pl (pl (inv (dotA (unR 12 (ek.take 1152) 3) (eaR fwd (smA r 0 3) 3) 3)) (small2 r 6)) (spA 1 (unA 1 m 256) 256)).map ei).toArray 50 (0, 0)) ∧ True, fun w h => h.2, fun _ => ⟨hs70, hb67, hs66, hs63, hB, hb34, hb53, trivial⟩, _, rfl, ?_⟩; intro a ha
    refine c2 ha rfl (cav rfl) (cav rfl) ?_; intro a ha
    refine cfin (k59 _ _ ?_)
    refine wp_ret ?_
    exact ret2 ha Tryz.results13 rfl rfl ⟨_, rfl, hB, (Sl.castM (l := ([pkR 10 (eaR sq10 (plR (eaR inv (tiA (matT (ek.drop 1152)) (eaR fwd (smA r 0 3) 3) 3) 3) (smA r 3 3) 3) 3) 3, paA 4 (sqA 4 (pl (pl (inv (dotA (unR 12 (ek.take 1152) 3) (eaR fwd (smA r 0 3) 3) 3)) (small2 r 6)) (spA 1 (unA 1 m 256) 256)) 256) 256]).flatten) hs70 rfl), hd70⟩
   refine regionT (S := fun w => Below w0.heap.size w0 w ∧ w.heap[b12]? = some (.cells ((unR 12 (ek.take 1152) 3).map ei).toArray 52 (0, 0)) ∧ w.heap[b20]? = some (.cells ((eaR fwd (smA r 0 3) 3).map ei).toArray 52 (0, 0)) ∧ w.heap[b34]? = some (.cells ((plR (eaR inv (tiA (matT (ek.drop 1152)) (eaR fwd (smA r 0 3) 3) 3) 3) (smA r 3 3) 3).map ei).toArray 52 (0, 0)) ∧ w.heap[b41]? = some (.cells ((unA 1 m 256).map ei).toArray 50 (0, 0)) ∧ True) [11] [0, 1, 4, 7] (.op 0 (.op 1 (.op 4 (.op 7 (.two 2 (.two 3 (.two 5 (.two 6 (.two 8 (.two 9 (.op 10 (.op 11 .fin)) 10 (.op 9 (.op 11 .fin))) 10 (.op 8 (.op 9 (.op 11 .fin)))) 10 (.op 6 (.op 8 (.op 9 (.op 11 .fin))))) 10 (.op 5 (.op 6 (.op 8 (.op 9 (.op 11 .fin)))))) 10 (.op 3 (.op 5 (.op 6 (.op 8 (.op 9 (.op 11 .fin))))))) 10 (.op 2 (.op 3 (.op 5 (.op 6 (.op 8 (.op 9 (.op 11 .fin)))))))))))) mixed (by kernel_rfl) (fun w hg => ⟨keepB0 hg hB, keepO0 hg hb12, keepO0 hg hb20, keepO0 hg hb34, keepO0 hg hb41, trivial⟩) ?_
   intro w45 hg
   replace hB := keepB0 hg hB
   replace hb12 := keepO0 hg hb12
   replace hb20 := keepO0 hg hb20
   replace hb34 := keepO0 hg hb34
   replace hb41 := keepO0 hg hb41
   refine T.c4 ha rfl (fun w ⟨_, hb12, _⟩ _ ha => r_loadR ha rfl Tryz.isAgg52 Tryz.sizeOf52 (C := (unR 12 (ek.take 1152) 3).map ei) (by rw [List.length_map, unR_len _ _ _ (by omega)]) (cells_all hb12)) (fun w ⟨_, _, hb20, _⟩ _ ha => r_loadR ha rfl Tryz.isAgg52 Tryz.sizeOf52 (C := (eaR fwd (smA r 0 3) 3).map ei) (by rw [List.length_map, eaR_len _ fwd_len _ (by rw [smA_len _ _ _ (by omega)]) _ (by omega)]) (cells_all hb20)) (cmv rfl) (fun w ⟨_, _, _, _, hb41, _⟩ _ ha => r_loadR ha rfl Tryz.isAgg50 Tryz.sizeOf50 (C := (unA 1 m 256).map ei) (by rw [List.length_map, unA_len]) (cells_all hb41)) ?_; intro a ha
   refine T.two ?_ ?_
   ·skip
    refine T.cc ha rfl rfl (r_call ha [.agg (((unR 12 (ek.take 1152) 3)).map ei).toArray, .agg (((eaR fwd (smA r 0 3) 3)).map ei).toArray] rfl Tryz.call47) rfl rfl rfl (c_dot (unR 12 (ek.take 1152) 3) (eaR fwd (smA r 0 3) 3) _ (by rw [unR_len _ _ _ (by omega)]) (by rw [eaR_len _ fwd_len _ (by rw [smA_len _ _ _ (by omega)]) _ (by omega)]) (glob_keep hG hB) (globP_keep hP hB)) ?_
    rintro e w71 ⟨rfl, hBc⟩
    have hg := grown_call hBc
    replace hB := keepB0 hg hB
    replace hb12 := keepO0 hg hb12
    replace hb20 := keepO0 hg hb20
    replace hb34 := keepO0 hg hb34
    replace hb41 := keepO0 hg hb41
    refine ⟨fun _ => ⟨hB, hb12, hb20, hb34, hb41, trivial⟩, _, rfl, ?_⟩; intro a ha
    refine T.two ?_ ?_
    ·skip
     refine T.cc ha rfl rfl (r_call ha [.agg (((dotA (unR 12 (ek.take 1152) 3) (eaR fwd (smA r 0 3) 3) 3)).map ei).toArray] rfl Tryz.call43) rfl rfl rfl (c_inv (dotA (unR 12 (ek.take 1152) 3) (eaR fwd (smA r 0 3) 3) 3) _ (by rw [dotA_len]) (globP_keep hP hB)) ?_
     rintro e w72 ⟨rfl, hBc⟩
     have hg := grown_call hBc
     replace hB := keepB0 hg hB
     replace hb12 := keepO0 hg hb12
     replace hb20 := keepO0 hg hb20
     replace hb34 := keepO0 hg hb34
     replace hb41 := keepO0 hg hb41
     refine ⟨fun _ => ⟨hB, hb12, hb20, hb34, hb41, trivial⟩, _, rfl, ?_⟩; intro a ha
     refine T.two ?_ ?_
     ·skip
      refine T.cc ha rfl rfl (r_call ha [z, en 6] rfl Tryz.call48) rfl rfl rfl (c_small z r 6 _ (hsz.below hB) (by omega) (by omega) (glob_keep hG hB)) ?_
      rintro e w73 ⟨rfl, hBc⟩
      have hg := grown_call hBc
      replace hB := keepB0 hg hB
      replace hb12 := keepO0 hg hb12
      replace hb20 := keepO0 hg hb20
      replace hb34 := keepO0 hg hb34
      replace hb41 := keepO0 hg hb41
      refine ⟨fun _ => ⟨hB, hb12, hb20, hb34, hb41, trivial⟩, _, rfl, ?_⟩; intro a ha
      refine T.two ?_ ?_
      ·skip
       refine T.cc ha rfl rfl (r_call ha [.agg (((inv (dotA (unR 12 (ek.take 1152) 3) (eaR fwd (smA r 0 3) 3) 3))).map ei).toArray, .agg (((small2 r 6)).map ei).toArray] rfl Tryz.call46) rfl rfl rfl (c_plus (inv (dotA (unR 12 (ek.take 1152) 3) (eaR fwd (smA r 0 3) 3) 3)) (small2 r 6) _ (by rw [(inv_red _ (by rw [dotA_len])).len]) (by rw [small2_len])) ?_
       rintro e w74 ⟨rfl, hBc⟩
       have hg := grown_call hBc
       replace hB := keepB0 hg hB
       replace hb12 := keepO0 hg hb12
       replace hb20 := keepO0 hg hb20
       replace hb34 := keepO0 hg hb34
       replace hb41 := keepO0 hg hb41
       refine ⟨fun _ => ⟨hB, hb12, hb20, hb34, hb41, trivial⟩, _, rfl, ?_⟩; intro a ha
       refine T.two ?_ ?_
       ·skip
        refine T.cc ha rfl rfl (r_call ha [ei 1, .agg (((unA 1 m 256)).map ei).toArray] rfl Tryz.call49) rfl rfl rfl (c_spread 1 (unA 1 m 256) _ (by rw [unA_len])) ?_
        rintro e w75 ⟨rfl, hBc⟩
        have hg := grown_call hBc
        replace hB := keepB0 hg hB
        replace hb12 := keepO0 hg hb12
        replace hb20 := keepO0 hg hb20
        replace hb34 := keepO0 hg hb34
        replace hb41 := keepO0 hg hb41
        refine ⟨fun _ => ⟨hB, hb12, hb20, hb34, hb41, trivial⟩, _, rfl, ?_⟩; intro a ha
        refine T.two ?_ ?_
        ·skip
         refine T.cc ha rfl rfl (r_call ha [.agg (((pl (inv (dotA (unR 12 (ek.take 1152) 3) (eaR fwd (smA r 0 3) 3) 3)) (small2 r 6))).map ei).toArray, .agg (((spA 1 (unA 1 m 256) 256)).map ei).toArray] rfl Tryz.call46) rfl rfl rfl (c_plus (pl (inv (dotA (unR 12 (ek.take 1152) 3) (eaR fwd (smA r 0 3) 3) 3)) (small2 r 6)) (spA 1 (unA 1 m 256) 256) _ (by rw [(pl_red _ _ (by rw [(inv_red _ (by rw [dotA_len])).len])).len]) (by rw [spA_len, unA_len])) ?_
         rintro e w76 ⟨rfl, hBc⟩
         have hg := grown_call hBc
         replace hB := keepB0 hg hB
         replace hb12 := keepO0 hg hb12
         replace hb20 := keepO0 hg hb20
         replace hb34 := keepO0 hg hb34
         replace hb41 := keepO0 hg hb41
         refine ⟨fun _ => ⟨hB, hb12, hb20, hb34, hb41, trivial⟩, _, rfl, ?_⟩; intro a ha
         refine T.calloc ha rfl rfl zero_50M4 rfl (fun w hg => ⟨keepB0 hg hB, keepO0 hg hb12, keepO0 hg hb20, keepO0 hg hb34, keepO0 hg hb41, trivial⟩) ?_
         intro a w77 b78 ha hg hb78 hge78 hlt78
         have hz78 := Nat.le_trans hB.size hge78
         have hq12_78 := bl hb12 hge78
         have hq20_78 := bl hb20 hge78
         have hq34_78 := bl hb34 hge78
         have hq41_78 := bl hb41 hge78
         replace hB := keepB0 hg hB
         replace hb12 := keepO0 hg hb12
         replace hb20 := keepO0 hg hb20
         replace hb34 := keepO0 hg hb34
         replace hb41 := keepO0 hg hb41
         refine T.cstoreW ha rfl rfl rfl rfl (one_ei _) Tryz.sizeOf50 (by rw [List.length_map, (pl_red _ _ (by rw [(pl_red _ _ (by rw [(inv_red _ (by rw [dotA_len])).len])).len])).len]) hb78 (by rw [List.length_map, List.length_replicate]) rfl ?_
         intro a w79 ha hg hb78'
         replace hb78 := hb78'
         replace hB := keepB1 hg (by omega) hB
         replace hb12 := keepO1 hg (by omega) hb12
         replace hb20 := keepO1 hg (by omega) hb20
         replace hb34 := keepO1 hg (by omega) hb34
         replace hb41 := keepO1 hg (by omega) hb41
         exact T.cfin (hJ55 _ _ b78 (ha.to [6, 7, 11, 14] rfl) hB hb12 hb20 hb34 hb41 hb78 hz78 (by omega) (by omega) (by omega) (by omega))
        ·skip
         refine T.calloc ha rfl rfl zero_50M4 rfl (fun w hg => ⟨keepB0 hg hB, keepO0 hg hb12, keepO0 hg hb20, keepO0 hg hb34, keepO0 hg hb41, trivial⟩) ?_
         intro a w80 b81 ha hg hb81 hge81 hlt81
         have hz81 := Nat.le_trans hB.size hge81
         have hq12_81 := bl hb12 hge81
         have hq20_81 := bl hb20 hge81
         have hq34_81 := bl hb34 hge81
         have hq41_81 := bl hb41 hge81
         replace hB := keepB0 hg hB
         replace hb12 := keepO0 hg hb12
         replace hb20 := keepO0 hg hb20
         replace hb34 := keepO0 hg hb34
         replace hb41 := keepO0 hg hb41
         refine T.cc ha rfl rfl (r_call ha [.agg (((pl (inv (dotA (unR 12 (ek.take 1152) 3) (eaR fwd (smA r 0 3) 3) 3)) (small2 r 6))).map ei).toArray, .agg (((spA 1 (unA 1 m 256) 256)).map ei).toArray] rfl Tryz.call46) rfl rfl rfl (c_plus (pl (inv (dotA (unR 12 (ek.take 1152) 3) (eaR fwd (smA r 0 3) 3) 3)) (small2 r 6)) (spA 1 (unA 1 m 256) 256) _ (by rw [(pl_red _ _ (by rw [(inv_red _ (by rw [dotA_len])).len])).len]) (by rw [spA_len, unA_len])) ?_
         rintro e w82 ⟨rfl, hBc⟩
         have hg := grown_call hBc
         replace hB := keepB0 hg hB
         replace hb12 := keepO0 hg hb12
         replace hb20 := keepO0 hg hb20
         replace hb34 := keepO0 hg hb34
         replace hb41 := keepO0 hg hb41
         replace hb81 := keepO0 hg hb81
         refine ⟨fun _ => ⟨hB, hb12, hb20, hb34, hb41, trivial⟩, _, rfl, ?_⟩; intro a ha
         refine T.cstoreW ha rfl rfl rfl rfl (one_ei _) Tryz.sizeOf50 (by rw [List.length_map, (pl_red _ _ (by rw [(pl_red _ _ (by rw [(inv_red _ (by rw [dotA_len])).len])).len])).len]) hb81 (by rw [List.length_map, List.length_replicate]) rfl ?_
         intro a w83 ha hg hb81'
         replace hb81 := hb81'
         replace hB := keepB1 hg (by omega) hB
         replace hb12 := keepO1 hg (by omega) hb12
         replace hb20 := keepO1 hg (by omega) hb20
         replace hb34 := keepO1 hg (by omega) hb34
         replace hb41 := keepO1 hg (by omega) hb41
         exact T.cfin (hJ55 _ _ b81 (ha.to [6, 7, 11, 14] rfl) hB hb12 hb20 hb34 hb41 hb81 hz81 (by omega) (by omega) (by omega) (by omega))
       ·skip
        refine T.calloc ha rfl rfl zero_50M4 rfl (fun w hg => ⟨keepB0 hg hB, keepO0 hg hb12, keepO0 hg hb20, keepO0 hg hb34, keepO0 hg hb41, trivial⟩) ?_
        intro a w84 b85 ha hg hb85 hge85 hlt85
        have hz85 := Nat.le_trans hB.size hge85
        have hq12_85 := bl hb12 hge85
        have hq20_85 := bl hb20 hge85
        have hq34_85 := bl hb34 hge85
        have hq41_85 := bl hb41 hge85
        replace hB := keepB0 hg hB
        replace hb12 := keepO0 hg hb12
        replace hb20 := keepO0 hg hb20
        replace hb34 := keepO0 hg hb34
        replace hb41 := keepO0 hg hb41
        refine T.cc ha rfl rfl (r_call ha [ei 1, .agg (((unA 1 m 256)).map ei).toArray] rfl Tryz.call49) rfl rfl rfl (c_spread 1 (unA 1 m 256) _ (by rw [unA_len])) ?_
        rintro e w86 ⟨rfl, hBc⟩
        have hg := grown_call hBc
        replace hB := keepB0 hg hB
        replace hb12 := keepO0 hg hb12
        replace hb20 := keepO0 hg hb20
        replace hb34 := keepO0 hg hb34
        replace hb41 := keepO0 hg hb41
        replace hb85 := keepO0 hg hb85
        refine ⟨fun _ => ⟨hB, hb12, hb20, hb34, hb41, trivial⟩, _, rfl, ?_⟩; intro a ha
        refine T.cc ha rfl rfl (r_call ha [.agg (((pl (inv (dotA (unR 12 (ek.take 1152) 3) (eaR fwd (smA r 0 3) 3) 3)) (small2 r 6))).map ei).toArray, .agg (((spA 1 (unA 1 m 256) 256)).map ei).toArray] rfl Tryz.call46) rfl rfl rfl (c_plus (pl (inv (dotA (unR 12 (ek.take 1152) 3) (eaR fwd (smA r 0 3) 3) 3)) (small2 r 6)) (spA 1 (unA 1 m 256) 256) _ (by rw [(pl_red _ _ (by rw [(inv_red _ (by rw [dotA_len])).len])).len]) (by rw [spA_len, unA_len])) ?_
        rintro e w87 ⟨rfl, hBc⟩
        have hg := grown_call hBc
        replace hB := keepB0 hg hB
        replace hb12 := keepO0 hg hb12
        replace hb20 := keepO0 hg hb20
        replace hb34 := keepO0 hg hb34
        replace hb41 := keepO0 hg hb41
        replace hb85 := keepO0 hg hb85
        refine ⟨fun _ => ⟨hB, hb12, hb20, hb34, hb41, trivial⟩, _, rfl, ?_⟩; intro a ha
        refine T.cstoreW ha rfl rfl rfl rfl (one_ei _) Tryz.sizeOf50 (by rw [List.length_map, (pl_red _ _ (by rw [(pl_red _ _ (by rw [(inv_red _ (by rw [dotA_len])).len])).len])).len]) hb85 (by rw [List.length_map, List.length_replicate]) rfl ?_
        intro a w88 ha hg hb85'
        replace hb85 := hb85'
        replace hB := keepB1 hg (by omega) hB
        replace hb12 := keepO1 hg (by omega) hb12
        replace hb20 := keepO1 hg (by omega) hb20
        replace hb34 := keepO1 hg (by omega) hb34
        replace hb41 := keepO1 hg (by omega) hb41
        exact T.cfin (hJ55 _ _ b85 (ha.to [6, 7, 11, 14] rfl) hB hb12 hb20 hb34 hb41 hb85 hz85 (by omega) (by omega) (by omega) (by omega))
      ·skip
       refine T.calloc ha rfl rfl zero_50M4 rfl (fun w hg => ⟨keepB0 hg hB, keepO0 hg hb12, keepO0 hg hb20, keepO0 hg hb34, keepO0 hg hb41, trivial⟩) ?_
       intro a w89 b90 ha hg hb90 hge90 hlt90
       have hz90 := Nat.le_trans hB.size hge90
       have hq12_90 := bl hb12 hge90
       have hq20_90 := bl hb20 hge90
       have hq34_90 := bl hb34 hge90
       have hq41_90 := bl hb41 hge90
       replace hB := keepB0 hg hB
       replace hb12 := keepO0 hg hb12
       replace hb20 := keepO0 hg hb20
       replace hb34 := keepO0 hg hb34
       replace hb41 := keepO0 hg hb41
       refine T.cc ha rfl rfl (r_call ha [.agg (((inv (dotA (unR 12 (ek.take 1152) 3) (eaR fwd (smA r 0 3) 3) 3))).map ei).toArray, .agg (((small2 r 6)).map ei).toArray] rfl Tryz.call46) rfl rfl rfl (c_plus (inv (dotA (unR 12 (ek.take 1152) 3) (eaR fwd (smA r 0 3) 3) 3)) (small2 r 6) _ (by rw [(inv_red _ (by rw [dotA_len])).len]) (by rw [small2_len])) ?_
       rintro e w91 ⟨rfl, hBc⟩
       have hg := grown_call hBc
       replace hB := keepB0 hg hB
       replace hb12 := keepO0 hg hb12
       replace hb20 := keepO0 hg hb20
       replace hb34 := keepO0 hg hb34
       replace hb41 := keepO0 hg hb41
       replace hb90 := keepO0 hg hb90
       refine ⟨fun _ => ⟨hB, hb12, hb20, hb34, hb41, trivial⟩, _, rfl, ?_⟩; intro a ha
       refine T.cc ha rfl rfl (r_call ha [ei 1, .agg (((unA 1 m 256)).map ei).toArray] rfl Tryz.call49) rfl rfl rfl (c_spread 1 (unA 1 m 256) _ (by rw [unA_len])) ?_
       rintro e w92 ⟨rfl, hBc⟩
       have hg := grown_call hBc
       replace hB := keepB0 hg hB
       replace hb12 := keepO0 hg hb12
       replace hb20 := keepO0 hg hb20
       replace hb34 := keepO0 hg hb34
       replace hb41 := keepO0 hg hb41
       replace hb90 := keepO0 hg hb90
       refine ⟨fun _ => ⟨hB, hb12, hb20, hb34, hb41, trivial⟩, _, rfl, ?_⟩; intro a ha
       refine T.cc ha rfl rfl (r_call ha [.agg (((pl (inv (dotA (unR 12 (ek.take 1152) 3) (eaR fwd (smA r 0 3) 3) 3)) (small2 r 6))).map ei).toArray, .agg (((spA 1 (unA 1 m 256) 256)).map ei).toArray] rfl Tryz.call46) rfl rfl rfl (c_plus (pl (inv (dotA (unR 12 (ek.take 1152) 3) (eaR fwd (smA r 0 3) 3) 3)) (small2 r 6)) (spA 1 (unA 1 m 256) 256) _ (by rw [(pl_red _ _ (by rw [(inv_red _ (by rw [dotA_len])).len])).len]) (by rw [spA_len, unA_len])) ?_
       rintro e w93 ⟨rfl, hBc⟩
       have hg := grown_call hBc
       replace hB := keepB0 hg hB
       replace hb12 := keepO0 hg hb12
       replace hb20 := keepO0 hg hb20
       replace hb34 := keepO0 hg hb34
       replace hb41 := keepO0 hg hb41
       replace hb90 := keepO0 hg hb90
       refine ⟨fun _ => ⟨hB, hb12, hb20, hb34, hb41, trivial⟩, _, rfl, ?_⟩; intro a ha
       refine T.cstoreW ha rfl rfl rfl rfl (one_ei _) Tryz.sizeOf50 (by rw [List.length_map, (pl_red _ _ (by rw [(pl_red _ _ (by rw [(inv_red _ (by rw [dotA_len])).len])).len])).len]) hb90 (by rw [List.length_map, List.length_replicate]) rfl ?_
       intro a w94 ha hg hb90'
       replace hb90 := hb90'
       replace hB := keepB1 hg (by omega) hB
       replace hb12 := keepO1 hg (by omega) hb12
       replace hb20 := keepO1 hg (by omega) hb20
       replace hb34 := keepO1 hg (by omega) hb34
       replace hb41 := keepO1 hg (by omega) hb41
       exact T.cfin (hJ55 _ _ b90 (ha.to [6, 7, 11, 14] rfl) hB hb12 hb20 hb34 hb41 hb90 hz90 (by omega) (by omega) (by omega) (by omega))
     ·skip
      refine T.calloc ha rfl rfl zero_50M4 rfl (fun w hg => ⟨keepB0 hg hB, keepO0 hg hb12, keepO0 hg hb20, keepO0 hg hb34, keepO0 hg hb41, trivial⟩) ?_
      intro a w95 b96 ha hg hb96 hge96 hlt96
      have hz96 := Nat.le_trans hB.size hge96
      have hq12_96 := bl hb12 hge96
      have hq20_96 := bl hb20 hge96
      have hq34_96 := bl hb34 hge96
      have hq41_96 := bl hb41 hge96
      replace hB := keepB0 hg hB
      replace hb12 := keepO0 hg hb12
      replace hb20 := keepO0 hg hb20
      replace hb34 := keepO0 hg hb34
      replace hb41 := keepO0 hg hb41
      refine T.cc ha rfl rfl (r_call ha [z, en 6] rfl Tryz.call48) rfl rfl rfl (c_small z r 6 _ (hsz.below hB) (by omega) (by omega) (glob_keep hG hB)) ?_
      rintro e w97 ⟨rfl, hBc⟩
      have hg := grown_call hBc
      replace hB := keepB0 hg hB
      replace hb12 := keepO0 hg hb12
      replace hb20 := keepO0 hg hb20
      replace hb34 := keepO0 hg hb34
      replace hb41 := keepO0 hg hb41
      replace hb96 := keepO0 hg hb96
      refine ⟨fun _ => ⟨hB, hb12, hb20, hb34, hb41, trivial⟩, _, rfl, ?_⟩; intro a ha
      refine T.cc ha rfl rfl (r_call ha [.agg (((inv (dotA (unR 12 (ek.take 1152) 3) (eaR fwd (smA r 0 3) 3) 3))).map ei).toArray, .agg (((small2 r 6)).map ei).toArray] rfl Tryz.call46) rfl rfl rfl (c_plus (inv (dotA (unR 12 (ek.take 1152) 3) (eaR fwd (smA r 0 3) 3) 3)) (small2 r 6) _ (by rw [(inv_red _ (by rw [dotA_len])).len]) (by rw [small2_len])) ?_
      rintro e w98 ⟨rfl, hBc⟩
      have hg := grown_call hBc
      replace hB := keepB0 hg hB
      replace hb12 := keepO0 hg hb12
      replace hb20 := keepO0 hg hb20
      replace hb34 := keepO0 hg hb34
      replace hb41 := keepO0 hg hb41
      replace hb96 := keepO0 hg hb96
      refine ⟨fun _ => ⟨hB, hb12, hb20, hb34, hb41, trivial⟩, _, rfl, ?_⟩; intro a ha
      refine T.cc ha rfl rfl (r_call ha [ei 1, .agg (((unA 1 m 256)).map ei).toArray] rfl Tryz.call49) rfl rfl rfl (c_spread 1 (unA 1 m 256) _ (by rw [unA_len])) ?_
      rintro e w99 ⟨rfl, hBc⟩
      have hg := grown_call hBc
      replace hB := keepB0 hg hB
      replace hb12 := keepO0 hg hb12
      replace hb20 := keepO0 hg hb20
      replace hb34 := keepO0 hg hb34
      replace hb41 := keepO0 hg hb41
      replace hb96 := keepO0 hg hb96
      refine ⟨fun _ => ⟨hB, hb12, hb20, hb34, hb41, trivial⟩, _, rfl, ?_⟩; intro a ha
      refine T.cc ha rfl rfl (r_call ha [.agg (((pl (inv (dotA (unR 12 (ek.take 1152) 3) (eaR fwd (smA r 0 3) 3) 3)) (small2 r 6))).map ei).toArray, .agg (((spA 1 (unA 1 m 256) 256)).map ei).toArray] rfl Tryz.call46) rfl rfl rfl (c_plus (pl (inv (dotA (unR 12 (ek.take 1152) 3) (eaR fwd (smA r 0 3) 3) 3)) (small2 r 6)) (spA 1 (unA 1 m 256) 256) _ (by rw [(pl_red _ _ (by rw [(inv_red _ (by rw [dotA_len])).len])).len]) (by rw [spA_len, unA_len])) ?_
      rintro e w100 ⟨rfl, hBc⟩
      have hg := grown_call hBc
      replace hB := keepB0 hg hB
      replace hb12 := keepO0 hg hb12
      replace hb20 := keepO0 hg hb20
      replace hb34 := keepO0 hg hb34
      replace hb41 := keepO0 hg hb41
      replace hb96 := keepO0 hg hb96
      refine ⟨fun _ => ⟨hB, hb12, hb20, hb34, hb41, trivial⟩, _, rfl, ?_⟩; intro a ha
      refine T.cstoreW ha rfl rfl rfl rfl (one_ei _) Tryz.sizeOf50 (by rw [List.length_map, (pl_red _ _ (by rw [(pl_red _ _ (by rw [(inv_red _ (by rw [dotA_len])).len])).len])).len]) hb96 (by rw [List.length_map, List.length_replicate]) rfl ?_
      intro a w101 ha hg hb96'
      replace hb96 := hb96'
      replace hB := keepB1 hg (by omega) hB
      replace hb12 := keepO1 hg (by omega) hb12
      replace hb20 := keepO1 hg (by omega) hb20
      replace hb34 := keepO1 hg (by omega) hb34
      replace hb41 := keepO1 hg (by omega) hb41
      exact T.cfin (hJ55 _ _ b96 (ha.to [6, 7, 11, 14] rfl) hB hb12 hb20 hb34 hb41 hb96 hz96 (by omega) (by omega) (by omega) (by omega))
    ·skip
     refine T.calloc ha rfl rfl zero_50M4 rfl (fun w hg => ⟨keepB0 hg hB, keepO0 hg hb12, keepO0 hg hb20, keepO0 hg hb34, keepO0 hg hb41, trivial⟩) ?_
     intro a w102 b103 ha hg hb103 hge103 hlt103
     have hz103 := Nat.le_trans hB.size hge103
     have hq12_103 := bl hb12 hge103
     have hq20_103 := bl hb20 hge103
     have hq34_103 := bl hb34 hge103
     have hq41_103 := bl hb41 hge103
     replace hB := keepB0 hg hB
     replace hb12 := keepO0 hg hb12
     replace hb20 := keepO0 hg hb20
     replace hb34 := keepO0 hg hb34
     replace hb41 := keepO0 hg hb41
     refine T.cc ha rfl rfl (r_call ha [.agg (((dotA (unR 12 (ek.take 1152) 3) (eaR fwd (smA r 0 3) 3) 3)).map ei).toArray] rfl Tryz.call43) rfl rfl rfl (c_inv (dotA (unR 12 (ek.take 1152) 3) (eaR fwd (smA r 0 3) 3) 3) _ (by rw [dotA_len]) (globP_keep hP hB)) ?_
     rintro e w104 ⟨rfl, hBc⟩
     have hg := grown_call hBc
     replace hB := keepB0 hg hB
     replace hb12 := keepO0 hg hb12
     replace hb20 := keepO0 hg hb20
     replace hb34 := keepO0 hg hb34
     replace hb41 := keepO0 hg hb41
     replace hb103 := keepO0 hg hb103
     refine ⟨fun _ => ⟨hB, hb12, hb20, hb34, hb41, trivial⟩, _, rfl, ?_⟩; intro a ha
     refine T.cc ha rfl rfl (r_call ha [z, en 6] rfl Tryz.call48) rfl rfl rfl (c_small z r 6 _ (hsz.below hB) (by omega) (by omega) (glob_keep hG hB)) ?_
     rintro e w105 ⟨rfl, hBc⟩
     have hg := grown_call hBc
     replace hB := keepB0 hg hB
     replace hb12 := keepO0 hg hb12
     replace hb20 := keepO0 hg hb20
     replace hb34 := keepO0 hg hb34
     replace hb41 := keepO0 hg hb41
     replace hb103 := keepO0 hg hb103
     refine ⟨fun _ => ⟨hB, hb12, hb20, hb34, hb41, trivial⟩, _, rfl, ?_⟩; intro a ha
     refine T.cc ha rfl rfl (r_call ha [.agg (((inv (dotA (unR 12 (ek.take 1152) 3) (eaR fwd (smA r 0 3) 3) 3))).map ei).toArray, .agg (((small2 r 6)).map ei).toArray] rfl Tryz.call46) rfl rfl rfl (c_plus (inv (dotA (unR 12 (ek.take 1152) 3) (eaR fwd (smA r 0 3) 3) 3)) (small2 r 6) _ (by rw [(inv_red _ (by rw [dotA_len])).len]) (by rw [small2_len])) ?_
     rintro e w106 ⟨rfl, hBc⟩
     have hg := grown_call hBc
     replace hB := keepB0 hg hB
     replace hb12 := keepO0 hg hb12
     replace hb20 := keepO0 hg hb20
     replace hb34 := keepO0 hg hb34
     replace hb41 := keepO0 hg hb41
     replace hb103 := keepO0 hg hb103
     refine ⟨fun _ => ⟨hB, hb12, hb20, hb34, hb41, trivial⟩, _, rfl, ?_⟩; intro a ha
     refine T.cc ha rfl rfl (r_call ha [ei 1, .agg (((unA 1 m 256)).map ei).toArray] rfl Tryz.call49) rfl rfl rfl (c_spread 1 (unA 1 m 256) _ (by rw [unA_len])) ?_
     rintro e w107 ⟨rfl, hBc⟩
     have hg := grown_call hBc
     replace hB := keepB0 hg hB
     replace hb12 := keepO0 hg hb12
     replace hb20 := keepO0 hg hb20
     replace hb34 := keepO0 hg hb34
     replace hb41 := keepO0 hg hb41
     replace hb103 := keepO0 hg hb103
     refine ⟨fun _ => ⟨hB, hb12, hb20, hb34, hb41, trivial⟩, _, rfl, ?_⟩; intro a ha
     refine T.cc ha rfl rfl (r_call ha [.agg (((pl (inv (dotA (unR 12 (ek.take 1152) 3) (eaR fwd (smA r 0 3) 3) 3)) (small2 r 6))).map ei).toArray, .agg (((spA 1 (unA 1 m 256) 256)).map ei).toArray] rfl Tryz.call46) rfl rfl rfl (c_plus (pl (inv (dotA (unR 12 (ek.take 1152) 3) (eaR fwd (smA r 0 3) 3) 3)) (small2 r 6)) (spA 1 (unA 1 m 256) 256) _ (by rw [(pl_red _ _ (by rw [(inv_red _ (by rw [dotA_len])).len])).len]) (by rw [spA_len, unA_len])) ?_
     rintro e w108 ⟨rfl, hBc⟩
     have hg := grown_call hBc
     replace hB := keepB0 hg hB
     replace hb12 := keepO0 hg hb12
     replace hb20 := keepO0 hg hb20
     replace hb34 := keepO0 hg hb34
     replace hb41 := keepO0 hg hb41
     replace hb103 := keepO0 hg hb103
     refine ⟨fun _ => ⟨hB, hb12, hb20, hb34, hb41, trivial⟩, _, rfl, ?_⟩; intro a ha
     refine T.cstoreW ha rfl rfl rfl rfl (one_ei _) Tryz.sizeOf50 (by rw [List.length_map, (pl_red _ _ (by rw [(pl_red _ _ (by rw [(inv_red _ (by rw [dotA_len])).len])).len])).len]) hb103 (by rw [List.length_map, List.length_replicate]) rfl ?_
     intro a w109 ha hg hb103'
     replace hb103 := hb103'
     replace hB := keepB1 hg (by omega) hB
     replace hb12 := keepO1 hg (by omega) hb12
     replace hb20 := keepO1 hg (by omega) hb20
     replace hb34 := keepO1 hg (by omega) hb34
     replace hb41 := keepO1 hg (by omega) hb41
     exact T.cfin (hJ55 _ _ b103 (ha.to [6, 7, 11, 14] rfl) hB hb12 hb20 hb34 hb41 hb103 hz103 (by omega) (by omega) (by omega) (by omega))
   ·skip
    refine T.calloc ha rfl rfl zero_50M4 rfl (fun w hg => ⟨keepB0 hg hB, keepO0 hg hb12, keepO0 hg hb20, keepO0 hg hb34, keepO0 hg hb41, trivial⟩) ?_
    intro a w110 b111 ha hg hb111 hge111 hlt111
    have hz111 := Nat.le_trans hB.size hge111
    have hq12_111 := bl hb12 hge111
    have hq20_111 := bl hb20 hge111
    have hq34_111 := bl hb34 hge111
    have hq41_111 := bl hb41 hge111
    replace hB := keepB0 hg hB
    replace hb12 := keepO0 hg hb12
    replace hb20 := keepO0 hg hb20
    replace hb34 := keepO0 hg hb34
    replace hb41 := keepO0 hg hb41
    refine T.cc ha rfl rfl (r_call ha [.agg (((unR 12 (ek.take 1152) 3)).map ei).toArray, .agg (((eaR fwd (smA r 0 3) 3)).map ei).toArray] rfl Tryz.call47) rfl rfl rfl (c_dot (unR 12 (ek.take 1152) 3) (eaR fwd (smA r 0 3) 3) _ (by rw [unR_len _ _ _ (by omega)]) (by rw [eaR_len _ fwd_len _ (by rw [smA_len _ _ _ (by omega)]) _ (by omega)]) (glob_keep hG hB) (globP_keep hP hB)) ?_
    rintro e w112 ⟨rfl, hBc⟩
    have hg := grown_call hBc
    replace hB := keepB0 hg hB
    replace hb12 := keepO0 hg hb12
    replace hb20 := keepO0 hg hb20
    replace hb34 := keepO0 hg hb34
    replace hb41 := keepO0 hg hb41
    replace hb111 := keepO0 hg hb111
    refine ⟨fun _ => ⟨hB, hb12, hb20, hb34, hb41, trivial⟩, _, rfl, ?_⟩; intro a ha
    refine T.cc ha rfl rfl (r_call ha [.agg (((dotA (unR 12 (ek.take 1152) 3) (eaR fwd (smA r 0 3) 3) 3)).map ei).toArray] rfl Tryz.call43) rfl rfl rfl (c_inv (dotA (unR 12 (ek.take 1152) 3) (eaR fwd (smA r 0 3) 3) 3) _ (by rw [dotA_len]) (globP_keep hP hB)) ?_
    rintro e w113 ⟨rfl, hBc⟩
    have hg := grown_call hBc
    replace hB := keepB0 hg hB
    replace hb12 := keepO0 hg hb12
    replace hb20 := keepO0 hg hb20
    replace hb34 := keepO0 hg hb34
    replace hb41 := keepO0 hg hb41
    replace hb111 := keepO0 hg hb111
    refine ⟨fun _ => ⟨hB, hb12, hb20, hb34, hb41, trivial⟩, _, rfl, ?_⟩; intro a ha
    refine T.cc ha rfl rfl (r_call ha [z, en 6] rfl Tryz.call48) rfl rfl rfl (c_small z r 6 _ (hsz.below hB) (by omega) (by omega) (glob_keep hG hB)) ?_
    rintro e w114 ⟨rfl, hBc⟩
    have hg := grown_call hBc
    replace hB := keepB0 hg hB
    replace hb12 := keepO0 hg hb12
    replace hb20 := keepO0 hg hb20
    replace hb34 := keepO0 hg hb34
    replace hb41 := keepO0 hg hb41
    replace hb111 := keepO0 hg hb111
    refine ⟨fun _ => ⟨hB, hb12, hb20, hb34, hb41, trivial⟩, _, rfl, ?_⟩; intro a ha
    refine T.cc ha rfl rfl (r_call ha [.agg (((inv (dotA (unR 12 (ek.take 1152) 3) (eaR fwd (smA r 0 3) 3) 3))).map ei).toArray, .agg (((small2 r 6)).map ei).toArray] rfl Tryz.call46) rfl rfl rfl (c_plus (inv (dotA (unR 12 (ek.take 1152) 3) (eaR fwd (smA r 0 3) 3) 3)) (small2 r 6) _ (by rw [(inv_red _ (by rw [dotA_len])).len]) (by rw [small2_len])) ?_
    rintro e w115 ⟨rfl, hBc⟩
    have hg := grown_call hBc
    replace hB := keepB0 hg hB
    replace hb12 := keepO0 hg hb12
    replace hb20 := keepO0 hg hb20
    replace hb34 := keepO0 hg hb34
    replace hb41 := keepO0 hg hb41
    replace hb111 := keepO0 hg hb111
    refine ⟨fun _ => ⟨hB, hb12, hb20, hb34, hb41, trivial⟩, _, rfl, ?_⟩; intro a ha
    refine T.cc ha rfl rfl (r_call ha [ei 1, .agg (((unA 1 m 256)).map ei).toArray] rfl Tryz.call49) rfl rfl rfl (c_spread 1 (unA 1 m 256) _ (by rw [unA_len])) ?_
    rintro e w116 ⟨rfl, hBc⟩
    have hg := grown_call hBc
    replace hB := keepB0 hg hB
    replace hb12 := keepO0 hg hb12
    replace hb20 := keepO0 hg hb20
    replace hb34 := keepO0 hg hb34
    replace hb41 := keepO0 hg hb41
    replace hb111 := keepO0 hg hb111
    refine ⟨fun _ => ⟨hB, hb12, hb20, hb34, hb41, trivial⟩, _, rfl, ?_⟩; intro a ha
    refine T.cc ha rfl rfl (r_call ha [.agg (((pl (inv (dotA (unR 12 (ek.take 1152) 3) (eaR fwd (smA r 0 3) 3) 3)) (small2 r 6))).map ei).toArray, .agg (((spA 1 (unA 1 m 256) 256)).map ei).toArray] rfl Tryz.call46) rfl rfl rfl (c_plus (pl (inv (dotA (unR 12 (ek.take 1152) 3) (eaR fwd (smA r 0 3) 3) 3)) (small2 r 6)) (spA 1 (unA 1 m 256) 256) _ (by rw [(pl_red _ _ (by rw [(inv_red _ (by rw [dotA_len])).len])).len]) (by rw [spA_len, unA_len])) ?_
    rintro e w117 ⟨rfl, hBc⟩
    have hg := grown_call hBc
    replace hB := keepB0 hg hB
    replace hb12 := keepO0 hg hb12
    replace hb20 := keepO0 hg hb20
    replace hb34 := keepO0 hg hb34
    replace hb41 := keepO0 hg hb41
    replace hb111 := keepO0 hg hb111
    refine ⟨fun _ => ⟨hB, hb12, hb20, hb34, hb41, trivial⟩, _, rfl, ?_⟩; intro a ha
    refine T.cstoreW ha rfl rfl rfl rfl (one_ei _) Tryz.sizeOf50 (by rw [List.length_map, (pl_red _ _ (by rw [(pl_red _ _ (by rw [(inv_red _ (by rw [dotA_len])).len])).len])).len]) hb111 (by rw [List.length_map, List.length_replicate]) rfl ?_
    intro a w118 ha hg hb111'
    replace hb111 := hb111'
    replace hB := keepB1 hg (by omega) hB
    replace hb12 := keepO1 hg (by omega) hb12
    replace hb20 := keepO1 hg (by omega) hb20
    replace hb34 := keepO1 hg (by omega) hb34
    replace hb41 := keepO1 hg (by omega) hb41
    exact T.cfin (hJ55 _ _ b111 (ha.to [6, 7, 11, 14] rfl) hB hb12 hb20 hb34 hb41 hb111 hz111 (by omega) (by omega) (by omega) (by omega))
  refine regionT (S := fun w => Below w0.heap.size w0 w ∧ w.heap[b12]? = some (.cells ((unR 12 (ek.take 1152) 3).map ei).toArray 52 (0, 0)) ∧ w.heap[b20]? = some (.cells ((eaR fwd (smA r 0 3) 3).map ei).toArray 52 (0, 0)) ∧ True) [10] [0, 3, 6] (.op 0 (.op 3 (.op 6 (.two 1 (.two 2 (.two 4 (.two 5 (.two 7 (.two 8 (.op 9 (.op 10 .fin)) 9 (.op 8 (.op 10 .fin))) 9 (.op 7 (.op 8 (.op 10 .fin)))) 9 (.op 5 (.op 7 (.op 8 (.op 10 .fin))))) 9 (.op 4 (.op 5 (.op 7 (.op 8 (.op 10 .fin)))))) 9 (.op 2 (.op 4 (.op 5 (.op 7 (.op 8 (.op 10 .fin))))))) 9 (.op 1 (.op 2 (.op 4 (.op 5 (.op 7 (.op 8 (.op 10 .fin))))))))))) mixed (by kernel_rfl) (fun w hg => ⟨keepB0 hg hB, keepO0 hg hb12, keepO0 hg hb20, trivial⟩) ?_
  intro w24 hg
  replace hB := keepB0 hg hB
  replace hb12 := keepO0 hg hb12
  replace hb20 := keepO0 hg hb20
  refine T.c3 ha rfl (cmv rfl) (fun w ⟨_, _, hb20, _⟩ _ ha => r_loadR ha rfl Tryz.isAgg52 Tryz.sizeOf52 (C := (eaR fwd (smA r 0 3) 3).map ei) (by rw [List.length_map, eaR_len _ fwd_len _ (by rw [smA_len _ _ _ (by omega)]) _ (by omega)]) (cells_all hb20)) (cmv rfl) ?_; intro a ha
  refine T.two ?_ ?_
  ·skip
   refine T.ccx ha rfl rfl (r_call ha [(rsl v 1152 ek.length)] rfl Tryz.call40) rfl rfl rfl (c_matrix (rsl v 1152 ek.length) (ek.drop 1152) _ (Sl.castM (Sl.cutM (lo := 1152) (hi := ek.length) (hs.below hB) (by omega) (by omega)) (cutE _ _ _ rfl))) ?_
   rintro e w119 ⟨b120, rfl, hBc, hb120, hge120⟩
   have hg := grown_call hBc
   have hz120 := Nat.le_trans hB.size hge120
   have hq12_120 := bl hb12 hge120
   have hq20_120 := bl hb20 hge120
   replace hB := keepB0 hg hB
   replace hb12 := keepO0 hg hb12
   replace hb20 := keepO0 hg hb20
   refine ⟨fun w => (w.heap[b120]? = some (.cells ([rsl v 1152 ek.length]).toArray 22 (0, 0))) ∧ Below w0.heap.size w0 w ∧ w.heap[b12]? = some (.cells ((unR 12 (ek.take 1152) 3).map ei).toArray 52 (0, 0)) ∧ w.heap[b20]? = some (.cells ((eaR fwd (smA r 0 3) 3).map ei).toArray 52 (0, 0)) ∧ True, fun w h => h.2, fun _ => ⟨hb120, hB, hb12, hb20, trivial⟩, _, rfl, ?_⟩; intro a ha
   refine T.two ?_ ?_
   ·skip
    refine T.ccx ha rfl rfl (r_call ha [.func (.func 88) #[] #[.pointer (some ⟨b120, 0, none⟩)]] rfl Tryz.call41) rfl rfl rfl (c_turn b120 (rsl v 1152 ek.length) (ek.drop 1152) _ (Sl.castM (Sl.cutM (lo := 1152) (hi := ek.length) (hs.below hB) (by omega) (by omega)) (cutE _ _ _ rfl)) hb120) ?_
    rintro e w121 ⟨b122, rfl, hBc, hb122, hge122⟩
    have hg := grown_call hBc
    have hz122 := Nat.le_trans hB.size hge122
    have hq12_122 := bl hb12 hge122
    have hq20_122 := bl hb20 hge122
    have hq120_122 := bl hb120 hge122
    replace hB := keepB0 hg hB
    replace hb12 := keepO0 hg hb12
    replace hb20 := keepO0 hg hb20
    replace hb120 := keepO0 hg hb120
    refine ⟨fun w => (w.heap[b122]? = some (.cells (([.func (.func 88) #[] #[.pointer (some ⟨b120, 0, none⟩)]] : List Value)).toArray 58 (0, 0))) ∧ (w.heap[b120]? = some (.cells ([rsl v 1152 ek.length]).toArray 22 (0, 0))) ∧ Below w0.heap.size w0 w ∧ w.heap[b12]? = some (.cells ((unR 12 (ek.take 1152) 3).map ei).toArray 52 (0, 0)) ∧ w.heap[b20]? = some (.cells ((eaR fwd (smA r 0 3) 3).map ei).toArray 52 (0, 0)) ∧ True, fun w h => h.2, fun _ => ⟨hb122, hb120, hB, hb12, hb20, trivial⟩, _, rfl, ?_⟩; intro a ha
    refine T.two ?_ ?_
    ·skip
     refine T.cc ha rfl rfl (r_call ha [.func (.func 90) #[] #[.pointer (some ⟨b122, 0, none⟩)], .agg (((eaR fwd (smA r 0 3) 3)).map ei).toArray] rfl Tryz.call42) rfl rfl rfl (c_timesT b122 b120 (rsl v 1152 ek.length) (ek.drop 1152) (eaR fwd (smA r 0 3) 3) _ (Sl.castM (Sl.cutM (lo := 1152) (hi := ek.length) (hs.below hB) (by omega) (by omega)) (cutE _ _ _ rfl)) (by first | omega | (rw [List.length_drop]; omega)) (by rw [eaR_len _ fwd_len _ (by rw [smA_len _ _ _ (by omega)]) _ (by omega)]) hb122 hb120 (glob_keep hG hB) (globP_keep hP hB)) ?_
     rintro e w123 ⟨rfl, hBc⟩
     have hg := grown_call hBc
     replace hB := keepB0 hg hB
     replace hb12 := keepO0 hg hb12
     replace hb20 := keepO0 hg hb20
     replace hb120 := keepO0 hg hb120
     replace hb122 := keepO0 hg hb122
     refine ⟨fun _ => ⟨hb122, hb120, hB, hb12, hb20, trivial⟩, _, rfl, ?_⟩; intro a ha
     refine T.two ?_ ?_
     ·skip
      refine T.cc ha rfl rfl (r_call ha [.agg (((tiA (matT (ek.drop 1152)) (eaR fwd (smA r 0 3) 3) 3)).map ei).toArray, .func (.func 43) #[] #[]] rfl Tryz.call38) rfl rfl rfl (c_eachIr (tiA (matT (ek.drop 1152)) (eaR fwd (smA r 0 3) 3) 3) _ (by rw [tiA_len _ _ _ (by omega)]) (glob_keep hG hB) (globP_keep hP hB)) ?_
      rintro e w124 ⟨rfl, hBc⟩
      have hg := grown_call hBc
      replace hB := keepB0 hg hB
      replace hb12 := keepO0 hg hb12
      replace hb20 := keepO0 hg hb20
      replace hb120 := keepO0 hg hb120
      replace hb122 := keepO0 hg hb122
      refine ⟨fun _ => ⟨hb122, hb120, hB, hb12, hb20, trivial⟩, _, rfl, ?_⟩; intro a ha
      refine T.two ?_ ?_
      ·skip
       refine T.cc ha rfl rfl (r_call ha [z, en 3] rfl Tryz.call37) rfl rfl rfl (c_smalls z r 3 _ (hsz.below hB) (by first | omega | (rw [List.length_drop]; omega)) (by omega) (glob_keep hG hB)) ?_
       rintro e w125 ⟨rfl, hBc⟩
       have hg := grown_call hBc
       replace hB := keepB0 hg hB
       replace hb12 := keepO0 hg hb12
       replace hb20 := keepO0 hg hb20
       replace hb120 := keepO0 hg hb120
       replace hb122 := keepO0 hg hb122
       refine ⟨fun _ => ⟨hb122, hb120, hB, hb12, hb20, trivial⟩, _, rfl, ?_⟩; intro a ha
       refine T.two ?_ ?_
       ·skip
        refine T.cc ha rfl rfl (r_call ha [.agg (((eaR inv (tiA (matT (ek.drop 1152)) (eaR fwd (smA r 0 3) 3) 3) 3)).map ei).toArray, .agg (((smA r 3 3)).map ei).toArray] rfl Tryz.call44) rfl rfl rfl (c_plusR (eaR inv (tiA (matT (ek.drop 1152)) (eaR fwd (smA r 0 3) 3) 3) 3) (smA r 3 3) _ (by rw [eaR_len _ inv_len _ (by rw [tiA_len _ _ _ (by omega)]) _ (by omega)]) (by rw [smA_len _ _ _ (by omega)]) (glob_keep hG hB) (globP_keep hP hB)) ?_
        rintro e w126 ⟨rfl, hBc⟩
        have hg := grown_call hBc
        replace hB := keepB0 hg hB
        replace hb12 := keepO0 hg hb12
        replace hb20 := keepO0 hg hb20
        replace hb120 := keepO0 hg hb120
        replace hb122 := keepO0 hg hb122
        refine ⟨fun _ => ⟨hb122, hb120, hB, hb12, hb20, trivial⟩, _, rfl, ?_⟩; intro a ha
        refine T.calloc ha rfl rfl zero_52M4 rfl (fun w hg => ⟨keepO0 hg hb122, keepO0 hg hb120, keepB0 hg hB, keepO0 hg hb12, keepO0 hg hb20, trivial⟩) ?_
        intro a w127 b128 ha hg hb128 hge128 hlt128
        have hz128 := Nat.le_trans hB.size hge128
        have hq12_128 := bl hb12 hge128
        have hq20_128 := bl hb20 hge128
        have hq120_128 := bl hb120 hge128
        have hq122_128 := bl hb122 hge128
        replace hB := keepB0 hg hB
        replace hb12 := keepO0 hg hb12
        replace hb20 := keepO0 hg hb20
        replace hb120 := keepO0 hg hb120
        replace hb122 := keepO0 hg hb122
        refine T.cstoreW ha rfl rfl rfl rfl (one_ei _) Tryz.sizeOf52 (by rw [List.length_map, plR_len _ _ (by rw [eaR_len _ inv_len _ (by rw [tiA_len _ _ _ (by omega)]) _ (by omega)]) _ (by omega)]) hb128 (by rw [List.length_map, List.length_replicate]) rfl ?_
        intro a w129 ha hg hb128'
        replace hb128 := hb128'
        replace hB := keepB1 hg (by omega) hB
        replace hb12 := keepO1 hg (by omega) hb12
        replace hb20 := keepO1 hg (by omega) hb20
        replace hb120 := keepO1 hg (by omega) hb120
        replace hb122 := keepO1 hg (by omega) hb122
        exact T.cfin (hJ36 _ _ b120 b122 b128 (ha.to [1, 2, 6, 7, 8, 10, 11] rfl) hB hb12 hb20 hb120 hb122 hb128 hz120 hz122 hz128 (by omega) (by omega) (by omega) (by omega) (by omega) (by omega) (by omega) (by omega) (by omega))
       ·skip
        refine T.calloc ha rfl rfl zero_52M4 rfl (fun w hg => ⟨keepO0 hg hb122, keepO0 hg hb120, keepB0 hg hB, keepO0 hg hb12, keepO0 hg hb20, trivial⟩) ?_
        intro a w130 b131 ha hg hb131 hge131 hlt131
        have hz131 := Nat.le_trans hB.size hge131
        have hq12_131 := bl hb12 hge131
        have hq20_131 := bl hb20 hge131
        have hq120_131 := bl hb120 hge131
        have hq122_131 := bl hb122 hge131
        replace hB := keepB0 hg hB
        replace hb12 := keepO0 hg hb12
        replace hb20 := keepO0 hg hb20
        replace hb120 := keepO0 hg hb120
        replace hb122 := keepO0 hg hb122
        refine T.cc ha rfl rfl (r_call ha [.agg (((eaR inv (tiA (matT (ek.drop 1152)) (eaR fwd (smA r 0 3) 3) 3) 3)).map ei).toArray, .agg (((smA r 3 3)).map ei).toArray] rfl Tryz.call44) rfl rfl rfl (c_plusR (eaR inv (tiA (matT (ek.drop 1152)) (eaR fwd (smA r 0 3) 3) 3) 3) (smA r 3 3) _ (by rw [eaR_len _ inv_len _ (by rw [tiA_len _ _ _ (by omega)]) _ (by omega)]) (by rw [smA_len _ _ _ (by omega)]) (glob_keep hG hB) (globP_keep hP hB)) ?_
        rintro e w132 ⟨rfl, hBc⟩
        have hg := grown_call hBc
        replace hB := keepB0 hg hB
        replace hb12 := keepO0 hg hb12
        replace hb20 := keepO0 hg hb20
        replace hb120 := keepO0 hg hb120
        replace hb122 := keepO0 hg hb122
        replace hb131 := keepO0 hg hb131
        refine ⟨fun _ => ⟨hb122, hb120, hB, hb12, hb20, trivial⟩, _, rfl, ?_⟩; intro a ha
        refine T.cstoreW ha rfl rfl rfl rfl (one_ei _) Tryz.sizeOf52 (by rw [List.length_map, plR_len _ _ (by rw [eaR_len _ inv_len _ (by rw [tiA_len _ _ _ (by omega)]) _ (by omega)]) _ (by omega)]) hb131 (by rw [List.length_map, List.length_replicate]) rfl ?_
        intro a w133 ha hg hb131'
        replace hb131 := hb131'
        replace hB := keepB1 hg (by omega) hB
        replace hb12 := keepO1 hg (by omega) hb12
        replace hb20 := keepO1 hg (by omega) hb20
        replace hb120 := keepO1 hg (by omega) hb120
        replace hb122 := keepO1 hg (by omega) hb122
        exact T.cfin (hJ36 _ _ b120 b122 b131 (ha.to [1, 2, 6, 7, 8, 10, 11] rfl) hB hb12 hb20 hb120 hb122 hb131 hz120 hz122 hz131 (by omega) (by omega) (by omega) (by omega) (by omega) (by omega) (by omega) (by omega) (by omega))
      ·skip
       refine T.calloc ha rfl rfl zero_52M4 rfl (fun w hg => ⟨keepO0 hg hb122, keepO0 hg hb120, keepB0 hg hB, keepO0 hg hb12, keepO0 hg hb20, trivial⟩) ?_
       intro a w134 b135 ha hg hb135 hge135 hlt135
       have hz135 := Nat.le_trans hB.size hge135
       have hq12_135 := bl hb12 hge135
       have hq20_135 := bl hb20 hge135
       have hq120_135 := bl hb120 hge135
       have hq122_135 := bl hb122 hge135
       replace hB := keepB0 hg hB
       replace hb12 := keepO0 hg hb12
       replace hb20 := keepO0 hg hb20
       replace hb120 := keepO0 hg hb120
       replace hb122 := keepO0 hg hb122
       refine T.cc ha rfl rfl (r_call ha [z, en 3] rfl Tryz.call37) rfl rfl rfl (c_smalls z r 3 _ (hsz.below hB) (by first | omega | (rw [List.length_drop]; omega)) (by omega) (glob_keep hG hB)) ?_
       rintro e w136 ⟨rfl, hBc⟩
       have hg := grown_call hBc
       replace hB := keepB0 hg hB
       replace hb12 := keepO0 hg hb12
       replace hb20 := keepO0 hg hb20
       replace hb120 := keepO0 hg hb120
       replace hb122 := keepO0 hg hb122
       replace hb135 := keepO0 hg hb135
       refine ⟨fun _ => ⟨hb122, hb120, hB, hb12, hb20, trivial⟩, _, rfl, ?_⟩; intro a ha
       refine T.cc ha rfl rfl (r_call ha [.agg (((eaR inv (tiA (matT (ek.drop 1152)) (eaR fwd (smA r 0 3) 3) 3) 3)).map ei).toArray, .agg (((smA r 3 3)).map ei).toArray] rfl Tryz.call44) rfl rfl rfl (c_plusR (eaR inv (tiA (matT (ek.drop 1152)) (eaR fwd (smA r 0 3) 3) 3) 3) (smA r 3 3) _ (by rw [eaR_len _ inv_len _ (by rw [tiA_len _ _ _ (by omega)]) _ (by omega)]) (by rw [smA_len _ _ _ (by omega)]) (glob_keep hG hB) (globP_keep hP hB)) ?_
       rintro e w137 ⟨rfl, hBc⟩
       have hg := grown_call hBc
       replace hB := keepB0 hg hB
       replace hb12 := keepO0 hg hb12
       replace hb20 := keepO0 hg hb20
       replace hb120 := keepO0 hg hb120
       replace hb122 := keepO0 hg hb122
       replace hb135 := keepO0 hg hb135
       refine ⟨fun _ => ⟨hb122, hb120, hB, hb12, hb20, trivial⟩, _, rfl, ?_⟩; intro a ha
       refine T.cstoreW ha rfl rfl rfl rfl (one_ei _) Tryz.sizeOf52 (by rw [List.length_map, plR_len _ _ (by rw [eaR_len _ inv_len _ (by rw [tiA_len _ _ _ (by omega)]) _ (by omega)]) _ (by omega)]) hb135 (by rw [List.length_map, List.length_replicate]) rfl ?_
       intro a w138 ha hg hb135'
       replace hb135 := hb135'
       replace hB := keepB1 hg (by omega) hB
       replace hb12 := keepO1 hg (by omega) hb12
       replace hb20 := keepO1 hg (by omega) hb20
       replace hb120 := keepO1 hg (by omega) hb120
       replace hb122 := keepO1 hg (by omega) hb122
       exact T.cfin (hJ36 _ _ b120 b122 b135 (ha.to [1, 2, 6, 7, 8, 10, 11] rfl) hB hb12 hb20 hb120 hb122 hb135 hz120 hz122 hz135 (by omega) (by omega) (by omega) (by omega) (by omega) (by omega) (by omega) (by omega) (by omega))
     ·skip
      refine T.calloc ha rfl rfl zero_52M4 rfl (fun w hg => ⟨keepO0 hg hb122, keepO0 hg hb120, keepB0 hg hB, keepO0 hg hb12, keepO0 hg hb20, trivial⟩) ?_
      intro a w139 b140 ha hg hb140 hge140 hlt140
      have hz140 := Nat.le_trans hB.size hge140
      have hq12_140 := bl hb12 hge140
      have hq20_140 := bl hb20 hge140
      have hq120_140 := bl hb120 hge140
      have hq122_140 := bl hb122 hge140
      replace hB := keepB0 hg hB
      replace hb12 := keepO0 hg hb12
      replace hb20 := keepO0 hg hb20
      replace hb120 := keepO0 hg hb120
      replace hb122 := keepO0 hg hb122
      refine T.cc ha rfl rfl (r_call ha [.agg (((tiA (matT (ek.drop 1152)) (eaR fwd (smA r 0 3) 3) 3)).map ei).toArray, .func (.func 43) #[] #[]] rfl Tryz.call38) rfl rfl rfl (c_eachIr (tiA (matT (ek.drop 1152)) (eaR fwd (smA r 0 3) 3) 3) _ (by rw [tiA_len _ _ _ (by omega)]) (glob_keep hG hB) (globP_keep hP hB)) ?_
      rintro e w141 ⟨rfl, hBc⟩
      have hg := grown_call hBc
      replace hB := keepB0 hg hB
      replace hb12 := keepO0 hg hb12
      replace hb20 := keepO0 hg hb20
      replace hb120 := keepO0 hg hb120
      replace hb122 := keepO0 hg hb122
      replace hb140 := keepO0 hg hb140
      refine ⟨fun _ => ⟨hb122, hb120, hB, hb12, hb20, trivial⟩, _, rfl, ?_⟩; intro a ha
      refine T.cc ha rfl rfl (r_call ha [z, en 3] rfl Tryz.call37) rfl rfl rfl (c_smalls z r 3 _ (hsz.below hB) (by first | omega | (rw [List.length_drop]; omega)) (by omega) (glob_keep hG hB)) ?_
      rintro e w142 ⟨rfl, hBc⟩
      have hg := grown_call hBc
      replace hB := keepB0 hg hB
      replace hb12 := keepO0 hg hb12
      replace hb20 := keepO0 hg hb20
      replace hb120 := keepO0 hg hb120
      replace hb122 := keepO0 hg hb122
      replace hb140 := keepO0 hg hb140
      refine ⟨fun _ => ⟨hb122, hb120, hB, hb12, hb20, trivial⟩, _, rfl, ?_⟩; intro a ha
      refine T.cc ha rfl rfl (r_call ha [.agg (((eaR inv (tiA (matT (ek.drop 1152)) (eaR fwd (smA r 0 3) 3) 3) 3)).map ei).toArray, .agg (((smA r 3 3)).map ei).toArray] rfl Tryz.call44) rfl rfl rfl (c_plusR (eaR inv (tiA (matT (ek.drop 1152)) (eaR fwd (smA r 0 3) 3) 3) 3) (smA r 3 3) _ (by rw [eaR_len _ inv_len _ (by rw [tiA_len _ _ _ (by omega)]) _ (by omega)]) (by rw [smA_len _ _ _ (by omega)]) (glob_keep hG hB) (globP_keep hP hB)) ?_
      rintro e w143 ⟨rfl, hBc⟩
      have hg := grown_call hBc
      replace hB := keepB0 hg hB
      replace hb12 := keepO0 hg hb12
      replace hb20 := keepO0 hg hb20
      replace hb120 := keepO0 hg hb120
      replace hb122 := keepO0 hg hb122
      replace hb140 := keepO0 hg hb140
      refine ⟨fun _ => ⟨hb122, hb120, hB, hb12, hb20, trivial⟩, _, rfl, ?_⟩; intro a ha
      refine T.cstoreW ha rfl rfl rfl rfl (one_ei _) Tryz.sizeOf52 (by rw [List.length_map, plR_len _ _ (by rw [eaR_len _ inv_len _ (by rw [tiA_len _ _ _ (by omega)]) _ (by omega)]) _ (by omega)]) hb140 (by rw [List.length_map, List.length_replicate]) rfl ?_
      intro a w144 ha hg hb140'
      replace hb140 := hb140'
      replace hB := keepB1 hg (by omega) hB
      replace hb12 := keepO1 hg (by omega) hb12
      replace hb20 := keepO1 hg (by omega) hb20
      replace hb120 := keepO1 hg (by omega) hb120
      replace hb122 := keepO1 hg (by omega) hb122
      exact T.cfin (hJ36 _ _ b120 b122 b140 (ha.to [1, 2, 6, 7, 8, 10, 11] rfl) hB hb12 hb20 hb120 hb122 hb140 hz120 hz122 hz140 (by omega) (by omega) (by omega) (by omega) (by omega) (by omega) (by omega) (by omega) (by omega))
    ·skip
     refine T.calloc ha rfl rfl zero_52M4 rfl (fun w hg => ⟨keepO0 hg hb122, keepO0 hg hb120, keepB0 hg hB, keepO0 hg hb12, keepO0 hg hb20, trivial⟩) ?_
     intro a w145 b146 ha hg hb146 hge146 hlt146
     have hz146 := Nat.le_trans hB.size hge146
     have hq12_146 := bl hb12 hge146
     have hq20_146 := bl hb20 hge146
     have hq120_146 := bl hb120 hge146
     have hq122_146 := bl hb122 hge146
     replace hB := keepB0 hg hB
     replace hb12 := keepO0 hg hb12
     replace hb20 := keepO0 hg hb20
     replace hb120 := keepO0 hg hb120
     replace hb122 := keepO0 hg hb122
     refine T.cc ha rfl rfl (r_call ha [.func (.func 90) #[] #[.pointer (some ⟨b122, 0, none⟩)], .agg (((eaR fwd (smA r 0 3) 3)).map ei).toArray] rfl Tryz.call42) rfl rfl rfl (c_timesT b122 b120 (rsl v 1152 ek.length) (ek.drop 1152) (eaR fwd (smA r 0 3) 3) _ (Sl.castM (Sl.cutM (lo := 1152) (hi := ek.length) (hs.below hB) (by omega) (by omega)) (cutE _ _ _ rfl)) (by first | omega | (rw [List.length_drop]; omega)) (by rw [eaR_len _ fwd_len _ (by rw [smA_len _ _ _ (by omega)]) _ (by omega)]) hb122 hb120 (glob_keep hG hB) (globP_keep hP hB)) ?_
     rintro e w147 ⟨rfl, hBc⟩
     have hg := grown_call hBc
     replace hB := keepB0 hg hB
     replace hb12 := keepO0 hg hb12
     replace hb20 := keepO0 hg hb20
     replace hb120 := keepO0 hg hb120
     replace hb122 := keepO0 hg hb122
     replace hb146 := keepO0 hg hb146
     refine ⟨fun _ => ⟨hb122, hb120, hB, hb12, hb20, trivial⟩, _, rfl, ?_⟩; intro a ha
     refine T.cc ha rfl rfl (r_call ha [.agg (((tiA (matT (ek.drop 1152)) (eaR fwd (smA r 0 3) 3) 3)).map ei).toArray, .func (.func 43) #[] #[]] rfl Tryz.call38) rfl rfl rfl (c_eachIr (tiA (matT (ek.drop 1152)) (eaR fwd (smA r 0 3) 3) 3) _ (by rw [tiA_len _ _ _ (by omega)]) (glob_keep hG hB) (globP_keep hP hB)) ?_
     rintro e w148 ⟨rfl, hBc⟩
     have hg := grown_call hBc
     replace hB := keepB0 hg hB
     replace hb12 := keepO0 hg hb12
     replace hb20 := keepO0 hg hb20
     replace hb120 := keepO0 hg hb120
     replace hb122 := keepO0 hg hb122
     replace hb146 := keepO0 hg hb146
     refine ⟨fun _ => ⟨hb122, hb120, hB, hb12, hb20, trivial⟩, _, rfl, ?_⟩; intro a ha
     refine T.cc ha rfl rfl (r_call ha [z, en 3] rfl Tryz.call37) rfl rfl rfl (c_smalls z r 3 _ (hsz.below hB) (by first | omega | (rw [List.length_drop]; omega)) (by omega) (glob_keep hG hB)) ?_
     rintro e w149 ⟨rfl, hBc⟩
     have hg := grown_call hBc
     replace hB := keepB0 hg hB
     replace hb12 := keepO0 hg hb12
     replace hb20 := keepO0 hg hb20
     replace hb120 := keepO0 hg hb120
     replace hb122 := keepO0 hg hb122
     replace hb146 := keepO0 hg hb146
     refine ⟨fun _ => ⟨hb122, hb120, hB, hb12, hb20, trivial⟩, _, rfl, ?_⟩; intro a ha
     refine T.cc ha rfl rfl (r_call ha [.agg (((eaR inv (tiA (matT (ek.drop 1152)) (eaR fwd (smA r 0 3) 3) 3) 3)).map ei).toArray, .agg (((smA r 3 3)).map ei).toArray] rfl Tryz.call44) rfl rfl rfl (c_plusR (eaR inv (tiA (matT (ek.drop 1152)) (eaR fwd (smA r 0 3) 3) 3) 3) (smA r 3 3) _ (by rw [eaR_len _ inv_len _ (by rw [tiA_len _ _ _ (by omega)]) _ (by omega)]) (by rw [smA_len _ _ _ (by omega)]) (glob_keep hG hB) (globP_keep hP hB)) ?_
     rintro e w150 ⟨rfl, hBc⟩
     have hg := grown_call hBc
     replace hB := keepB0 hg hB
     replace hb12 := keepO0 hg hb12
     replace hb20 := keepO0 hg hb20
     replace hb120 := keepO0 hg hb120
     replace hb122 := keepO0 hg hb122
     replace hb146 := keepO0 hg hb146
     refine ⟨fun _ => ⟨hb122, hb120, hB, hb12, hb20, trivial⟩, _, rfl, ?_⟩; intro a ha
     refine T.cstoreW ha rfl rfl rfl rfl (one_ei _) Tryz.sizeOf52 (by rw [List.length_map, plR_len _ _ (by rw [eaR_len _ inv_len _ (by rw [tiA_len _ _ _ (by omega)]) _ (by omega)]) _ (by omega)]) hb146 (by rw [List.length_map, List.length_replicate]) rfl ?_
     intro a w151 ha hg hb146'
     replace hb146 := hb146'
     replace hB := keepB1 hg (by omega) hB
     replace hb12 := keepO1 hg (by omega) hb12
     replace hb20 := keepO1 hg (by omega) hb20
     replace hb120 := keepO1 hg (by omega) hb120
     replace hb122 := keepO1 hg (by omega) hb122
     exact T.cfin (hJ36 _ _ b120 b122 b146 (ha.to [1, 2, 6, 7, 8, 10, 11] rfl) hB hb12 hb20 hb120 hb122 hb146 hz120 hz122 hz146 (by omega) (by omega) (by omega) (by omega) (by omega) (by omega) (by omega) (by omega) (by omega))
   ·skip
    refine T.calloc ha rfl rfl zero_52M4 rfl (fun w hg => ⟨keepO0 hg hb120, keepB0 hg hB, keepO0 hg hb12, keepO0 hg hb20, trivial⟩) ?_
    intro a w152 b153 ha hg hb153 hge153 hlt153
    have hz153 := Nat.le_trans hB.size hge153
    have hq12_153 := bl hb12 hge153
    have hq20_153 := bl hb20 hge153
    have hq120_153 := bl hb120 hge153
    replace hB := keepB0 hg hB
    replace hb12 := keepO0 hg hb12
    replace hb20 := keepO0 hg hb20
    replace hb120 := keepO0 hg hb120
    refine T.ccx ha rfl rfl (r_call ha [.func (.func 88) #[] #[.pointer (some ⟨b120, 0, none⟩)]] rfl Tryz.call41) rfl rfl rfl (c_turn b120 (rsl v 1152 ek.length) (ek.drop 1152) _ (Sl.castM (Sl.cutM (lo := 1152) (hi := ek.length) (hs.below hB) (by omega) (by omega)) (cutE _ _ _ rfl)) hb120) ?_
    rintro e w154 ⟨b155, rfl, hBc, hb155, hge155⟩
    have hg := grown_call hBc
    have hz155 := Nat.le_trans hB.size hge155
    have hq12_155 := bl hb12 hge155
    have hq20_155 := bl hb20 hge155
    have hq120_155 := bl hb120 hge155
    have hq153_155 := bl hb153 hge155
    replace hB := keepB0 hg hB
    replace hb12 := keepO0 hg hb12
    replace hb20 := keepO0 hg hb20
    replace hb120 := keepO0 hg hb120
    replace hb153 := keepO0 hg hb153
    refine ⟨fun w => (w.heap[b155]? = some (.cells (([.func (.func 88) #[] #[.pointer (some ⟨b120, 0, none⟩)]] : List Value)).toArray 58 (0, 0))) ∧ (w.heap[b120]? = some (.cells ([rsl v 1152 ek.length]).toArray 22 (0, 0))) ∧ Below w0.heap.size w0 w ∧ w.heap[b12]? = some (.cells ((unR 12 (ek.take 1152) 3).map ei).toArray 52 (0, 0)) ∧ w.heap[b20]? = some (.cells ((eaR fwd (smA r 0 3) 3).map ei).toArray 52 (0, 0)) ∧ True, fun w h => h.2, fun _ => ⟨hb155, hb120, hB, hb12, hb20, trivial⟩, _, rfl, ?_⟩; intro a ha
    refine T.cc ha rfl rfl (r_call ha [.func (.func 90) #[] #[.pointer (some ⟨b155, 0, none⟩)], .agg (((eaR fwd (smA r 0 3) 3)).map ei).toArray] rfl Tryz.call42) rfl rfl rfl (c_timesT b155 b120 (rsl v 1152 ek.length) (ek.drop 1152) (eaR fwd (smA r 0 3) 3) _ (Sl.castM (Sl.cutM (lo := 1152) (hi := ek.length) (hs.below hB) (by omega) (by omega)) (cutE _ _ _ rfl)) (by first | omega | (rw [List.length_drop]; omega)) (by rw [eaR_len _ fwd_len _ (by rw [smA_len _ _ _ (by omega)]) _ (by omega)]) hb155 hb120 (glob_keep hG hB) (globP_keep hP hB)) ?_
    rintro e w156 ⟨rfl, hBc⟩
    have hg := grown_call hBc
    replace hB := keepB0 hg hB
    replace hb12 := keepO0 hg hb12
    replace hb20 := keepO0 hg hb20
    replace hb120 := keepO0 hg hb120
    replace hb153 := keepO0 hg hb153
    replace hb155 := keepO0 hg hb155
    refine ⟨fun _ => ⟨hb155, hb120, hB, hb12, hb20, trivial⟩, _, rfl, ?_⟩; intro a ha
    refine T.cc ha rfl rfl (r_call ha [.agg (((tiA (matT (ek.drop 1152)) (eaR fwd (smA r 0 3) 3) 3)).map ei).toArray, .func (.func 43) #[] #[]] rfl Tryz.call38) rfl rfl rfl (c_eachIr (tiA (matT (ek.drop 1152)) (eaR fwd (smA r 0 3) 3) 3) _ (by rw [tiA_len _ _ _ (by omega)]) (glob_keep hG hB) (globP_keep hP hB)) ?_
    rintro e w157 ⟨rfl, hBc⟩
    have hg := grown_call hBc
    replace hB := keepB0 hg hB
    replace hb12 := keepO0 hg hb12
    replace hb20 := keepO0 hg hb20
    replace hb120 := keepO0 hg hb120
    replace hb153 := keepO0 hg hb153
    replace hb155 := keepO0 hg hb155
    refine ⟨fun _ => ⟨hb155, hb120, hB, hb12, hb20, trivial⟩, _, rfl, ?_⟩; intro a ha
    refine T.cc ha rfl rfl (r_call ha [z, en 3] rfl Tryz.call37) rfl rfl rfl (c_smalls z r 3 _ (hsz.below hB) (by first | omega | (rw [List.length_drop]; omega)) (by omega) (glob_keep hG hB)) ?_
    rintro e w158 ⟨rfl, hBc⟩
    have hg := grown_call hBc
    replace hB := keepB0 hg hB
    replace hb12 := keepO0 hg hb12
    replace hb20 := keepO0 hg hb20
    replace hb120 := keepO0 hg hb120
    replace hb153 := keepO0 hg hb153
    replace hb155 := keepO0 hg hb155
    refine ⟨fun _ => ⟨hb155, hb120, hB, hb12, hb20, trivial⟩, _, rfl, ?_⟩; intro a ha
    refine T.cc ha rfl rfl (r_call ha [.agg (((eaR inv (tiA (matT (ek.drop 1152)) (eaR fwd (smA r 0 3) 3) 3) 3)).map ei).toArray, .agg (((smA r 3 3)).map ei).toArray] rfl Tryz.call44) rfl rfl rfl (c_plusR (eaR inv (tiA (matT (ek.drop 1152)) (eaR fwd (smA r 0 3) 3) 3) 3) (smA r 3 3) _ (by rw [eaR_len _ inv_len _ (by rw [tiA_len _ _ _ (by omega)]) _ (by omega)]) (by rw [smA_len _ _ _ (by omega)]) (glob_keep hG hB) (globP_keep hP hB)) ?_
    rintro e w159 ⟨rfl, hBc⟩
    have hg := grown_call hBc
    replace hB := keepB0 hg hB
    replace hb12 := keepO0 hg hb12
    replace hb20 := keepO0 hg hb20
    replace hb120 := keepO0 hg hb120
    replace hb153 := keepO0 hg hb153
    replace hb155 := keepO0 hg hb155
    refine ⟨fun _ => ⟨hb155, hb120, hB, hb12, hb20, trivial⟩, _, rfl, ?_⟩; intro a ha
    refine T.cstoreW ha rfl rfl rfl rfl (one_ei _) Tryz.sizeOf52 (by rw [List.length_map, plR_len _ _ (by rw [eaR_len _ inv_len _ (by rw [tiA_len _ _ _ (by omega)]) _ (by omega)]) _ (by omega)]) hb153 (by rw [List.length_map, List.length_replicate]) rfl ?_
    intro a w160 ha hg hb153'
    replace hb153 := hb153'
    replace hB := keepB1 hg (by omega) hB
    replace hb12 := keepO1 hg (by omega) hb12
    replace hb20 := keepO1 hg (by omega) hb20
    replace hb120 := keepO1 hg (by omega) hb120
    replace hb155 := keepO1 hg (by omega) hb155
    exact T.cfin (hJ36 _ _ b120 b155 b153 (ha.to [1, 2, 6, 7, 8, 10, 11] rfl) hB hb12 hb20 hb120 hb155 hb153 hz120 hz155 hz153 (by omega) (by omega) (by omega) (by omega) (by omega) (by omega) (by omega) (by omega) (by omega))
  ·skip
   refine T.calloc ha rfl rfl zero_52M4 rfl (fun w hg => ⟨keepB0 hg hB, keepO0 hg hb12, keepO0 hg hb20, trivial⟩) ?_
   intro a w161 b162 ha hg hb162 hge162 hlt162
   have hz162 := Nat.le_trans hB.size hge162
   have hq12_162 := bl hb12 hge162
   have hq20_162 := bl hb20 hge162
   replace hB := keepB0 hg hB
   replace hb12 := keepO0 hg hb12
   replace hb20 := keepO0 hg hb20
   refine T.ccx ha rfl rfl (r_call ha [(rsl v 1152 ek.length)] rfl Tryz.call40) rfl rfl rfl (c_matrix (rsl v 1152 ek.length) (ek.drop 1152) _ (Sl.castM (Sl.cutM (lo := 1152) (hi := ek.length) (hs.below hB) (by omega) (by omega)) (cutE _ _ _ rfl))) ?_
   rintro e w163 ⟨b164, rfl, hBc, hb164, hge164⟩
   have hg := grown_call hBc
   have hz164 := Nat.le_trans hB.size hge164
   have hq12_164 := bl hb12 hge164
   have hq20_164 := bl hb20 hge164
   have hq162_164 := bl hb162 hge164
   replace hB := keepB0 hg hB
   replace hb12 := keepO0 hg hb12
   replace hb20 := keepO0 hg hb20
   replace hb162 := keepO0 hg hb162
   refine ⟨fun w => (w.heap[b164]? = some (.cells ([rsl v 1152 ek.length]).toArray 22 (0, 0))) ∧ Below w0.heap.size w0 w ∧ w.heap[b12]? = some (.cells ((unR 12 (ek.take 1152) 3).map ei).toArray 52 (0, 0)) ∧ w.heap[b20]? = some (.cells ((eaR fwd (smA r 0 3) 3).map ei).toArray 52 (0, 0)) ∧ True, fun w h => h.2, fun _ => ⟨hb164, hB, hb12, hb20, trivial⟩, _, rfl, ?_⟩; intro a ha
   refine T.ccx ha rfl rfl (r_call ha [.func (.func 88) #[] #[.pointer (some ⟨b164, 0, none⟩)]] rfl Tryz.call41) rfl rfl rfl (c_turn b164 (rsl v 1152 ek.length) (ek.drop 1152) _ (Sl.castM (Sl.cutM (lo := 1152) (hi := ek.length) (hs.below hB) (by omega) (by omega)) (cutE _ _ _ rfl)) hb164) ?_
   rintro e w165 ⟨b166, rfl, hBc, hb166, hge166⟩
   have hg := grown_call hBc
   have hz166 := Nat.le_trans hB.size hge166
   have hq12_166 := bl hb12 hge166
   have hq20_166 := bl hb20 hge166
   have hq162_166 := bl hb162 hge166
   have hq164_166 := bl hb164 hge166
   replace hB := keepB0 hg hB
   replace hb12 := keepO0 hg hb12
   replace hb20 := keepO0 hg hb20
   replace hb162 := keepO0 hg hb162
   replace hb164 := keepO0 hg hb164
   refine ⟨fun w => (w.heap[b166]? = some (.cells (([.func (.func 88) #[] #[.pointer (some ⟨b164, 0, none⟩)]] : List Value)).toArray 58 (0, 0))) ∧ (w.heap[b164]? = some (.cells ([rsl v 1152 ek.length]).toArray 22 (0, 0))) ∧ Below w0.heap.size w0 w ∧ w.heap[b12]? = some (.cells ((unR 12 (ek.take 1152) 3).map ei).toArray 52 (0, 0)) ∧ w.heap[b20]? = some (.cells ((eaR fwd (smA r 0 3) 3).map ei).toArray 52 (0, 0)) ∧ True, fun w h => h.2, fun _ => ⟨hb166, hb164, hB, hb12, hb20, trivial⟩, _, rfl, ?_⟩; intro a ha
   refine T.cc ha rfl rfl (r_call ha [.func (.func 90) #[] #[.pointer (some ⟨b166, 0, none⟩)], .agg (((eaR fwd (smA r 0 3) 3)).map ei).toArray] rfl Tryz.call42) rfl rfl rfl (c_timesT b166 b164 (rsl v 1152 ek.length) (ek.drop 1152) (eaR fwd (smA r 0 3) 3) _ (Sl.castM (Sl.cutM (lo := 1152) (hi := ek.length) (hs.below hB) (by omega) (by omega)) (cutE _ _ _ rfl)) (by first | omega | (rw [List.length_drop]; omega)) (by rw [eaR_len _ fwd_len _ (by rw [smA_len _ _ _ (by omega)]) _ (by omega)]) hb166 hb164 (glob_keep hG hB) (globP_keep hP hB)) ?_
   rintro e w167 ⟨rfl, hBc⟩
   have hg := grown_call hBc
   replace hB := keepB0 hg hB
   replace hb12 := keepO0 hg hb12
   replace hb20 := keepO0 hg hb20
   replace hb162 := keepO0 hg hb162
   replace hb164 := keepO0 hg hb164
   replace hb166 := keepO0 hg hb166
   refine ⟨fun _ => ⟨hb166, hb164, hB, hb12, hb20, trivial⟩, _, rfl, ?_⟩; intro a ha
   refine T.cc ha rfl rfl (r_call ha [.agg (((tiA (matT (ek.drop 1152)) (eaR fwd (smA r 0 3) 3) 3)).map ei).toArray, .func (.func 43) #[] #[]] rfl Tryz.call38) rfl rfl rfl (c_eachIr (tiA (matT (ek.drop 1152)) (eaR fwd (smA r 0 3) 3) 3) _ (by rw [tiA_len _ _ _ (by omega)]) (glob_keep hG hB) (globP_keep hP hB)) ?_
   rintro e w168 ⟨rfl, hBc⟩
   have hg := grown_call hBc
   replace hB := keepB0 hg hB
   replace hb12 := keepO0 hg hb12
   replace hb20 := keepO0 hg hb20
   replace hb162 := keepO0 hg hb162
   replace hb164 := keepO0 hg hb164
   replace hb166 := keepO0 hg hb166
   refine ⟨fun _ => ⟨hb166, hb164, hB, hb12, hb20, trivial⟩, _, rfl, ?_⟩; intro a ha
   refine T.cc ha rfl rfl (r_call ha [z, en 3] rfl Tryz.call37) rfl rfl rfl (c_smalls z r 3 _ (hsz.below hB) (by first | omega | (rw [List.length_drop]; omega)) (by omega) (glob_keep hG hB)) ?_
   rintro e w169 ⟨rfl, hBc⟩
   have hg := grown_call hBc
   replace hB := keepB0 hg hB
   replace hb12 := keepO0 hg hb12
   replace hb20 := keepO0 hg hb20
   replace hb162 := keepO0 hg hb162
   replace hb164 := keepO0 hg hb164
   replace hb166 := keepO0 hg hb166
   refine ⟨fun _ => ⟨hb166, hb164, hB, hb12, hb20, trivial⟩, _, rfl, ?_⟩; intro a ha
   refine T.cc ha rfl rfl (r_call ha [.agg (((eaR inv (tiA (matT (ek.drop 1152)) (eaR fwd (smA r 0 3) 3) 3) 3)).map ei).toArray, .agg (((smA r 3 3)).map ei).toArray] rfl Tryz.call44) rfl rfl rfl (c_plusR (eaR inv (tiA (matT (ek.drop 1152)) (eaR fwd (smA r 0 3) 3) 3) 3) (smA r 3 3) _ (by rw [eaR_len _ inv_len _ (by rw [tiA_len _ _ _ (by omega)]) _ (by omega)]) (by rw [smA_len _ _ _ (by omega)]) (glob_keep hG hB) (globP_keep hP hB)) ?_
   rintro e w170 ⟨rfl, hBc⟩
   have hg := grown_call hBc
   replace hB := keepB0 hg hB
   replace hb12 := keepO0 hg hb12
   replace hb20 := keepO0 hg hb20
   replace hb162 := keepO0 hg hb162
   replace hb164 := keepO0 hg hb164
   replace hb166 := keepO0 hg hb166
   refine ⟨fun _ => ⟨hb166, hb164, hB, hb12, hb20, trivial⟩, _, rfl, ?_⟩; intro a ha
   refine T.cstoreW ha rfl rfl rfl rfl (one_ei _) Tryz.sizeOf52 (by rw [List.length_map, plR_len _ _ (by rw [eaR_len _ inv_len _ (by rw [tiA_len _ _ _ (by omega)]) _ (by omega)]) _ (by omega)]) hb162 (by rw [List.length_map, List.length_replicate]) rfl ?_
   intro a w171 ha hg hb162'
   replace hb162 := hb162'
   replace hB := keepB1 hg (by omega) hB
   replace hb12 := keepO1 hg (by omega) hb12
   replace hb20 := keepO1 hg (by omega) hb20
   replace hb164 := keepO1 hg (by omega) hb164
   replace hb166 := keepO1 hg (by omega) hb166
   exact T.cfin (hJ36 _ _ b164 b166 b162 (ha.to [1, 2, 6, 7, 8, 10, 11] rfl) hB hb12 hb20 hb164 hb166 hb162 hz164 hz166 hz162 (by omega) (by omega) (by omega) (by omega) (by omega) (by omega) (by omega) (by omega) (by omega))
 refine regionT (S := fun w => Below w0.heap.size w0 w ∧ True) [] [0, 1, 3, 4, 7] (.op 0 (.op 1 (.op 3 (.op 4 (.two 2 (.op 5 (.op 6 (.op 7 .fin))) 5 (.op 2 (.op 6 (.op 7 .fin)))))))) mixed (by kernel_rfl) (fun w hg => ⟨keepB0 hg hB, trivial⟩) ?_
 intro w9 hg
 replace hB := keepB0 hg hB
 refine T.c4 ha rfl (cmv rfl) (fun w ⟨hB, _⟩ _ ha => r_resl (C := (ek).map e8) ha 0 1152 Tryz.runUnderlying22 Tryz.sizeOf5 (hs.below hB) rfl rfl rfl (by omega) (by rw [List.length_map]; exact (by omega))) (cmv rfl) (fun w ⟨hB, _⟩ _ ha => r_resl (C := (ek).map e8) ha 1152 ek.length Tryz.runUnderlying22 Tryz.sizeOf5 (hs.below hB) rfl rfl (show ek.length = _ by rw [List.length_map]) (by omega) (by rw [List.length_map]; exact (by omega))) ?_; intro a ha
 refine T.two ?_ ?_
 ·skip
  refine T.cc ha rfl rfl (r_call ha [en 12, (rsl v 0 1152)] rfl Tryz.call36) rfl rfl rfl (c_unpackR 12 (rsl v 0 1152) (ek.take 1152) _ (by omega) (Sl.castM (Sl.cutM (lo := 0) (hi := 1152) (hs.below hB) (by omega) (by omega)) (cut0 _ _)) (by rw [List.length_take]; omega)) ?_
  rintro e w172 ⟨rfl, hBc⟩
  have hg := grown_call hBc
  replace hB := keepB0 hg hB
  refine ⟨fun _ => ⟨hB, trivial⟩, _, rfl, ?_⟩; intro a ha
  refine T.calloc ha rfl rfl zero_52M4 rfl (fun w hg => ⟨keepB0 hg hB, trivial⟩) ?_
  intro a w173 b174 ha hg hb174 hge174 hlt174
  have hz174 := Nat.le_trans hB.size hge174
  replace hB := keepB0 hg hB
  refine T.cstoreWS ha rfl rfl rfl rfl (one_ei _) Tryz.sizeOf52 (by rw [List.length_map, unR_len _ _ _ (by omega)]) hb174 (by rw [List.length_map, List.length_replicate]) (fun w hg => ⟨keepB1 hg (by omega) hB, trivial⟩) ?_
  intro a w175 ha hg hb174'
  replace hb174 := hb174'
  replace hB := keepB1 hg (by omega) hB
  refine T.c1 ha rfl (cav rfl) ?_; intro a ha
  exact T.cfin (hJ14 _ _ b174 (ha.to [1, 2, 6, 7, 8, 9] rfl) hB hb174 hz174)
 ·skip
  refine T.calloc ha rfl rfl zero_52M4 rfl (fun w hg => ⟨keepB0 hg hB, trivial⟩) ?_
  intro a w176 b177 ha hg hb177 hge177 hlt177
  have hz177 := Nat.le_trans hB.size hge177
  replace hB := keepB0 hg hB
  refine T.cc ha rfl rfl (r_call ha [en 12, (rsl v 0 1152)] rfl Tryz.call36) rfl rfl rfl (c_unpackR 12 (rsl v 0 1152) (ek.take 1152) _ (by omega) (Sl.castM (Sl.cutM (lo := 0) (hi := 1152) (hs.below hB) (by omega) (by omega)) (cut0 _ _)) (by rw [List.length_take]; omega)) ?_
  rintro e w178 ⟨rfl, hBc⟩
  have hg := grown_call hBc
  replace hB := keepB0 hg hB
  replace hb177 := keepO0 hg hb177
  refine ⟨fun _ => ⟨hB, trivial⟩, _, rfl, ?_⟩; intro a ha
  refine T.cstoreWS ha rfl rfl rfl rfl (one_ei _) Tryz.sizeOf52 (by rw [List.length_map, unR_len _ _ _ (by omega)]) hb177 (by rw [List.length_map, List.length_replicate]) (fun w hg => ⟨keepB1 hg (by omega) hB, trivial⟩) ?_
  intro a w179 ha hg hb177'
  replace hb177 := hb177'
  replace hB := keepB1 hg (by omega) hB
  refine T.c1 ha rfl (cav rfl) ?_; intro a ha
  exact T.cfin (hJ14 _ _ b177 (ha.to [1, 2, 6, 7, 8, 9] rfl) hB hb177 hz177)

theorem c_dec1 (v u : Value) (dk c : List UInt8) (w0 : World) (hs : Sl w0 v (dk.map e8)) (hsu : Sl w0 u (c.map e8)) (h1 : dk.length = 1152) (h2 : c.length = 1088) (hG : Glob w0) (hP : GlobP w0) :
    Calls Tryz.prog 15 #[v, u] w0 fun e w' => ∃ u0 : Value, e = .returned (.tuple #[u0, en 0]) ∧ Below w0.heap.size w0 w' ∧ Sl w' u0 ((dec1 dk c).map e8) ∧ (∀ j, u0.ownBlock = some j → w0.heap.size ≤ j) := by
 refine enter (args := [_, _]) Tryz.func15 rfl Tryz.ntmps15 rfl ?_
 intro a ha
 have hB := Below.refl w0.heap.size w0
 refine qr fun K1 k2 => ?_
 refine s2 ha rfl (av rfl) (av rfl) ?_; intro a ha
 refine k2 _ _ ?_
 refine wp_seq_k fun K3 k4 => ?_
 refine qr fun K5 k6 => ?_
 refine s4 ha rfl (mv rfl) (fun _ ha => r_lenS ha Tryz.runUnderlying22 (hs.below hB) rfl (by rw [List.length_map])) (fun _ ha => r_neq ha ((dk.length : Nat) : Int) 1152 false rfl rfl (decide_eq_false (by omega))) (mv rfl) ?_; intro a ha
 refine svg ha (r_move ha rfl) rfl rfl rfl rfl rfl ?_; intro a ha
 refine svg ha (r_lenS ha Tryz.runUnderlying22 (hsu.below hB) rfl (by rw [List.length_map])) rfl rfl rfl rfl rfl ?_; intro a ha
 refine svg ha (r_neq ha ((c.length : Nat) : Int) 1088 false rfl rfl (decide_eq_false (by omega))) rfl rfl rfl rfl rfl ?_; intro a ha
 refine s1 ha rfl (fun _ ha => r_pick ha false rfl rfl) ?_; intro a ha
 refine k6 _ _ ?_
 refine cond_f ha rfl ?_
 refine wp_skip ?_
 refine k4 _ _ ?_
 refine qr fun K7 k8 => ?_
 refine s1 ha rfl (av rfl) ?_; intro a ha
 refine k8 _ _ ?_
 refine qr fun K9 k10 => ?_
 refine s2 ha rfl (mv rfl) (fun _ ha => r_resl (C := (c).map e8) ha 0 960 Tryz.runUnderlying22 Tryz.sizeOf5 (hsu.below hB) rfl rfl rfl (by omega) (by rw [List.length_map]; exact (by omega))) ?_; intro a ha
 refine scp ha (r_call ha [en 10, (rsl u 0 960)] rfl Tryz.call36) rfl rfl rfl (c_unpackR 10 (rsl u 0 960) (c.take 960) _ (by omega) (Sl.castM (Sl.cutM (lo := 0) (hi := 960) (hsu.below hB) (by omega) (by omega)) (cut0 _ _)) (by rw [List.length_take]; omega)) ?_; intro w11 hg a ha
 replace hB := keepB0 hg hB
 refine s1 ha rfl (mv rfl) ?_; intro a ha
 refine scp ha (r_call ha [.agg (((unR 10 (c.take 960) 3)).map ei).toArray, .func (.func 60) #[] #[]] rfl Tryz.call38) rfl rfl rfl (c_eachDr (unR 10 (c.take 960) 3) _ (by rw [unR_len _ _ _ (by omega)]) (glob_keep hG hB) (globP_keep hP hB)) ?_; intro w12 hg a ha
 replace hB := keepB0 hg hB
 refine salloc ha zero_52M4 rfl ?_
 intro a w13 b14 ha hg hb14 hge14 hlt14
 have hz14 := Nat.le_trans hB.size hge14
 replace hB := keepB0 hg hB
 refine sstoreW ha rfl rfl (one_ei _) Tryz.sizeOf52 (by rw [List.length_map, eaR_len _ fsp_len _ (by rw [unR_len _ _ _ (by omega)]) _ (by omega)]) hb14 (by rw [List.length_map, List.length_replicate]) ?_
 intro a w15 ha hg hb14'
 replace hb14 := hb14'
 replace hB := keepB1 hg (by omega) hB
 refine k10 _ _ ?_
 refine qr fun K16 k17 => ?_
 refine s2 ha rfl (mv rfl) (fun _ ha => r_resl (C := (c).map e8) ha 960 c.length Tryz.runUnderlying22 Tryz.sizeOf5 (hsu.below hB) rfl rfl (show c.length = _ by rw [List.length_map]) (by omega) (by rw [List.length_map]; exact (by omega))) ?_; intro a ha
 refine scp ha (r_call ha [en 4, (rsl u 960 c.length)] rfl Tryz.call45) rfl rfl rfl (c_unpack1 4 (rsl u 960 c.length) (c.drop 960) _ (by omega) (Sl.castM (Sl.cutM (lo := 960) (hi := c.length) (hsu.below hB) (by omega) (by omega)) (cutE _ _ _ rfl)) (by rw [List.length_drop]; omega)) ?_; intro w18 hg a ha
 replace hB := keepB0 hg hB
 replace hb14 := keepO0 hg hb14
 refine s3 ha rfl (mv rfl) (fun _ ha => r_extract ha (vs := #[.agg ((unA 4 (c.drop 960) 256).map ei).toArray, en 0]) rfl rfl) (fun _ ha => r_extract ha (vs := #[.agg ((unA 4 (c.drop 960) 256).map ei).toArray, en 0]) rfl rfl) ?_; intro a ha
 refine salloc ha zero_50M4 rfl ?_
 intro a w19 b20 ha hg hb20 hge20 hlt20
 have hz20 := Nat.le_trans hB.size hge20
 have hq14_20 := bl hb14 hge20
 replace hB := keepB0 hg hB
 replace hb14 := keepO0 hg hb14
 refine sstoreW ha rfl rfl (one_ei _) Tryz.sizeOf50 (by rw [List.length_map, unA_len]) hb20 (by rw [List.length_map, List.length_replicate]) ?_
 intro a w21 ha hg hb20'
 replace hb20 := hb20'
 replace hB := keepB1 hg (by omega) hB
 replace hb14 := keepO1 hg (by omega) hb14
 refine s1 ha rfl (av rfl) ?_; intro a ha
 refine k17 _ _ ?_
 refine wp_seq_k fun K22 k23 => ?_
 have hJ33 : ∀ (a : Act) (w33 : World) (b31 : Nat), Has 41 [(10, .pointer (some ⟨b31, 0, none⟩))] a → (Below w0.heap.size w0 w33) → (w33.heap[b14]? = some (.cells ((eaR fsp (unR 10 (c.take 960) 3) 3).map ei).toArray 52 (0, 0))) → (w33.heap[b20]? = some (.cells ((unA 4 (c.drop 960) 256).map ei).toArray 50 (0, 0))) → (w33.heap[b31]? = some (.cells ((mi (spA 4 (unA 4 (c.drop 960) 256) 256) (inv (dotA (unR 12 dk 3) (eaR fsp (unR 10 (c.take 960) 3) 3) 3))).map ei).toArray 50 (0, 0))) → (w0.heap.size ≤ b31) → (b31 ≠ b14) → (b31 ≠ b20) → K22 a w33 := by
  intro a w33 b31 ha hB hb14 hb20 hb31 hzb31 hqb31_b14 hqb31_b20
  refine k23 _ _ ?_
  refine qr fun K34 k35 => ?_
  refine s1 ha rfl (fun _ ha => r_loadR ha rfl Tryz.isAgg50 Tryz.sizeOf50 (C := (mi (spA 4 (unA 4 (c.drop 960) 256) 256) (inv (dotA (unR 12 dk 3) (eaR fsp (unR 10 (c.take 960) 3) 3) 3))).map ei) (by rw [List.length_map, (mi_red _ _ (by rw [spA_len, unA_len])).len]) (cells_all hb31)) ?_; intro a ha
  refine scp ha (r_call ha [ei 1, .agg (((mi (spA 4 (unA 4 (c.drop 960) 256) 256) (inv (dotA (unR 12 dk 3) (eaR fsp (unR 10 (c.take 960) 3) 3) 3)))).map ei).toArray] rfl Tryz.call51) rfl rfl rfl (c_squeeze 1 (mi (spA 4 (unA 4 (c.drop 960) 256) 256) (inv (dotA (unR 12 dk 3) (eaR fsp (unR 10 (c.take 960) 3) 3) 3))) _ (by rw [(mi_red _ _ (by rw [spA_len, unA_len])).len])) ?_; intro w36 hg a ha
  replace hB := keepB0 hg hB
  refine sc ha (r_call ha [en 1, .agg (((sqA 1 (mi (spA 4 (unA 4 (c.drop 960) 256) 256) (inv (dotA (unR 12 dk 3) (eaR fsp (unR 10 (c.take 960) 3) 3) 3))) 256)).map ei).toArray] rfl Tryz.call54) rfl rfl rfl (c_pack1 1 (sqA 1 (mi (spA 4 (unA 4 (c.drop 960) 256) 256) (inv (dotA (unR 12 dk 3) (eaR fsp (unR 10 (c.take 960) 3) 3) 3))) 256) _ (by omega) (by rw [sqA_len, (mi_red _ _ (by rw [spA_len, unA_len])).len])) ?_
  rintro e w37 ⟨u38, rfl, hBc, hs38, hd38⟩
  have hg := grown_call hBc
  replace hd38 : ∀ j, u38.ownBlock = some j → w0.heap.size ≤ j := fun j hj => Nat.le_trans hB.size (hd38 j hj)
  replace hB := keepB0 hg hB
  refine ⟨_, rfl, ?_⟩; intro a ha
  refine s2 ha rfl (av rfl) (av rfl) ?_; intro a ha
  refine k35 _ _ ?_
  refine wp_ret ?_
  exact ret2 ha Tryz.results15 rfl rfl ⟨_, rfl, hB, (Sl.castM (l := paA 1 (sqA 1 (mi (spA 4 (unA 4 (c.drop 960) 256) 256) (inv (dotA (unR 12 dk 3) (eaR fsp (unR 10 (c.take 960) 3) 3) 3))) 256) 256) hs38 rfl), hd38⟩
 refine regionT (S := fun w => Below w0.heap.size w0 w ∧ w.heap[b14]? = some (.cells ((eaR fsp (unR 10 (c.take 960) 3) 3).map ei).toArray 52 (0, 0)) ∧ w.heap[b20]? = some (.cells ((unA 4 (c.drop 960) 256).map ei).toArray 50 (0, 0)) ∧ True) [9] [0, 2, 4] (.op 0 (.op 2 (.op 4 (.two 1 (.two 3 (.two 5 (.two 6 (.two 7 (.op 8 (.op 9 .fin)) 8 (.op 7 (.op 9 .fin))) 8 (.op 6 (.op 7 (.op 9 .fin)))) 8 (.op 5 (.op 6 (.op 7 (.op 9 .fin))))) 8 (.op 3 (.op 5 (.op 6 (.op 7 (.op 9 .fin)))))) 8 (.op 1 (.op 3 (.op 5 (.op 6 (.op 7 (.op 9 .fin)))))))))) mixed (by kernel_rfl) (fun w hg => ⟨keepB0 hg hB, keepO0 hg hb14, keepO0 hg hb20, trivial⟩) ?_
 intro w24 hg
 replace hB := keepB0 hg hB
 replace hb14 := keepO0 hg hb14
 replace hb20 := keepO0 hg hb20
 refine T.c3 ha rfl (fun w ⟨_, _, hb20, _⟩ _ ha => r_loadR ha rfl Tryz.isAgg50 Tryz.sizeOf50 (C := (unA 4 (c.drop 960) 256).map ei) (by rw [List.length_map, unA_len]) (cells_all hb20)) (cmv rfl) (fun w ⟨_, hb14, _⟩ _ ha => r_loadR ha rfl Tryz.isAgg52 Tryz.sizeOf52 (C := (eaR fsp (unR 10 (c.take 960) 3) 3).map ei) (by rw [List.length_map, eaR_len _ fsp_len _ (by rw [unR_len _ _ _ (by omega)]) _ (by omega)]) (cells_all hb14)) ?_; intro a ha
 refine T.two ?_ ?_
 ·skip
  refine T.cc ha rfl rfl (r_call ha [ei 4, .agg (((unA 4 (c.drop 960) 256)).map ei).toArray] rfl Tryz.call49) rfl rfl rfl (c_spread 4 (unA 4 (c.drop 960) 256) _ (by rw [unA_len])) ?_
  rintro e w39 ⟨rfl, hBc⟩
  have hg := grown_call hBc
  replace hB := keepB0 hg hB
  replace hb14 := keepO0 hg hb14
  replace hb20 := keepO0 hg hb20
  refine ⟨fun _ => ⟨hB, hb14, hb20, trivial⟩, _, rfl, ?_⟩; intro a ha
  refine T.two ?_ ?_
  ·skip
   refine T.cc ha rfl rfl (r_call ha [en 12, v] rfl Tryz.call36) rfl rfl rfl (c_unpackR 12 v dk _ (by omega) (hs.below hB) (by omega)) ?_
   rintro e w40 ⟨rfl, hBc⟩
   have hg := grown_call hBc
   replace hB := keepB0 hg hB
   replace hb14 := keepO0 hg hb14
   replace hb20 := keepO0 hg hb20
   refine ⟨fun _ => ⟨hB, hb14, hb20, trivial⟩, _, rfl, ?_⟩; intro a ha
   refine T.two ?_ ?_
   ·skip
    refine T.cc ha rfl rfl (r_call ha [.agg (((unR 12 dk 3)).map ei).toArray, .agg (((eaR fsp (unR 10 (c.take 960) 3) 3)).map ei).toArray] rfl Tryz.call47) rfl rfl rfl (c_dot (unR 12 dk 3) (eaR fsp (unR 10 (c.take 960) 3) 3) _ (by rw [unR_len _ _ _ (by omega)]) (by rw [eaR_len _ fsp_len _ (by rw [unR_len _ _ _ (by omega)]) _ (by omega)]) (glob_keep hG hB) (globP_keep hP hB)) ?_
    rintro e w41 ⟨rfl, hBc⟩
    have hg := grown_call hBc
    replace hB := keepB0 hg hB
    replace hb14 := keepO0 hg hb14
    replace hb20 := keepO0 hg hb20
    refine ⟨fun _ => ⟨hB, hb14, hb20, trivial⟩, _, rfl, ?_⟩; intro a ha
    refine T.two ?_ ?_
    ·skip
     refine T.cc ha rfl rfl (r_call ha [.agg (((dotA (unR 12 dk 3) (eaR fsp (unR 10 (c.take 960) 3) 3) 3)).map ei).toArray] rfl Tryz.call43) rfl rfl rfl (c_inv (dotA (unR 12 dk 3) (eaR fsp (unR 10 (c.take 960) 3) 3) 3) _ (by rw [dotA_len]) (globP_keep hP hB)) ?_
     rintro e w42 ⟨rfl, hBc⟩
     have hg := grown_call hBc
     replace hB := keepB0 hg hB
     replace hb14 := keepO0 hg hb14
     replace hb20 := keepO0 hg hb20
     refine ⟨fun _ => ⟨hB, hb14, hb20, trivial⟩, _, rfl, ?_⟩; intro a ha
     refine T.two ?_ ?_
     ·skip
      refine T.cc ha rfl rfl (r_call ha [.agg (((spA 4 (unA 4 (c.drop 960) 256) 256)).map ei).toArray, .agg (((inv (dotA (unR 12 dk 3) (eaR fsp (unR 10 (c.take 960) 3) 3) 3))).map ei).toArray] rfl Tryz.call61) rfl rfl rfl (c_minus (spA 4 (unA 4 (c.drop 960) 256) 256) (inv (dotA (unR 12 dk 3) (eaR fsp (unR 10 (c.take 960) 3) 3) 3)) _ (by rw [spA_len, unA_len]) (by rw [(inv_red _ (by rw [dotA_len])).len])) ?_
      rintro e w43 ⟨rfl, hBc⟩
      have hg := grown_call hBc
      replace hB := keepB0 hg hB
      replace hb14 := keepO0 hg hb14
      replace hb20 := keepO0 hg hb20
      refine ⟨fun _ => ⟨hB, hb14, hb20, trivial⟩, _, rfl, ?_⟩; intro a ha
      refine T.calloc ha rfl rfl zero_50M4 rfl (fun w hg => ⟨keepB0 hg hB, keepO0 hg hb14, keepO0 hg hb20, trivial⟩) ?_
      intro a w44 b45 ha hg hb45 hge45 hlt45
      have hz45 := Nat.le_trans hB.size hge45
      have hq14_45 := bl hb14 hge45
      have hq20_45 := bl hb20 hge45
      replace hB := keepB0 hg hB
      replace hb14 := keepO0 hg hb14
      replace hb20 := keepO0 hg hb20
      refine T.cstoreW ha rfl rfl rfl rfl (one_ei _) Tryz.sizeOf50 (by rw [List.length_map, (mi_red _ _ (by rw [spA_len, unA_len])).len]) hb45 (by rw [List.length_map, List.length_replicate]) rfl ?_
      intro a w46 ha hg hb45'
      replace hb45 := hb45'
      replace hB := keepB1 hg (by omega) hB
      replace hb14 := keepO1 hg (by omega) hb14
      replace hb20 := keepO1 hg (by omega) hb20
      exact T.cfin (hJ33 _ _ b45 (ha.to [10] rfl) hB hb14 hb20 hb45 hz45 (by omega) (by omega))
     ·skip
      refine T.calloc ha rfl rfl zero_50M4 rfl (fun w hg => ⟨keepB0 hg hB, keepO0 hg hb14, keepO0 hg hb20, trivial⟩) ?_
      intro a w47 b48 ha hg hb48 hge48 hlt48
      have hz48 := Nat.le_trans hB.size hge48
      have hq14_48 := bl hb14 hge48
      have hq20_48 := bl hb20 hge48
      replace hB := keepB0 hg hB
      replace hb14 := keepO0 hg hb14
      replace hb20 := keepO0 hg hb20
      refine T.cc ha rfl rfl (r_call ha [.agg (((spA 4 (unA 4 (c.drop 960) 256) 256)).map ei).toArray, .agg (((inv (dotA (unR 12 dk 3) (eaR fsp (unR 10 (c.take 960) 3) 3) 3))).map ei).toArray] rfl Tryz.call61) rfl rfl rfl (c_minus (spA 4 (unA 4 (c.drop 960) 256) 256) (inv (dotA (unR 12 dk 3) (eaR fsp (unR 10 (c.take 960) 3) 3) 3)) _ (by rw [spA_len, unA_len]) (by rw [(inv_red _ (by rw [dotA_len])).len])) ?_
      rintro e w49 ⟨rfl, hBc⟩
      have hg := grown_call hBc
      replace hB := keepB0 hg hB
      replace hb14 := keepO0 hg hb14
      replace hb20 := keepO0 hg hb20
      replace hb48 := keepO0 hg hb48
      refine ⟨fun _ => ⟨hB, hb14, hb20, trivial⟩, _, rfl, ?_⟩; intro a ha
      refine T.cstoreW ha rfl rfl rfl rfl (one_ei _) Tryz.sizeOf50 (by rw [List.length_map, (mi_red _ _ (by rw [spA_len, unA_len])).len]) hb48 (by rw [List.length_map, List.length_replicate]) rfl ?_
      intro a w50 ha hg hb48'
      replace hb48 := hb48'
      replace hB := keepB1 hg (by omega) hB
      replace hb14 := keepO1 hg (by omega) hb14
      replace hb20 := keepO1 hg (by omega) hb20
      exact T.cfin (hJ33 _ _ b48 (ha.to [10] rfl) hB hb14 hb20 hb48 hz48 (by omega) (by omega))
    ·skip
     refine T.calloc ha rfl rfl zero_50M4 rfl (fun w hg => ⟨keepB0 hg hB, keepO0 hg hb14, keepO0 hg hb20, trivial⟩) ?_
     intro a w51 b52 ha hg hb52 hge52 hlt52
     have hz52 := Nat.le_trans hB.size hge52
     have hq14_52 := bl hb14 hge52
     have hq20_52 := bl hb20 hge52
     replace hB := keepB0 hg hB
     replace hb14 := keepO0 hg hb14
     replace hb20 := keepO0 hg hb20
     refine T.cc ha rfl rfl (r_call ha [.agg (((dotA (unR 12 dk 3) (eaR fsp (unR 10 (c.take 960) 3) 3) 3)).map ei).toArray] rfl Tryz.call43) rfl rfl rfl (c_inv (dotA (unR 12 dk 3) (eaR fsp (unR 10 (c.take 960) 3) 3) 3) _ (by rw [dotA_len]) (globP_keep hP hB)) ?_
     rintro e w53 ⟨rfl, hBc⟩
     have hg := grown_call hBc
     replace hB := keepB0 hg hB
     replace hb14 := keepO0 hg hb14
     replace hb20 := keepO0 hg hb20
     replace hb52 := keepO0 hg hb52
     refine ⟨fun _ => ⟨hB, hb14, hb20, trivial⟩, _, rfl, ?_⟩; intro a ha
     refine T.cc ha rfl rfl (r_call ha [.agg (((spA 4 (unA 4 (c.drop 960) 256) 256)).map ei).toArray, .agg (((inv (dotA (unR 12 dk 3) (eaR fsp (unR 10 (c.take 960) 3) 3) 3))).map ei).toArray] rfl Tryz.call61) rfl rfl rfl (c_minus (spA 4 (unA 4 (c.drop 960) 256) 256) (inv (dotA (unR 12 dk 3) (eaR fsp (unR 10 (c.take 960) 3) 3) 3)) _ (by rw [spA_len, unA_len]) (by rw [(inv_red _ (by rw [dotA_len])).len])) ?_
     rintro e w54 ⟨rfl, hBc⟩
     have hg := grown_call hBc
     replace hB := keepB0 hg hB
     replace hb14 := keepO0 hg hb14
     replace hb20 := keepO0 hg hb20
     replace hb52 := keepO0 hg hb52
     refine ⟨fun _ => ⟨hB, hb14, hb20, trivial⟩, _, rfl, ?_⟩; intro a ha
     refine T.cstoreW ha rfl rfl rfl rfl (one_ei _) Tryz.sizeOf50 (by rw [List.length_map, (mi_red _ _ (by rw [spA_len, unA_len])).len]) hb52 (by rw [List.length_map, List.length_replicate]) rfl ?_
     intro a w55 ha hg hb52'
     replace hb52 := hb52'
     replace hB := keepB1 hg (by omega) hB
     replace hb14 := keepO1 hg (by omega) hb14
     replace hb20 := keepO1 hg (by omega) hb20
     exact T.cfin (hJ33 _ _ b52 (ha.to [10] rfl) hB hb14 hb20 hb52 hz52 (by omega) (by omega))
   ·skip
    refine T.calloc ha rfl rfl zero_50M4 rfl (fun w hg => ⟨keepB0 hg hB, keepO0 hg hb14, keepO0 hg hb20, trivial⟩) ?_
    intro a w56 b57 ha hg hb57 hge57 hlt57
    have hz57 := Nat.le_trans hB.size hge57
    have hq14_57 := bl hb14 hge57
    have hq20_57 := bl hb20 hge57
    replace hB := keepB0 hg hB
    replace hb14 := keepO0 hg hb14
    replace hb20 := keepO0 hg hb20
    refine T.cc ha rfl rfl (r_call ha [.agg (((unR 12 dk 3)).map ei).toArray, .agg (((eaR fsp (unR 10 (c.take 960) 3) 3)).map ei).toArray] rfl Tryz.call47) rfl rfl rfl (c_dot (unR 12 dk 3) (eaR fsp (unR 10 (c.take 960) 3) 3) _ (by rw [unR_len _ _ _ (by omega)]) (by rw [eaR_len _ fsp_len _ (by rw [unR_len _ _ _ (by omega)]) _ (by omega)]) (glob_keep hG hB) (globP_keep hP hB)) ?_
    rintro e w58 ⟨rfl, hBc⟩
    have hg := grown_call hBc
    replace hB := keepB0 hg hB
    replace hb14 := keepO0 hg hb14
    replace hb20 := keepO0 hg hb20
    replace hb57 := keepO0 hg hb57
    refine ⟨fun _ => ⟨hB, hb14, hb20, trivial⟩, _, rfl, ?_⟩; intro a ha
    refine T.cc ha rfl rfl (r_call ha [.agg (((dotA (unR 12 dk 3) (eaR fsp (unR 10 (c.take 960) 3) 3) 3)).map ei).toArray] rfl Tryz.call43) rfl rfl rfl (c_inv (dotA (unR 12 dk 3) (eaR fsp (unR 10 (c.take 960) 3) 3) 3) _ (by rw [dotA_len]) (globP_keep hP hB)) ?_
    rintro e w59 ⟨rfl, hBc⟩
    have hg := grown_call hBc
    replace hB := keepB0 hg hB
    replace hb14 := keepO0 hg hb14
    replace hb20 := keepO0 hg hb20
    replace hb57 := keepO0 hg hb57
    refine ⟨fun _ => ⟨hB, hb14, hb20, trivial⟩, _, rfl, ?_⟩; intro a ha
    refine T.cc ha rfl rfl (r_call ha [.agg (((spA 4 (unA 4 (c.drop 960) 256) 256)).map ei).toArray, .agg (((inv (dotA (unR 12 dk 3) (eaR fsp (unR 10 (c.take 960) 3) 3) 3))).map ei).toArray] rfl Tryz.call61) rfl rfl rfl (c_minus (spA 4 (unA 4 (c.drop 960) 256) 256) (inv (dotA (unR 12 dk 3) (eaR fsp (unR 10 (c.take 960) 3) 3) 3)) _ (by rw [spA_len, unA_len]) (by rw [(inv_red _ (by rw [dotA_len])).len])) ?_
    rintro e w60 ⟨rfl, hBc⟩
    have hg := grown_call hBc
    replace hB := keepB0 hg hB
    replace hb14 := keepO0 hg hb14
    replace hb20 := keepO0 hg hb20
    replace hb57 := keepO0 hg hb57
    refine ⟨fun _ => ⟨hB, hb14, hb20, trivial⟩, _, rfl, ?_⟩; intro a ha
    refine T.cstoreW ha rfl rfl rfl rfl (one_ei _) Tryz.sizeOf50 (by rw [List.length_map, (mi_red _ _ (by rw [spA_len, unA_len])).len]) hb57 (by rw [List.length_map, List.length_replicate]) rfl ?_
    intro a w61 ha hg hb57'
    replace hb57 := hb57'
    replace hB := keepB1 hg (by omega) hB
    replace hb14 := keepO1 hg (by omega) hb14
    replace hb20 := keepO1 hg (by omega) hb20
    exact T.cfin (hJ33 _ _ b57 (ha.to [10] rfl) hB hb14 hb20 hb57 hz57 (by omega) (by omega))
  ·skip
   refine T.calloc ha rfl rfl zero_50M4 rfl (fun w hg => ⟨keepB0 hg hB, keepO0 hg hb14, keepO0 hg hb20, trivial⟩) ?_
   intro a w62 b63 ha hg hb63 hge63 hlt63
   have hz63 := Nat.le_trans hB.size hge63
   have hq14_63 := bl hb14 hge63
   have hq20_63 := bl hb20 hge63
   replace hB := keepB0 hg hB
   replace hb14 := keepO0 hg hb14
   replace hb20 := keepO0 hg hb20
   refine T.cc ha rfl rfl (r_call ha [en 12, v] rfl Tryz.call36) rfl rfl rfl (c_unpackR 12 v dk _ (by omega) (hs.below hB) (by omega)) ?_
   rintro e w64 ⟨rfl, hBc⟩
   have hg := grown_call hBc
   replace hB := keepB0 hg hB
   replace hb14 := keepO0 hg hb14
   replace hb20 := keepO0 hg hb20
   replace hb63 := keepO0 hg hb63
   refine ⟨fun _ => ⟨hB, hb14, hb20, trivial⟩, _, rfl, ?_⟩; intro a ha
   refine T.cc ha rfl rfl (r_call ha [.agg (((unR 12 dk 3)).map ei).toArray, .agg (((eaR fsp (unR 10 (c.take 960) 3) 3)).map ei).toArray] rfl Tryz.call47) rfl rfl rfl (c_dot (unR 12 dk 3) (eaR fsp (unR 10 (c.take 960) 3) 3) _ (by rw [unR_len _ _ _ (by omega)]) (by rw [eaR_len _ fsp_len _ (by rw [unR_len _ _ _ (by omega)]) _ (by omega)]) (glob_keep hG hB) (globP_keep hP hB)) ?_
   rintro e w65 ⟨rfl, hBc⟩
   have hg := grown_call hBc
   replace hB := keepB0 hg hB
   replace hb14 := keepO0 hg hb14
   replace hb20 := keepO0 hg hb20
   replace hb63 := keepO0 hg hb63
   refine ⟨fun _ => ⟨hB, hb14, hb20, trivial⟩, _, rfl, ?_⟩; intro a ha
   refine T.cc ha rfl rfl (r_call ha [.agg (((dotA (unR 12 dk 3) (eaR fsp (unR 10 (c.take 960) 3) 3) 3)).map ei).toArray] rfl Tryz.call43) rfl rfl rfl (c_inv (dotA (unR 12 dk 3) (eaR fsp (unR 10 (c.take 960) 3) 3) 3) _ (by rw [dotA_len]) (globP_keep hP hB)) ?_
   rintro e w66 ⟨rfl, hBc⟩
   have hg := grown_call hBc
   replace hB := keepB0 hg hB
   replace hb14 := keepO0 hg hb14
   replace hb20 := keepO0 hg hb20
   replace hb63 := keepO0 hg hb63
   refine ⟨fun _ => ⟨hB, hb14, hb20, trivial⟩, _, rfl, ?_⟩; intro a ha
   refine T.cc ha rfl rfl (r_call ha [.agg (((spA 4 (unA 4 (c.drop 960) 256) 256)).map ei).toArray, .agg (((inv (dotA (unR 12 dk 3) (eaR fsp (unR 10 (c.take 960) 3) 3) 3))).map ei).toArray] rfl Tryz.call61) rfl rfl rfl (c_minus (spA 4 (unA 4 (c.drop 960) 256) 256) (inv (dotA (unR 12 dk 3) (eaR fsp (unR 10 (c.take 960) 3) 3) 3)) _ (by rw [spA_len, unA_len]) (by rw [(inv_red _ (by rw [dotA_len])).len])) ?_
   rintro e w67 ⟨rfl, hBc⟩
   have hg := grown_call hBc
   replace hB := keepB0 hg hB
   replace hb14 := keepO0 hg hb14
   replace hb20 := keepO0 hg hb20
   replace hb63 := keepO0 hg hb63
   refine ⟨fun _ => ⟨hB, hb14, hb20, trivial⟩, _, rfl, ?_⟩; intro a ha
   refine T.cstoreW ha rfl rfl rfl rfl (one_ei _) Tryz.sizeOf50 (by rw [List.length_map, (mi_red _ _ (by rw [spA_len, unA_len])).len]) hb63 (by rw [List.length_map, List.length_replicate]) rfl ?_
   intro a w68 ha hg hb63'
   replace hb63 := hb63'
   replace hB := keepB1 hg (by omega) hB
   replace hb14 := keepO1 hg (by omega) hb14
   replace hb20 := keepO1 hg (by omega) hb20
   exact T.cfin (hJ33 _ _ b63 (ha.to [10] rfl) hB hb14 hb20 hb63 hz63 (by omega) (by omega))
 ·skip
  refine T.calloc ha rfl rfl zero_50M4 rfl (fun w hg => ⟨keepB0 hg hB, keepO0 hg hb14, keepO0 hg hb20, trivial⟩) ?_
  intro a w69 b70 ha hg hb70 hge70 hlt70
  have hz70 := Nat.le_trans hB.size hge70
  have hq14_70 := bl hb14 hge70
  have hq20_70 := bl hb20 hge70
  replace hB := keepB0 hg hB
  replace hb14 := keepO0 hg hb14
  replace hb20 := keepO0 hg hb20
  refine T.cc ha rfl rfl (r_call ha [ei 4, .agg (((unA 4 (c.drop 960) 256)).map ei).toArray] rfl Tryz.call49) rfl rfl rfl (c_spread 4 (unA 4 (c.drop 960) 256) _ (by rw [unA_len])) ?_
  rintro e w71 ⟨rfl, hBc⟩
  have hg := grown_call hBc
  replace hB := keepB0 hg hB
  replace hb14 := keepO0 hg hb14
  replace hb20 := keepO0 hg hb20
  replace hb70 := keepO0 hg hb70
  refine ⟨fun _ => ⟨hB, hb14, hb20, trivial⟩, _, rfl, ?_⟩; intro a ha
  refine T.cc ha rfl rfl (r_call ha [en 12, v] rfl Tryz.call36) rfl rfl rfl (c_unpackR 12 v dk _ (by omega) (hs.below hB) (by omega)) ?_
  rintro e w72 ⟨rfl, hBc⟩
  have hg := grown_call hBc
  replace hB := keepB0 hg hB
  replace hb14 := keepO0 hg hb14
  replace hb20 := keepO0 hg hb20
  replace hb70 := keepO0 hg hb70
  refine ⟨fun _ => ⟨hB, hb14, hb20, trivial⟩, _, rfl, ?_⟩; intro a ha
  refine T.cc ha rfl rfl (r_call ha [.agg (((unR 12 dk 3)).map ei).toArray, .agg (((eaR fsp (unR 10 (c.take 960) 3) 3)).map ei).toArray] rfl Tryz.call47) rfl rfl rfl (c_dot (unR 12 dk 3) (eaR fsp (unR 10 (c.take 960) 3) 3) _ (by rw [unR_len _ _ _ (by omega)]) (by rw [eaR_len _ fsp_len _ (by rw [unR_len _ _ _ (by omega)]) _ (by omega)]) (glob_keep hG hB) (globP_keep hP hB)) ?_
  rintro e w73 ⟨rfl, hBc⟩
  have hg := grown_call hBc
  replace hB := keepB0 hg hB
  replace hb14 := keepO0 hg hb14
  replace hb20 := keepO0 hg hb20
  replace hb70 := keepO0 hg hb70
  refine ⟨fun _ => ⟨hB, hb14, hb20, trivial⟩, _, rfl, ?_⟩; intro a ha
  refine T.cc ha rfl rfl (r_call ha [.agg (((dotA (unR 12 dk 3) (eaR fsp (unR 10 (c.take 960) 3) 3) 3)).map ei).toArray] rfl Tryz.call43) rfl rfl rfl (c_inv (dotA (unR 12 dk 3) (eaR fsp (unR 10 (c.take 960) 3) 3) 3) _ (by rw [dotA_len]) (globP_keep hP hB)) ?_
  rintro e w74 ⟨rfl, hBc⟩
  have hg := grown_call hBc
  replace hB := keepB0 hg hB
  replace hb14 := keepO0 hg hb14
  replace hb20 := keepO0 hg hb20
  replace hb70 := keepO0 hg hb70
  refine ⟨fun _ => ⟨hB, hb14, hb20, trivial⟩, _, rfl, ?_⟩; intro a ha
  refine T.cc ha rfl rfl (r_call ha [.agg (((spA 4 (unA 4 (c.drop 960) 256) 256)).map ei).toArray, .agg (((inv (dotA (unR 12 dk 3) (eaR fsp (unR 10 (c.take 960) 3) 3) 3))).map ei).toArray] rfl Tryz.call61) rfl rfl rfl (c_minus (spA 4 (unA 4 (c.drop 960) 256) 256) (inv (dotA (unR 12 dk 3) (eaR fsp (unR 10 (c.take 960) 3) 3) 3)) _ (by rw [spA_len, unA_len]) (by rw [(inv_red _ (by rw [dotA_len])).len])) ?_
  rintro e w75 ⟨rfl, hBc⟩
  have hg := grown_call hBc
  replace hB := keepB0 hg hB
  replace hb14 := keepO0 hg hb14
  replace hb20 := keepO0 hg hb20
  replace hb70 := keepO0 hg hb70
  refine ⟨fun _ => ⟨hB, hb14, hb20, trivial⟩, _, rfl, ?_⟩; intro a ha
  refine T.cstoreW ha rfl rfl rfl rfl (one_ei _) Tryz.sizeOf50 (by rw [List.length_map, (mi_red _ _ (by rw [spA_len, unA_len])).len]) hb70 (by rw [List.length_map, List.length_replicate]) rfl ?_
  intro a w76 ha hg hb70'
  replace hb70 := hb70'
  replace hB := keepB1 hg (by omega) hB
  replace hb14 := keepO1 hg (by omega) hb14
  replace hb20 := keepO1 hg (by omega) hb20
  exact T.cfin (hJ33 _ _ b70 (ha.to [10] rfl) hB hb14 hb20 hb70 hz70 (by omega) (by omega))

end Go.Proofs.YtaignhikdfpbbaaGreatDoor

/- WALKS written by gen.py (own program) out of specs. -/
namespace Go.Proofs.YtaignhikdfpbbaaGreatDoor
open Go.RowKit Go.Rx
set_option maxRecDepth 100000
set_option maxHeartbeats 4000000
set_option linter.unusedVariables false
set_option linter.unusedSimpArgs false

theorem c_kec1 (v : Value) (ek : List UInt8) (u : Value) (m : List UInt8) (w0 : World) (hs : Sl w0 v (ek.map e8)) (hsu : Sl w0 u (m.map e8)) (h1 : ek.length = 1184) (h2 : m.length = 32) (hc : ckE ek = 0) (hG : Glob w0) (hP : GlobP w0) :
    Calls Tryz.prog 24 #[v, u] w0 fun e w' => ∃ u0 u1 : Value, e = .returned (.tuple #[u0, u1, en 0]) ∧ Below w0.heap.size w0 w' ∧ Sl w' u0 ((ecK ek m).map e8) ∧ (∀ j, u0.ownBlock = some j → w0.heap.size ≤ j) ∧ Sl w' u1 ((ecC ek m).map e8) ∧ (∀ j, u1.ownBlock = some j → w0.heap.size ≤ j) := by
 refine enter (args := [_, _]) Tryz.func24 rfl Tryz.ntmps24 rfl ?_
 intro a ha
 have hB := Below.refl w0.heap.size w0
 have hor := ckE_or ek
 refine qr fun K1 k2 => ?_
 refine s3 ha rfl (av rfl) (av rfl) (av rfl) ?_; intro a ha
 refine k2 _ _ ?_
 refine qr fun K3 k4 => ?_
 refine s1 ha rfl (mv rfl) ?_; intro a ha
 refine scp ha (r_call ha [v] rfl Tryz.call20) rfl rfl rfl (c_kck v ek _ (hs.below hB)) ?_; intro w5 hg a ha
 replace hB := keepB0 hg hB
 refine s1 ha rfl (av rfl) ?_; intro a ha
 refine k4 _ _ ?_
 refine wp_seq_k fun K6 k7 => ?_
 refine qr fun K8 k9 => ?_
 refine s3 ha rfl (mv rfl) (fun _ ha => r_eql ha ((ckE ek : Nat) : Int) 1 false rfl rfl (decide_eq_false (by omega))) (mv rfl) ?_; intro a ha
 refine svg ha (r_move ha rfl) rfl rfl rfl rfl rfl ?_; intro a ha
 refine svg ha (r_lenS ha Tryz.runUnderlying22 (hsu.below hB) rfl (by rw [List.length_map])) rfl rfl rfl rfl rfl ?_; intro a ha
 refine svg ha (r_neq ha ((m.length : Nat) : Int) 32 false rfl rfl (decide_eq_false (by omega))) rfl rfl rfl rfl rfl ?_; intro a ha
 refine s1 ha rfl (fun _ ha => r_pick ha false rfl rfl) ?_; intro a ha
 refine k9 _ _ ?_
 refine cond_f ha rfl ?_
 refine wp_skip ?_
 refine k7 _ _ ?_
 refine wp_seq_k fun K10 k11 => ?_
 refine qr fun K12 k13 => ?_
 refine s2 ha rfl (mv rfl) (fun _ ha => r_neq ha ((ckE ek : Nat) : Int) 0 false rfl rfl (decide_eq_false (by omega))) ?_; intro a ha
 refine k13 _ _ ?_
 refine cond_f ha rfl ?_
 refine wp_skip ?_
 refine k11 _ _ ?_
 refine qr fun K14 k15 => ?_
 refine s2 ha rfl (mv rfl) (mv rfl) ?_; intro a ha
 refine sc ha (r_call ha [v] rfl Tryz.call64) rfl rfl rfl (c_sum256 v ek _ (hs.below hB) (glob_keep hG hB)) ?_
 rintro e w16 ⟨u17, rfl, hBc, hs17, hd17⟩
 have hg := grown_call hBc
 replace hd17 : ∀ j, u17.ownBlock = some j → w0.heap.size ≤ j := fun j hj => Nat.le_trans hB.size (hd17 j hj)
 replace hB := keepB0 hg hB
 refine ⟨_, rfl, ?_⟩; intro a ha
 refine sbuildS ha [(0, u), (1, u17)] [u, u17] rfl Tryz.runUnderlying96 Tryz.sizeOf22 Tryz.zeroValue22 rfl rfl rfl (fill2 (Sl.one (hsu.below hB)) (Sl.one hs17)) rfl ?_
 intro a w18 b19 ha hg hb19 hge19 hlt19
 have hz19 := Nat.le_trans hB.size hge19
 have hne_hs17_b19 : ∀ j, Value.ownBlock u17 = some j → j ≠ b19 := fun j hj => by have := hs17.lt j hj; omega
 replace hB := keepB0 hg hB
 replace hs17 := keepS0 hg hs17
 refine sc ha (r_call ha [(.slice (some ⟨b19, 0, none⟩) 2 2)] rfl Tryz.call70) rfl rfl rfl (c_halves (.slice (some ⟨b19, 0, none⟩) 2 2) ([u, u17]) ([m, sum256 ek]) _ (Sl.ofBlock (D := [u, u17]) (C := [u, u17]) hb19 rfl (Nat.le_refl _)) (.cons (hsu.below hB) (.cons hs17 .nil)) (by first | omega | (rw [sum256_len]; omega) | (simp only [List.flatten_cons, List.flatten_nil, List.append_nil, List.length_append, sum256_len]; omega)) (show 2 ≤ 1000 by omega) (glob_keep hG hB)) ?_
 rintro e w20 ⟨u21, u22, rfl, hBc, hs21, hd21, hs22, hd22⟩
 have hg := grown_call hBc
 replace hd21 : ∀ j, u21.ownBlock = some j → w0.heap.size ≤ j := fun j hj => Nat.le_trans hB.size (hd21 j hj)
 replace hd22 : ∀ j, u22.ownBlock = some j → w0.heap.size ≤ j := fun j hj => Nat.le_trans hB.size (hd22 j hj)
 replace hB := keepB0 hg hB
 refine ⟨_, rfl, ?_⟩; intro a ha
 refine s5 ha rfl (mv rfl) (fun _ ha => r_extract ha (vs := #[u21, u22]) rfl rfl) (fun _ ha => r_extract ha (vs := #[u21, u22]) rfl rfl) (av rfl) (av rfl) ?_; intro a ha
 refine k15 _ _ ?_
 refine qr fun K23 k24 => ?_
 refine s3 ha rfl (mv rfl) (mv rfl) (mv rfl) ?_; intro a ha
 refine sc ha (r_call ha [v, u, u22] rfl Tryz.call13) rfl rfl rfl (c_enc1 v u u22 ek m (hR ([m, sum256 ek]).flatten) _ (hs.below hB) (hsu.below hB) hs22 (by omega) (by omega) (hR_len _) (glob_keep hG hB) (globP_keep hP hB)) ?_
 rintro e w25 ⟨u26, rfl, hBc, hs26, hd26⟩
 have hg := grown_call hBc
 have hds_hs26_hs21 := nds hd26 (fun j hj => hs21.lt j hj)
 replace hd26 : ∀ j, u26.ownBlock = some j → w0.heap.size ≤ j := fun j hj => Nat.le_trans hB.size (hd26 j hj)
 replace hB := keepB0 hg hB
 replace hs21 := keepS0 hg hs21
 refine ⟨_, rfl, ?_⟩; intro a ha
 refine s5 ha rfl (mv rfl) (fun _ ha => r_extract ha (vs := #[u26, en 0]) rfl rfl) (fun _ ha => r_extract ha (vs := #[u26, en 0]) rfl rfl) (av rfl) (av rfl) ?_; intro a ha
 refine k24 _ _ ?_
 refine qr fun K27 k28 => ?_
 refine s5 ha rfl (mv rfl) (mv rfl) (av rfl) (av rfl) (av rfl) ?_; intro a ha
 refine k28 _ _ ?_
 refine wp_ret ?_
 exact ret3 ha Tryz.results24 rfl rfl rfl ⟨_, _, rfl, hB, (Sl.castM (l := hK ([m, sum256 ek]).flatten) hs21 rfl), hd21, (Sl.castM (l := enc1 ek m (hR ([m, sum256 ek]).flatten)) hs26 rfl), hd26⟩

end Go.Proofs.YtaignhikdfpbbaaGreatDoor

/- WALKS written by gen.py (own program) out of specs. -/
namespace Go.Proofs.YtaignhikdfpbbaaGreatDoor
open Go.RowKit Go.Rx
set_option maxRecDepth 100000
set_option maxHeartbeats 4000000
set_option linter.unusedVariables false
set_option linter.unusedSimpArgs false

theorem c_kdc1 (v : Value) (dk : List UInt8) (u : Value) (c : List UInt8) (w0 : World) (hs : Sl w0 v (dk.map e8)) (hsu : Sl w0 u (c.map e8)) (h1 : dk.length = 2400) (h2 : c.length = 1088) (hc : cpE dk = 0) (hG : Glob w0) (hP : GlobP w0) :
    Calls Tryz.prog 26 #[v, u] w0 fun e w' => ∃ u0 : Value, e = .returned (.tuple #[u0, en 0]) ∧ Below w0.heap.size w0 w' ∧ Sl w' u0 ((deK dk c).map e8) ∧ (∀ j, u0.ownBlock = some j → w0.heap.size ≤ j) := by
 refine enter (args := [_, _]) Tryz.func26 rfl Tryz.ntmps26 rfl ?_
 intro a ha
 have hB := Below.refl w0.heap.size w0
 have hor := cpE_or dk
 refine qr fun K1 k2 => ?_
 refine s2 ha rfl (av rfl) (av rfl) ?_; intro a ha
 refine k2 _ _ ?_
 refine qr fun K3 k4 => ?_
 refine s1 ha rfl (mv rfl) ?_; intro a ha
 refine scp ha (r_call ha [v] rfl Tryz.call21) rfl rfl rfl (c_kcp v dk _ (hs.below hB) (glob_keep hG hB)) ?_; intro w5 hg a ha
 replace hB := keepB0 hg hB
 refine s1 ha rfl (av rfl) ?_; intro a ha
 refine k4 _ _ ?_
 refine wp_seq_k fun K6 k7 => ?_
 refine qr fun K8 k9 => ?_
 refine s3 ha rfl (mv rfl) (fun _ ha => r_eql ha ((cpE dk : Nat) : Int) 1 false rfl rfl (decide_eq_false (by omega))) (mv rfl) ?_; intro a ha
 refine svg ha (r_move ha rfl) rfl rfl rfl rfl rfl ?_; intro a ha
 refine svg ha (r_lenS ha Tryz.runUnderlying22 (hsu.below hB) rfl (by rw [List.length_map])) rfl rfl rfl rfl rfl ?_; intro a ha
 refine svg ha (r_neq ha ((c.length : Nat) : Int) 1088 false rfl rfl (decide_eq_false (by omega))) rfl rfl rfl rfl rfl ?_; intro a ha
 refine s1 ha rfl (fun _ ha => r_pick ha false rfl rfl) ?_; intro a ha
 refine k9 _ _ ?_
 refine cond_f ha rfl ?_
 refine wp_skip ?_
 refine k7 _ _ ?_
 refine wp_seq_k fun K10 k11 => ?_
 refine qr fun K12 k13 => ?_
 refine s2 ha rfl (mv rfl) (fun _ ha => r_neq ha ((cpE dk : Nat) : Int) 0 false rfl rfl (decide_eq_false (by omega))) ?_; intro a ha
 refine k13 _ _ ?_
 refine cond_f ha rfl ?_
 refine wp_skip ?_
 refine k11 _ _ ?_
 refine qr fun K14 k15 => ?_
 refine s1 ha rfl (mv rfl) ?_; intro a ha
 refine scp ha (r_call ha [v] rfl Tryz.call68) rfl rfl rfl (c_priv v dk _ (hs.below hB) (by omega)) ?_; intro w16 hg a ha
 replace hB := keepB0 hg hB
 refine s6 ha rfl (mv rfl) (fun _ ha => r_extract ha (vs := #[rsl3 v 0 1152 1152, rsl3 v 1152 2336 2336, rsl3 v 2336 2368 2368, rsl v 2368 dk.length]) rfl rfl) (fun _ ha => r_extract ha (vs := #[rsl3 v 0 1152 1152, rsl3 v 1152 2336 2336, rsl3 v 2336 2368 2368, rsl v 2368 dk.length]) rfl rfl) (fun _ ha => r_extract ha (vs := #[rsl3 v 0 1152 1152, rsl3 v 1152 2336 2336, rsl3 v 2336 2368 2368, rsl v 2368 dk.length]) rfl rfl) (fun _ ha => r_extract ha (vs := #[rsl3 v 0 1152 1152, rsl3 v 1152 2336 2336, rsl3 v 2336 2368 2368, rsl v 2368 dk.length]) rfl rfl) (av rfl) ?_; intro a ha
 refine s3 ha rfl (av rfl) (av rfl) (av rfl) ?_; intro a ha
 refine k15 _ _ ?_
 refine qr fun K17 k18 => ?_
 refine s2 ha rfl (mv rfl) (mv rfl) ?_; intro a ha
 refine sc ha (r_call ha [(rsl3 v 0 1152 1152), u] rfl Tryz.call15) rfl rfl rfl (c_dec1 (rsl3 v 0 1152 1152) u (sS dk) c _ (Sl.castM (Sl.cut3M (lo := 0) (hi := 1152) (mx := 1152) (hs.below hB) (by omega) (by omega) (by omega)) (cut0 _ _)) (hsu.below hB) (sS_len h1) (by omega) (glob_keep hG hB) (globP_keep hP hB)) ?_
 rintro e w19 ⟨u20, rfl, hBc, hs20, hd20⟩
 have hg := grown_call hBc
 replace hd20 : ∀ j, u20.ownBlock = some j → w0.heap.size ≤ j := fun j hj => Nat.le_trans hB.size (hd20 j hj)
 replace hB := keepB0 hg hB
 refine ⟨_, rfl, ?_⟩; intro a ha
 refine s5 ha rfl (mv rfl) (fun _ ha => r_extract ha (vs := #[u20, en 0]) rfl rfl) (fun _ ha => r_extract ha (vs := #[u20, en 0]) rfl rfl) (av rfl) (av rfl) ?_; intro a ha
 refine k18 _ _ ?_
 refine qr fun K21 k22 => ?_
 refine s2 ha rfl (mv rfl) (mv rfl) ?_; intro a ha
 refine sbuildS ha [(0, u20), (1, rsl3 v 2336 2368 2368)] [u20, rsl3 v 2336 2368 2368] rfl Tryz.runUnderlying96 Tryz.sizeOf22 Tryz.zeroValue22 rfl rfl rfl (fill2 (Sl.one hs20) (Sl.one (Sl.castM (Sl.cut3M (lo := 2336) (hi := 2368) (mx := 2368) (hs.below hB) (by omega) (by omega) (by omega)) rfl))) rfl ?_
 intro a w23 b24 ha hg hb24 hge24 hlt24
 have hz24 := Nat.le_trans hB.size hge24
 have hne_hs20_b24 : ∀ j, Value.ownBlock u20 = some j → j ≠ b24 := fun j hj => by have := hs20.lt j hj; omega
 replace hB := keepB0 hg hB
 replace hs20 := keepS0 hg hs20
 refine sc ha (r_call ha [(.slice (some ⟨b24, 0, none⟩) 2 2)] rfl Tryz.call70) rfl rfl rfl (c_halves (.slice (some ⟨b24, 0, none⟩) 2 2) ([u20, rsl3 v 2336 2368 2368]) ([dec1 (sS dk) c, hS dk]) _ (Sl.ofBlock (D := [u20, rsl3 v 2336 2368 2368]) (C := [u20, rsl3 v 2336 2368 2368]) hb24 rfl (Nat.le_refl _)) (.cons hs20 (.cons (Sl.castM (Sl.cut3M (lo := 2336) (hi := 2368) (mx := 2368) (hs.below hB) (by omega) (by omega) (by omega)) rfl) .nil)) (by first | omega | (omega) | (simp only [List.flatten_cons, List.flatten_nil, List.append_nil, List.length_append, dec1_len, hS_len h1]; omega)) (show 2 ≤ 1000 by omega) (glob_keep hG hB)) ?_
 rintro e w25 ⟨u26, u27, rfl, hBc, hs26, hd26, hs27, hd27⟩
 have hg := grown_call hBc
 have hds_hs26_hs20 := nds hd26 (fun j hj => hs20.lt j hj)
 replace hd26 : ∀ j, u26.ownBlock = some j → w0.heap.size ≤ j := fun j hj => Nat.le_trans hB.size (hd26 j hj)
 have hds_hs27_hs20 := nds hd27 (fun j hj => hs20.lt j hj)
 replace hd27 : ∀ j, u27.ownBlock = some j → w0.heap.size ≤ j := fun j hj => Nat.le_trans hB.size (hd27 j hj)
 replace hB := keepB0 hg hB
 replace hs20 := keepS0 hg hs20
 refine ⟨_, rfl, ?_⟩; intro a ha
 refine s5 ha rfl (mv rfl) (fun _ ha => r_extract ha (vs := #[u26, u27]) rfl rfl) (fun _ ha => r_extract ha (vs := #[u26, u27]) rfl rfl) (av rfl) (av rfl) ?_; intro a ha
 refine k22 _ _ ?_
 refine qr fun K28 k29 => ?_
 refine s3 ha rfl (mv rfl) (mv rfl) (mv rfl) ?_; intro a ha
 refine sc ha (r_call ha [(rsl3 v 1152 2336 2336), u20, u27] rfl Tryz.call13) rfl rfl rfl (c_enc1 (rsl3 v 1152 2336 2336) u20 u27 (ekS dk) (dec1 (sS dk) c) (hR ([dec1 (sS dk) c, hS dk]).flatten) _ (Sl.castM (Sl.cut3M (lo := 1152) (hi := 2336) (mx := 2336) (hs.below hB) (by omega) (by omega) (by omega)) rfl) hs20 hs27 (ekS_len h1) (dec1_len _ _) (hR_len _) (glob_keep hG hB) (globP_keep hP hB)) ?_
 rintro e w30 ⟨u31, rfl, hBc, hs31, hd31⟩
 have hg := grown_call hBc
 have hds_hs31_hs26 := nds hd31 (fun j hj => hs26.lt j hj)
 replace hd31 : ∀ j, u31.ownBlock = some j → w0.heap.size ≤ j := fun j hj => Nat.le_trans hB.size (hd31 j hj)
 replace hB := keepB0 hg hB
 replace hs26 := keepS0 hg hs26
 refine ⟨_, rfl, ?_⟩; intro a ha
 refine s5 ha rfl (mv rfl) (fun _ ha => r_extract ha (vs := #[u31, en 0]) rfl rfl) (fun _ ha => r_extract ha (vs := #[u31, en 0]) rfl rfl) (av rfl) (av rfl) ?_; intro a ha
 refine k29 _ _ ?_
 refine qr fun K32 k33 => ?_
 refine s2 ha rfl (mv rfl) (mv rfl) ?_; intro a ha
 refine sbuildS ha [(0, rsl v 2368 dk.length), (1, u)] [rsl v 2368 dk.length, u] rfl Tryz.runUnderlying96 Tryz.sizeOf22 Tryz.zeroValue22 rfl rfl rfl (fill2 (Sl.one (Sl.castM (Sl.cutM (lo := 2368) (hi := dk.length) (hs.below hB) (by omega) (by omega)) (cutE _ _ _ rfl))) (Sl.one (hsu.below hB))) rfl ?_
 intro a w34 b35 ha hg hb35 hge35 hlt35
 have hz35 := Nat.le_trans hB.size hge35
 have hne_hs26_b35 : ∀ j, Value.ownBlock u26 = some j → j ≠ b35 := fun j hj => by have := hs26.lt j hj; omega
 have hne_hs31_b35 : ∀ j, Value.ownBlock u31 = some j → j ≠ b35 := fun j hj => by have := hs31.lt j hj; omega
 replace hB := keepB0 hg hB
 replace hs26 := keepS0 hg hs26
 replace hs31 := keepS0 hg hs31
 refine sc ha (r_call ha [(.slice (some ⟨b35, 0, none⟩) 2 2)] rfl Tryz.call52) rfl rfl rfl (c_join (.slice (some ⟨b35, 0, none⟩) 2 2) ([rsl v 2368 dk.length, u]) ([zS dk, c]) _ (Sl.ofBlock (D := [rsl v 2368 dk.length, u]) (C := [rsl v 2368 dk.length, u]) hb35 rfl (Nat.le_refl _)) (.cons (Sl.castM (Sl.cutM (lo := 2368) (hi := dk.length) (hs.below hB) (by omega) (by omega)) (cutE _ _ _ rfl)) (.cons (hsu.below hB) .nil)) (by first | omega | (omega) | (simp only [List.flatten_cons, List.flatten_nil, List.append_nil, List.length_append, zS_len h1]; omega)) (show 2 ≤ 1000 by omega)) ?_
 rintro e w36 ⟨u37, rfl, hBc, hs37, hd37⟩
 have hg := grown_call hBc
 have hds_hs37_hs26 := nds hd37 (fun j hj => hs26.lt j hj)
 have hds_hs37_hs31 := nds hd37 (fun j hj => hs31.lt j hj)
 replace hd37 : ∀ j, u37.ownBlock = some j → w0.heap.size ≤ j := fun j hj => Nat.le_trans hB.size (hd37 j hj)
 replace hB := keepB0 hg hB
 replace hs26 := keepS0 hg hs26
 replace hs31 := keepS0 hg hs31
 refine ⟨_, rfl, ?_⟩; intro a ha
 refine sc ha (r_call ha [u37] rfl Tryz.call71) rfl rfl rfl (c_shake256 u37 (([zS dk, c]).flatten) _ hs37 (glob_keep hG hB)) ?_
 rintro e w38 ⟨b39, u39, rfl, hBc, hb39, hge39, hs39, hd39, hnx39⟩
 have hg := grown_call hBc
 have hds_hs39_hs26 := nds hd39 (fun j hj => hs26.lt j hj)
 have hds_hs39_hs31 := nds hd39 (fun j hj => hs31.lt j hj)
 have hz39 := Nat.le_trans hB.size hge39
 have hne_hs26_b39 : ∀ j, Value.ownBlock u26 = some j → j ≠ b39 := fun j hj => by have := hs26.lt j hj; omega
 have hne_hs31_b39 : ∀ j, Value.ownBlock u31 = some j → j ≠ b39 := fun j hj => by have := hs31.lt j hj; omega
 replace hd39 : ∀ j, u39.ownBlock = some j → w0.heap.size ≤ j := fun j hj => Nat.le_trans hB.size (hd39 j hj)
 replace hB := keepB0 hg hB
 replace hs26 := keepS0 hg hs26
 replace hs31 := keepS0 hg hs31
 refine ⟨_, rfl, ?_⟩; intro a ha
 refine sc ha (r_call ha [.pointer (some ⟨b39, 0, none⟩), ei 32] rfl Tryz.call72) rfl rfl rfl (c_read b39 (absR 136 31 noughts (([zS dk, c]).flatten)) 136 u39 (tk (absR 136 31 noughts (([zS dk, c]).flatten)) 136) 32 _ hb39 (by rw [absR_len]) hs39 hnx39 (by omega) (by rw [tk_len _ _ (by omega)]; omega) (by omega) (fun _ hg => glob_keep hG (keepB1 hg (hz39) hB))) ?_
 rintro e w40 ⟨u41, v41, rfl, hg, hb39', hsv41, hov41, ho41, hds_ho41_hsv41⟩
 have hnb_ho41_b39 := nbn (own_row ho41) hb39
 have hds_ho41_hs26 := nds (own_row ho41) (fun j hj => hs26.lt j hj)
 have hds_ho41_hs31 := nds (own_row ho41) (fun j hj => hs31.lt j hj)
 have hds_ho41_hs39 := nds (own_row ho41) (fun j hj => hs39.lt j hj)
 have hnb_hsv41_b39 : ∀ j, v41.ownBlock = some j → j ≠ b39 := fun j hj => (hov41 j hj).elim (fun h => hnx39 j h) (fun h => by have := lt_of_block hb39; omega)
 have hdv41 : ∀ j, v41.ownBlock = some j → w0.heap.size ≤ j := fun j hj => (hov41 j hj).elim (fun h => hd39 j h) (fun h => Nat.le_trans hB.size h)
 replace ho41 := own_base ho41 hB.size
 replace hb39 := hb39'
 replace hB := keepB1 hg (by omega) hB
 replace hs26 := keepS1 hg (ne_of_ap hne_hs26_b39) hs26
 replace hs31 := keepS1 hg (ne_of_ap hne_hs31_b39) hs31
 refine ⟨_, rfl, ?_⟩; intro a ha
 refine s1 ha rfl (av rfl) ?_; intro a ha
 refine k33 _ _ ?_
 refine qr fun K42 k43 => ?_
 refine s1 ha rfl (av rfl) ?_; intro a ha
 refine k43 _ _ ?_
 refine wp_seq_k fun K44 k45 => ?_
 refine qr fun K46 k47 => ?_
 refine s2 ha rfl (mv rfl) (mv rfl) ?_; intro a ha
 refine scp ha (r_call ha [u31, u] rfl Tryz.call67) rfl rfl rfl (c_equal u31 u (enc1 (ekS dk) (dec1 (sS dk) c) (hR ([dec1 (sS dk) c, hS dk]).flatten)) c _ hs31 (hsu.below hB) (by rw [enc1_len]; omega)) ?_; intro w48 hg a ha
 replace hB := keepB0 hg hB
 replace hs26 := keepS0 hg hs26
 replace ho41 := keepW0 hg ho41
 refine k47 _ _ ?_
 refine cond_if ha rfl (fun hc49 => ?_) (fun hc49 => ?_)
 ·skip
  replace hc49 := of_decide_eq_true hc49
  refine region ?_
  refine s1 ha rfl (av rfl) ?_; intro a ha
  refine k45 _ _ ?_
  refine qr fun K50 k51 => ?_
  refine s3 ha rfl (mv rfl) (mv rfl) (mv rfl) ?_; intro a ha
  refine sc ha (r_call ha [en 1, u41, u26] rfl Tryz.call73) rfl rfl rfl (c_sel1 u41 u26 ((xrun 136 (32 : Int).toNat (absR 136 31 noughts (([zS dk, c]).flatten), tk (absR 136 31 noughts (([zS dk, c]).flatten)) 136, [])).2.2) (hK ([dec1 (sS dk) c, hS dk]).flatten) _ (Sl.ofOwns ho41) hs26 (by rw [hK_len]; exact (xr_len _ (absR_len _ _ _) 136 _ (by omega))) (Nat.le_trans (Nat.le_of_eq (xr_len _ (absR_len _ _ _) 136 _ (by omega))) (by decide))) ?_
  rintro e w52 ⟨u53, rfl, hBc, hs53, hd53⟩
  have hg := grown_call hBc
  replace hd53 : ∀ j, u53.ownBlock = some j → w0.heap.size ≤ j := fun j hj => Nat.le_trans hB.size (hd53 j hj)
  replace hB := keepB0 hg hB
  refine ⟨_, rfl, ?_⟩; intro a ha
  refine s2 ha rfl (av rfl) (av rfl) ?_; intro a ha
  refine k51 _ _ ?_
  refine wp_ret ?_
  exact ret2 ha Tryz.results26 rfl rfl ⟨_, rfl, hB, (Sl.castM (l := (hK ([dec1 (sS dk) c, hS dk]).flatten)) hs53 (deK_t hc49)), hd53⟩
 ·skip
  replace hc49 := of_decide_eq_false hc49
  refine wp_skip ?_
  refine k45 _ _ ?_
  refine qr fun K54 k55 => ?_
  refine s3 ha rfl (mv rfl) (mv rfl) (mv rfl) ?_; intro a ha
  refine sc ha (r_call ha [en 0, u41, u26] rfl Tryz.call73) rfl rfl rfl (c_sel0 u41 u26 ((xrun 136 (32 : Int).toNat (absR 136 31 noughts (([zS dk, c]).flatten), tk (absR 136 31 noughts (([zS dk, c]).flatten)) 136, [])).2.2) (hK ([dec1 (sS dk) c, hS dk]).flatten) _ (Sl.ofOwns ho41) hs26 (by rw [hK_len]; exact (xr_len _ (absR_len _ _ _) 136 _ (by omega))) (Nat.le_trans (Nat.le_of_eq (xr_len _ (absR_len _ _ _) 136 _ (by omega))) (by decide))) ?_
  rintro e w56 ⟨u57, rfl, hBc, hs57, hd57⟩
  have hg := grown_call hBc
  replace hd57 : ∀ j, u57.ownBlock = some j → w0.heap.size ≤ j := fun j hj => Nat.le_trans hB.size (hd57 j hj)
  replace hB := keepB0 hg hB
  refine ⟨_, rfl, ?_⟩; intro a ha
  refine s2 ha rfl (av rfl) (av rfl) ?_; intro a ha
  refine k55 _ _ ?_
  refine wp_ret ?_
  exact ret2 ha Tryz.results26 rfl rfl ⟨_, rfl, hB, (Sl.castM (l := ((xrun 136 (32 : Int).toNat (absR 136 31 noughts (([zS dk, c]).flatten), tk (absR 136 31 noughts (([zS dk, c]).flatten)) 136, [])).2.2)) hs57 (deK_f hc49)), hd57⟩

end Go.Proofs.YtaignhikdfpbbaaGreatDoor
