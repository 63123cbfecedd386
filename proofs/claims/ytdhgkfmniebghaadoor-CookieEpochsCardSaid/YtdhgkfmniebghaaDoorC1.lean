/- WALKS written by gen.py (own program) out of specs. -/
import Derived.Test.YtdhgkfmniebghaaDoorH2
import Derived.Test.YtdhgkfmniebghaaDoorRxK
import Derived.Test.YtdhgkfmniebghaaDoorCk
namespace Go.Proofs.YtdhgkfmniebghaaDoor
open Go.RowKit Go.Rx
set_option maxRecDepth 100000
set_option maxHeartbeats 4000000
set_option linter.unusedVariables false
set_option linter.unusedSimpArgs false

theorem c_epoch (now per : UInt64) (w0 : World) :
    Calls Tryd.prog 37 #[e64 now, e64 per] w0 fun e w' => e = .returned (e64 (epo now per)) ∧ Below w0.heap.size w0 w' := by
  refine enter (args := [_, _]) Tryd.func37 rfl Tryd.ntmps37 rfl ?_
  intro a ha
  have hB := Below.refl w0.heap.size w0
  refine wp_seq_k fun K1 hK2 => ?_
  refine region ?_
  refine sv ha (r_assign ha rfl) rfl rfl rfl ?_; clear ha a; intro a ha
  refine hK2 _ _ ?_; clear hK2 K1
  refine wp_seq_k fun K3 hK4 => ?_
  refine region ?_
  refine sv ha (r_move ha rfl) rfl rfl rfl ?_; clear ha a; intro a ha
  refine sv ha (r_move ha rfl) rfl rfl rfl ?_; clear ha a; intro a ha
  refine sv ha (ru_max ha per (1 : UInt64) rfl rfl) rfl rfl rfl ?_; clear ha a; intro a ha
  refine sv ha (ru_quo ha now (umax per (1 : UInt64)) rfl rfl (umax_pos per)) rfl rfl rfl ?_; clear ha a; intro a ha
  refine sv ha (r_assign ha rfl) rfl rfl rfl ?_; clear ha a; intro a ha
  refine hK4 _ _ ?_; clear hK4 K3
  refine wp_ret ?_
  repeat (first | (with_reducible refine t_ret ?_) | (with_reducible refine x_ret ?_))
  exact ret1 ha Tryd.results37 rfl ⟨rfl, hB⟩

theorem c_repoch (now per : UInt64) (w0 : World) :
    Calls Tryd.prog 39 #[e64 now, e64 per] w0 fun e w' => e = .returned (e64 (epo now per)) ∧ Below w0.heap.size w0 w' := by
  refine enter (args := [_, _]) Tryd.func39 rfl Tryd.ntmps39 rfl ?_
  intro a ha
  have hB := Below.refl w0.heap.size w0
  refine wp_seq_k fun K1 hK2 => ?_
  refine region ?_
  refine sv ha (r_assign ha rfl) rfl rfl rfl ?_; clear ha a; intro a ha
  refine hK2 _ _ ?_; clear hK2 K1
  refine wp_seq_k fun K3 hK4 => ?_
  refine wp_seq_k fun K5 hK6 => ?_
  refine region ?_
  refine sv ha (r_move ha rfl) rfl rfl rfl ?_; clear ha a; intro a ha
  refine sv ha (r_eql ha ((per).toNat : Int) (((0 : UInt64)).toNat : Int) (decide (per = (0 : UInt64))) rfl rfl (eql_u64 _ _)) rfl rfl rfl ?_; clear ha a; intro a ha
  refine hK6 _ _ ?_; clear hK6 K5
  refine cond_if ha rfl (fun hc7 => ?_) (fun hc7 => ?_)
  · skip
    replace hc7 := of_decide_eq_true hc7
    refine wp_seq_k fun K8 hK9 => ?_
    refine region ?_
    refine sv ha (r_move ha rfl) rfl rfl rfl ?_; clear ha a; intro a ha
    refine sv ha (r_assign ha rfl) rfl rfl rfl ?_; clear ha a; intro a ha
    refine hK9 _ _ ?_; clear hK9 K8
    refine wp_ret ?_
    repeat (first | (with_reducible refine t_ret ?_) | (with_reducible refine x_ret ?_))
    exact ret1 ha Tryd.results39 rfl ⟨(by first | rw [← epo_z _ _ (by assumption)] | rw [← epo_nz _ _ (by assumption)]), hB⟩
  · skip
    replace hc7 := of_decide_eq_false hc7
    refine wp_skip ?_
    refine hK4 _ _ ?_; clear hK4 K3
    refine wp_seq_k fun K10 hK11 => ?_
    refine region ?_
    refine sv ha (r_move ha rfl) rfl rfl rfl ?_; clear ha a; intro a ha
    refine sv ha (r_move ha rfl) rfl rfl rfl ?_; clear ha a; intro a ha
    refine sv ha (ru_quo ha now per rfl rfl (per_pos per (by assumption))) rfl rfl rfl ?_; clear ha a; intro a ha
    refine sv ha (r_assign ha rfl) rfl rfl rfl ?_; clear ha a; intro a ha
    refine hK11 _ _ ?_; clear hK11 K10
    refine wp_ret ?_
    repeat (first | (with_reducible refine t_ret ?_) | (with_reducible refine x_ret ?_))
    exact ret1 ha Tryd.results39 rfl ⟨(by first | rw [← epo_z _ _ (by assumption)] | rw [← epo_nz _ _ (by assumption)]), hB⟩

theorem c_sign (v : Value) (ck : List UInt8) (u : Value) (s : List UInt8) (w0 : World) (hs : Sl w0 v (ck.map e8)) (hsu : Sl w0 u (s.map e8)) (hb : s.length ≤ 50000) (hG : Glob w0) :
    Calls Tryd.prog 41 #[v, u] w0 fun e w' => ∃ u0 : Value, e = .returned (u0) ∧ Below w0.heap.size w0 w' ∧ Sl w' u0 ((sg ck s).map e8) ∧ (∀ j, u0.ownBlock = some j → w0.heap.size ≤ j) := by
  refine enter (args := [_, _]) Tryd.func41 rfl Tryd.ntmps41 rfl ?_
  intro a ha
  have hB := Below.refl w0.heap.size w0
  refine wp_seq_k fun K1 hK2 => ?_
  refine region ?_
  refine sv ha (r_assign ha rfl) rfl rfl rfl ?_; clear ha a; intro a ha
  refine hK2 _ _ ?_; clear hK2 K1
  refine wp_seq_k fun K3 hK4 => ?_
  refine region ?_
  refine sv ha (r_move ha rfl) rfl rfl rfl ?_; clear ha a; intro a ha
  refine sv ha (r_move ha rfl) rfl rfl rfl ?_; clear ha a; intro a ha
  refine sc ha (r_call ha [v, u] rfl Tryd.call31) rfl rfl rfl (c_mac v ck u s _ (hs.below hB) (hsu.below hB) (by omega) (glob_keep hG hB)) ?_
  clear ha a
  rintro e w5 ⟨u6, rfl, hBc, hs6, hd6⟩
  have hg := grown_call hBc; clear hBc
  replace hd6 : ∀ j, u6.ownBlock = some j → w0.heap.size ≤ j := fun j hj => Nat.le_trans hB.size (hd6 j hj)
  replace hB := keepB0 hg hB
  clear hg
  refine ⟨_, rfl, ?_⟩; intro a ha
  refine sv ha (r_resl3 (C := (mac ck s).map e8) ha 0 16 16 Tryd.runUnderlying22 Tryd.sizeOf5 hs6 rfl rfl rfl rfl (by omega) (by omega) (by rw [List.length_map]; exact (by rw [mac_len]; omega))) rfl rfl rfl ?_; clear ha a; intro a ha
  refine sv ha (r_assign ha rfl) rfl rfl rfl ?_; clear ha a; intro a ha
  refine hK4 _ _ ?_; clear hK4 K3
  refine wp_ret ?_
  repeat (first | (with_reducible refine t_ret ?_) | (with_reducible refine x_ret ?_))
  exact ret1 ha Tryd.results41 rfl ⟨_, rfl, hB, (Sl.castM (l := ((mac ck s).drop 0).take (16 - 0)) (Sl.cut3M (lo := 0) (hi := 16) (mx := 16) hs6 (by omega) (by omega) (by rw [mac_len]; omega)) (sg_cut _ _)), (fun j hj => hd6 j (own_rsl3 _ _ _ j hj))⟩

theorem c_rsign (v : Value) (ck : List UInt8) (u : Value) (s : List UInt8) (w0 : World) (hs : Sl w0 v (ck.map e8)) (hsu : Sl w0 u (s.map e8)) (hb : s.length ≤ 50000) (hk2 : ck.length ≤ 50000) :
    Calls Tryd.prog 42 #[v, u] w0 fun e w' => ∃ u0 : Value, e = .returned (u0) ∧ Below w0.heap.size w0 w' ∧ Sl w' u0 ((sg ck s).map e8) ∧ (∀ j, u0.ownBlock = some j → w0.heap.size ≤ j) := by
  refine enter (args := [_, _]) Tryd.func42 rfl Tryd.ntmps42 rfl ?_
  intro a ha
  have hB := Below.refl w0.heap.size w0
  refine wp_seq_k fun K1 hK2 => ?_
  refine region ?_
  refine sv ha (r_assign ha rfl) rfl rfl rfl ?_; clear ha a; intro a ha
  refine hK2 _ _ ?_; clear hK2 K1
  refine wp_seq_k fun K3 hK4 => ?_
  refine region ?_
  refine sv ha (r_move ha rfl) rfl rfl rfl ?_; clear ha a; intro a ha
  refine sv ha (r_move ha rfl) rfl rfl rfl ?_; clear ha a; intro a ha
  refine sc ha (r_call ha [v, u] rfl Tryd.call32) rfl rfl rfl (c_rmac v ck u s _ (hs.below hB) (hsu.below hB) (by omega) (by omega)) ?_
  clear ha a
  rintro e w5 ⟨u6, rfl, hBc, hs6, hd6⟩
  have hg := grown_call hBc; clear hBc
  replace hd6 : ∀ j, u6.ownBlock = some j → w0.heap.size ≤ j := fun j hj => Nat.le_trans hB.size (hd6 j hj)
  replace hB := keepB0 hg hB
  clear hg
  refine ⟨_, rfl, ?_⟩; intro a ha
  refine sv ha (r_resl (C := (mac ck s).map e8) ha 0 16 Tryd.runUnderlying22 Tryd.sizeOf5 hs6 rfl rfl rfl (by omega) (by rw [List.length_map]; exact (by rw [mac_len]; omega))) rfl rfl rfl ?_; clear ha a; intro a ha
  refine sv ha (r_assign ha rfl) rfl rfl rfl ?_; clear ha a; intro a ha
  refine hK4 _ _ ?_; clear hK4 K3
  refine wp_ret ?_
  repeat (first | (with_reducible refine t_ret ?_) | (with_reducible refine x_ret ?_))
  exact ret1 ha Tryd.results42 rfl ⟨_, rfl, hB, (Sl.castM (l := ((mac ck s).drop 0).take (16 - 0)) (Sl.cutM (lo := 0) (hi := 16) hs6 (by omega) (by rw [mac_len]; omega)) (sg_cut _ _)), (fun j hj => hd6 j (own_rsl _ _ j hj))⟩

theorem c_make (v : Value) (secret : List UInt8) (ep : UInt64) (src : List UInt8) (w0 : World) (hs : Sl w0 v (secret.map e8)) (hk2 : secret.length ≤ 50000) (hls : src.length ≤ 50000) (hG : Glob w0) :
    Calls Tryd.prog 38 #[v, e64 ep, .string (strOf src)] w0 fun e w' => ∃ u0 : Value, e = .returned (u0) ∧ Below w0.heap.size w0 w' ∧ Sl w' u0 ((mk secret ep src).map e8) ∧ (∀ j, u0.ownBlock = some j → w0.heap.size ≤ j) := by
  refine enter (args := [_, _, _]) Tryd.func38 rfl Tryd.ntmps38 rfl ?_
  intro a ha
  have hB := Below.refl w0.heap.size w0
  refine wp_seq_k fun K1 hK2 => ?_
  refine region ?_
  refine sv ha (r_assign ha rfl) rfl rfl rfl ?_; clear ha a; intro a ha
  refine hK2 _ _ ?_; clear hK2 K1
  refine wp_seq_k fun K3 hK4 => ?_
  refine region ?_
  refine sv ha (r_move ha rfl) rfl rfl rfl ?_; clear ha a; intro a ha
  refine sv ha (r_move ha rfl) rfl rfl rfl ?_; clear ha a; intro a ha
  refine sc ha (r_call ha [e64 ep, en 8] rfl Tryd.call55) rfl rfl rfl (c_store ep _ ) ?_
  clear ha a
  rintro e w5 ⟨b6, rfl, hBc, hb6, hge6⟩
  have hg := grown_call hBc; clear hBc
  have hz6 : w0.heap.size ≤ b6 := Nat.le_trans hB.size hge6
  replace hB := keepB0 hg hB
  clear hg hge6
  refine ⟨_, rfl, ?_⟩; intro a ha
  refine sc ha (r_call ha [v, (.slice (some ⟨b6, 0, none⟩) 8 8)] rfl Tryd.call31) rfl rfl rfl (c_mac v secret (.slice (some ⟨b6, 0, none⟩) 8 8) (st8 ep) _ (hs.below hB) (Sl.ofBlockM hb6 (by rw [st8_len]) (Nat.le_refl _)) (by first | omega | (rw [st8_len]; omega)) (glob_keep hG hB)) ?_
  clear ha a
  rintro e w7 ⟨u8, rfl, hBc, hs8, hd8⟩
  have hg := grown_call hBc; clear hBc
  have hnb_hs8_b6 : ∀ j, u8.ownBlock = some j → j ≠ b6 := fun j hj => by have h1 := hd8 j hj; have h2 := lt_of_block hb6; omega
  replace hd8 : ∀ j, u8.ownBlock = some j → w0.heap.size ≤ j := fun j hj => Nat.le_trans hB.size (hd8 j hj)
  replace hB := keepB0 hg hB
  replace hb6 := keepO0 hg hb6
  clear hg
  refine ⟨_, rfl, ?_⟩; intro a ha
  refine sv ha (r_move ha rfl) rfl rfl rfl ?_; clear ha a; intro a ha
  refine sconvB ha Tryd.underlying9 Tryd.underlying22 Tryd.underlying5 rfl rfl ?_
  clear ha a; intro a w10 u9 ha hg hs9 hd9
  have hnb_hs9_b6 : ∀ j, u9.ownBlock = some j → j ≠ b6 := fun j hj => by have h1 := hd9 j hj; have h2 := lt_of_block hb6; omega
  have hds_hs9_hs8 : ∀ j, u9.ownBlock = some j → u8.ownBlock ≠ some j := fun j h1 h2 => by have h3 := hd9 j h1; have h4 := (fun j hj => hs8.lt j hj) j h2; omega
  have hd9 : ∀ j, u9.ownBlock = some j → w0.heap.size ≤ j := fun j hj => Nat.le_trans hB.size (hd9 j hj)
  replace hB := keepB0 hg hB
  replace hb6 := keepO0 hg hb6
  replace hs8 := keepS0 hg hs8
  clear hg
  refine sc ha (r_call ha [u8, u9] rfl Tryd.call41) rfl rfl rfl (c_sign u8 (mac secret (st8 ep)) u9 src _ hs8 hs9 (by first | omega | (rw [st8_len]; omega)) (glob_keep hG hB)) ?_
  clear ha a
  rintro e w11 ⟨u12, rfl, hBc, hs12, hd12⟩
  have hg := grown_call hBc; clear hBc
  have hnb_hs12_b6 : ∀ j, u12.ownBlock = some j → j ≠ b6 := fun j hj => by have h1 := hd12 j hj; have h2 := lt_of_block hb6; omega
  have hds_hs12_hs8 : ∀ j, u12.ownBlock = some j → u8.ownBlock ≠ some j := fun j h1 h2 => by have h3 := hd12 j h1; have h4 := (fun j hj => hs8.lt j hj) j h2; omega
  have hds_hs12_hs9 : ∀ j, u12.ownBlock = some j → u9.ownBlock ≠ some j := fun j h1 h2 => by have h3 := hd12 j h1; have h4 := (fun j hj => hs9.lt j hj) j h2; omega
  replace hd12 : ∀ j, u12.ownBlock = some j → w0.heap.size ≤ j := fun j hj => Nat.le_trans hB.size (hd12 j hj)
  replace hB := keepB0 hg hB
  replace hb6 := keepO0 hg hb6
  replace hs8 := keepS0 hg hs8
  replace hs9 := keepS0 hg hs9
  clear hg
  refine ⟨_, rfl, ?_⟩; intro a ha
  refine sv ha (r_assign ha rfl) rfl rfl rfl ?_; clear ha a; intro a ha
  refine hK4 _ _ ?_; clear hK4 K3
  refine wp_ret ?_
  repeat (first | (with_reducible refine t_ret ?_) | (with_reducible refine x_ret ?_))
  exact ret1 ha Tryd.results38 rfl ⟨_, rfl, hB, (Sl.castM (l := sg (mac secret (st8 ep)) src) hs12 rfl), hd12⟩

theorem c_rmake (v : Value) (secret : List UInt8) (ep : UInt64) (src : List UInt8) (w0 : World) (hs : Sl w0 v (secret.map e8)) (hk2 : secret.length ≤ 50000) (hls : src.length ≤ 50000) :
    Calls Tryd.prog 40 #[v, e64 ep, .string (strOf src)] w0 fun e w' => ∃ u0 : Value, e = .returned (u0) ∧ Below w0.heap.size w0 w' ∧ Sl w' u0 ((mk secret ep src).map e8) ∧ (∀ j, u0.ownBlock = some j → w0.heap.size ≤ j) := by
  refine enter (args := [_, _, _]) Tryd.func40 rfl Tryd.ntmps40 rfl ?_
  intro a ha
  have hB := Below.refl w0.heap.size w0
  refine wp_seq_k fun K1 hK2 => ?_
  refine region ?_
  refine sv ha (r_assign ha rfl) rfl rfl rfl ?_; clear ha a; intro a ha
  refine hK2 _ _ ?_; clear hK2 K1
  refine wp_seq_k fun K3 hK4 => ?_
  refine region ?_
  refine sv ha (r_move ha rfl) rfl rfl rfl ?_; clear ha a; intro a ha
  refine sv ha (r_move ha rfl) rfl rfl rfl ?_; clear ha a; intro a ha
  refine sc ha (r_call ha [e64 ep, en 8] rfl Tryd.call56) rfl rfl rfl (c_rstore ep _ ) ?_
  clear ha a
  rintro e w5 ⟨u6, rfl, hBc, hs6, hd6⟩
  have hg := grown_call hBc; clear hBc
  replace hd6 : ∀ j, u6.ownBlock = some j → w0.heap.size ≤ j := fun j hj => Nat.le_trans hB.size (hd6 j hj)
  replace hB := keepB0 hg hB
  clear hg
  refine ⟨_, rfl, ?_⟩; intro a ha
  refine sc ha (r_call ha [v, u6] rfl Tryd.call32) rfl rfl rfl (c_rmac v secret u6 (rs8 ep) _ (hs.below hB) hs6 (by first | omega | (rw [rs8_len]; omega)) (by first | omega | (rw [mac_len]; omega))) ?_
  clear ha a
  rintro e w7 ⟨u8, rfl, hBc, hs8, hd8⟩
  have hg := grown_call hBc; clear hBc
  have hds_hs8_hs6 : ∀ j, u8.ownBlock = some j → u6.ownBlock ≠ some j := fun j h1 h2 => by have h3 := hd8 j h1; have h4 := (fun j hj => hs6.lt j hj) j h2; omega
  replace hd8 : ∀ j, u8.ownBlock = some j → w0.heap.size ≤ j := fun j hj => Nat.le_trans hB.size (hd8 j hj)
  replace hB := keepB0 hg hB
  replace hs6 := keepS0 hg hs6
  clear hg
  refine ⟨_, rfl, ?_⟩; intro a ha
  refine sv ha (r_move ha rfl) rfl rfl rfl ?_; clear ha a; intro a ha
  refine sconvB ha Tryd.underlying9 Tryd.underlying22 Tryd.underlying5 rfl rfl ?_
  clear ha a; intro a w10 u9 ha hg hs9 hd9
  have hds_hs9_hs6 : ∀ j, u9.ownBlock = some j → u6.ownBlock ≠ some j := fun j h1 h2 => by have h3 := hd9 j h1; have h4 := (fun j hj => hs6.lt j hj) j h2; omega
  have hds_hs9_hs8 : ∀ j, u9.ownBlock = some j → u8.ownBlock ≠ some j := fun j h1 h2 => by have h3 := hd9 j h1; have h4 := (fun j hj => hs8.lt j hj) j h2; omega
  have hd9 : ∀ j, u9.ownBlock = some j → w0.heap.size ≤ j := fun j hj => Nat.le_trans hB.size (hd9 j hj)
  replace hB := keepB0 hg hB
  replace hs6 := keepS0 hg hs6
  replace hs8 := keepS0 hg hs8
  clear hg
  refine sc ha (r_call ha [u8, u9] rfl Tryd.call32) rfl rfl rfl (c_rmac u8 (mac secret (rs8 ep)) u9 src _ hs8 hs9 (by first | omega | (rw [rs8_len]; omega)) (by first | omega | (rw [mac_len]; omega))) ?_
  clear ha a
  rintro e w11 ⟨u12, rfl, hBc, hs12, hd12⟩
  have hg := grown_call hBc; clear hBc
  have hds_hs12_hs6 : ∀ j, u12.ownBlock = some j → u6.ownBlock ≠ some j := fun j h1 h2 => by have h3 := hd12 j h1; have h4 := (fun j hj => hs6.lt j hj) j h2; omega
  have hds_hs12_hs8 : ∀ j, u12.ownBlock = some j → u8.ownBlock ≠ some j := fun j h1 h2 => by have h3 := hd12 j h1; have h4 := (fun j hj => hs8.lt j hj) j h2; omega
  have hds_hs12_hs9 : ∀ j, u12.ownBlock = some j → u9.ownBlock ≠ some j := fun j h1 h2 => by have h3 := hd12 j h1; have h4 := (fun j hj => hs9.lt j hj) j h2; omega
  replace hd12 : ∀ j, u12.ownBlock = some j → w0.heap.size ≤ j := fun j hj => Nat.le_trans hB.size (hd12 j hj)
  replace hB := keepB0 hg hB
  replace hs6 := keepS0 hg hs6
  replace hs8 := keepS0 hg hs8
  replace hs9 := keepS0 hg hs9
  clear hg
  refine ⟨_, rfl, ?_⟩; intro a ha
  refine sv ha (r_resl (C := (mac (mac secret (rs8 ep)) src).map e8) ha 0 16 Tryd.runUnderlying22 Tryd.sizeOf5 hs12 rfl rfl rfl (by omega) (by rw [List.length_map]; exact (by rw [mac_len]; omega))) rfl rfl rfl ?_; clear ha a; intro a ha
  refine sv ha (r_assign ha rfl) rfl rfl rfl ?_; clear ha a; intro a ha
  refine hK4 _ _ ?_; clear hK4 K3
  refine wp_ret ?_
  repeat (first | (with_reducible refine t_ret ?_) | (with_reducible refine x_ret ?_))
  exact ret1 ha Tryd.results40 rfl ⟨_, rfl, hB, (Sl.castM (l := ((mac (mac secret (rs8 ep)) src).drop 0).take (16 - 0)) (Sl.cutM (lo := 0) (hi := 16) hs12 (by omega) (by rw [mac_len]; omega)) (by rw [rs8_eq, mk]; exact sg_cut _ _)), (fun j hj => hd12 j (own_rsl _ _ j hj))⟩
end Go.Proofs.YtdhgkfmniebghaaDoor
