/- WALKS written by gen.py (own program) out of specs. -/
import Derived.Test.YtdhgkfmniebghaaDoorC2
import Derived.Test.YtdhgkfmniebghaaDoorCe
namespace Go.Proofs.YtdhgkfmniebghaaDoor
open Go.RowKit Go.Rx
set_option maxRecDepth 100000
set_option maxHeartbeats 4000000
set_option linter.unusedVariables false
set_option linter.unusedSimpArgs false

theorem c_awake21  (w0 : World) (hG : Glob w0) :
    Calls Tryd.prog 36 #[] w0 fun e w' => e = .returned (.bool true) ∧ Below w0.heap.size w0 w' := by
  refine enter (args := []) Tryd.func36 rfl Tryd.ntmps36 rfl ?_
  intro a ha
  have hB := Below.refl w0.heap.size w0
  refine wp_seq_k fun K1 hK2 => ?_
  refine region ?_
  refine sv ha (r_assign ha rfl) rfl rfl rfl ?_; clear ha a; intro a ha
  refine hK2 _ _ ?_; clear hK2 K1
  refine wp_seq_k fun K3 hK4 => ?_
  refine region ?_
  refine sbuildS ha [(0, .int .u8 1)] (([(1 : UInt8)] : List UInt8).map e8) rfl Tryd.runUnderlying22 Tryd.sizeOf5 Tryd.zeroValue5 rfl rfl rfl rfl rfl ?_
  clear ha a; intro a w5 b6 ha hg hb6 hge6 hlt6
  have hz6 : w0.heap.size ≤ b6 := Nat.le_trans hB.size hge6
  replace hB := keepB0 hg hB
  clear hg hge6 hlt6
  refine sc ha (r_call ha [(.slice (some ⟨b6, 0, none⟩) 1 1), e64 (2 : UInt64), .string (strOf ([104, 101, 114, 101] : List UInt8))] rfl Tryd.call38) rfl rfl rfl (c_make (.slice (some ⟨b6, 0, none⟩) 1 1) ([(1 : UInt8)] : List UInt8) (2 : UInt64) ([104, 101, 114, 101] : List UInt8) _ (Sl.ofBlockM hb6 (by rw [show ([(1 : UInt8)] : List UInt8).length = 1 from rfl]) (Nat.le_refl _)) (by first | omega | (rw [mk_len]; omega) | (rw [sg_len]; omega) | decide) (by first | omega | (rw [mk_len]; omega) | (rw [sg_len]; omega) | decide) (glob_keep hG hB)) ?_
  clear ha a
  rintro e w7 ⟨u8, rfl, hBc, hs8, hd8⟩
  have hg := grown_call hBc; clear hBc
  have hnb_hs8_b6 : ∀ j, u8.ownBlock = some j → j ≠ b6 := fun j hj => by have h1 := hd8 j hj; have h2 := lt_of_block hb6; omega
  replace hd8 : ∀ j, u8.ownBlock = some j → w0.heap.size ≤ j := fun j hj => Nat.le_trans hB.size (hd8 j hj)
  replace hB := keepB0 hg hB
  replace hb6 := keepO0 hg hb6
  clear hg
  refine ⟨_, rfl, ?_⟩; intro a ha
  refine sv ha (r_assign ha rfl) rfl rfl rfl ?_; clear ha a; intro a ha
  refine hK4 _ _ ?_; clear hK4 K3
  refine wp_seq_k fun K9 hK10 => ?_
  refine region ?_
  refine sv ha (r_move ha rfl) rfl rfl rfl ?_; clear ha a; intro a ha
  refine sbuildS ha [(0, .int .u8 112), (1, .int .u8 97), (2, .int .u8 99), (3, .int .u8 107), (4, .int .u8 101), (5, .int .u8 116)] (([(112 : UInt8), (97 : UInt8), (99 : UInt8), (107 : UInt8), (101 : UInt8), (116 : UInt8)] : List UInt8).map e8) rfl Tryd.runUnderlying22 Tryd.sizeOf5 Tryd.zeroValue5 rfl rfl rfl rfl rfl ?_
  clear ha a; intro a w11 b12 ha hg hb12 hge12 hlt12
  have hz12 : w0.heap.size ≤ b12 := Nat.le_trans hB.size hge12
  have hne_hs8_b12 : ∀ j, Value.ownBlock u8 = some j → j ≠ b12 := fun j hj => by have := hs8.lt j hj; omega
  have hq6_12 : b6 < b12 := Nat.lt_of_lt_of_le (lt_of_block hb6) hge12
  replace hB := keepB0 hg hB
  replace hb6 := keepO0 hg hb6
  replace hs8 := keepS0 hg hs8
  clear hg hge12 hlt12
  obtain ⟨w14, hr13, hg, hk13⟩ := r_mark (w := w11) (dst := some 7) (ty := 22) (pos := "law.go:12") (af := #[⟨1, .data⟩]) (g := none) (t := 22) (x := .tmp 6) ha Tryd.underlying22 Tryd.underlying5 rfl hb12
  have hs13 : Sl w14 (.slice (some ⟨b12, 0, none⟩) 6 6) ((([(112 : UInt8), (97 : UInt8), (99 : UInt8), (107 : UInt8), (101 : UInt8), (116 : UInt8)] : List UInt8)).map e8) := Sl.ofBlockM hk13 (by rw [show ([(112 : UInt8), (97 : UInt8), (99 : UInt8), (107 : UInt8), (101 : UInt8), (116 : UInt8)] : List UInt8).length = 6 from rfl]) (Nat.le_refl _)
  have hnb_hs13_b6 : ∀ j, Value.ownBlock (.slice (some ⟨b12, 0, none⟩) 6 6) = some j → j ≠ b6 := fun j hj => by simp only [Value.ownBlock, Option.some.injEq] at hj; omega
  clear hk13 hb12
  replace hB := keepB1 hg (by omega) hB
  replace hb6 := keepO1 hg (by omega) hb6
  replace hs8 := keepS1 hg (ne_of_ap hne_hs8_b12) hs8
  refine sv ha hr13 rfl rfl rfl ?_; clear hr13 ha a; intro a ha; clear hg
  refine sc ha (r_call ha [u8, (Value.slice (some ⟨b12, 0, none⟩) 6 6)] rfl Tryd.call41) rfl rfl rfl (c_sign u8 (mk ([(1 : UInt8)] : List UInt8) (2 : UInt64) ([104, 101, 114, 101] : List UInt8)) (Value.slice (some ⟨b12, 0, none⟩) 6 6) ([(112 : UInt8), (97 : UInt8), (99 : UInt8), (107 : UInt8), (101 : UInt8), (116 : UInt8)] : List UInt8) _ hs8 hs13 (by first | omega | (rw [mk_len]; omega) | (rw [sg_len]; omega) | decide) (glob_keep hG hB)) ?_
  clear ha a
  rintro e w15 ⟨u16, rfl, hBc, hs16, hd16⟩
  have hg := grown_call hBc; clear hBc
  have hnb_hs16_b6 : ∀ j, u16.ownBlock = some j → j ≠ b6 := fun j hj => by have h1 := hd16 j hj; have h2 := lt_of_block hb6; omega
  have hds_hs16_hs8 : ∀ j, u16.ownBlock = some j → u8.ownBlock ≠ some j := fun j h1 h2 => by have h3 := hd16 j h1; have h4 := (fun j hj => hs8.lt j hj) j h2; omega
  have hds_hs16_hs13 : ∀ j, u16.ownBlock = some j → (Value.slice (some ⟨b12, 0, none⟩) 6 6).ownBlock ≠ some j := fun j h1 h2 => by have h3 := hd16 j h1; have h4 := (fun j hj => hs13.lt j hj) j h2; omega
  replace hd16 : ∀ j, u16.ownBlock = some j → w0.heap.size ≤ j := fun j hj => Nat.le_trans hB.size (hd16 j hj)
  replace hB := keepB0 hg hB
  replace hb6 := keepO0 hg hb6
  replace hs8 := keepS0 hg hs8
  replace hs13 := keepS0 hg hs13
  clear hg
  refine ⟨_, rfl, ?_⟩; intro a ha
  refine sv ha (r_assign ha rfl) rfl rfl rfl ?_; clear ha a; intro a ha
  refine hK10 _ _ ?_; clear hK10 K9
  refine wp_seq_k fun K17 hK18 => ?_
  refine region ?_
  refine sc ha (r_call ha [e64 (25 : UInt64), e64 (10 : UInt64)] rfl Tryd.call37) rfl rfl rfl (c_epoch (25 : UInt64) (10 : UInt64) _ ) ?_
  clear ha a
  rintro e w19 ⟨rfl, hBc⟩
  have hg := grown_call hBc; clear hBc
  replace hB := keepB0 hg hB
  replace hb6 := keepO0 hg hb6
  replace hs8 := keepS0 hg hs8
  replace hs13 := keepS0 hg hs13
  replace hs16 := keepS0 hg hs16
  clear hg
  refine ⟨_, rfl, ?_⟩; intro a ha
  refine sv ha (r_eql ha ((epo (25 : UInt64) (10 : UInt64)).toNat : Int) 2 true rfl rfl (decide_eq_true (by rw [aw_ep]; rfl))) rfl rfl rfl ?_; clear ha a; intro a ha
  refine sv ha (r_move ha rfl) rfl rfl rfl ?_; clear ha a; intro a ha
  refine svg ha (r_move ha rfl) rfl rfl rfl rfl rfl ?_; clear ha a; intro a ha
  refine svg ha (r_lenS ha Tryd.runUnderlying22 hs8 rfl (by rw [List.length_map])) rfl rfl rfl rfl rfl ?_; clear ha a; intro a ha
  refine svg ha (r_eql ha ((16 : Nat) : Int) 16 true rfl rfl (decide_eq_true rfl)) rfl rfl rfl rfl rfl ?_; clear ha a; intro a ha
  refine sv ha (r_pick ha true rfl rfl) rfl rfl rfl ?_; clear ha a; intro a ha
  refine sv ha (r_move ha rfl) rfl rfl rfl ?_; clear ha a; intro a ha
  refine svg ha (r_move ha rfl) rfl rfl rfl rfl rfl ?_; clear ha a; intro a ha
  refine svg ha (r_lenS ha Tryd.runUnderlying22 hs16 rfl (by rw [List.length_map])) rfl rfl rfl rfl rfl ?_; clear ha a; intro a ha
  refine svg ha (r_eql ha ((16 : Nat) : Int) 16 true rfl rfl (decide_eq_true rfl)) rfl rfl rfl rfl rfl ?_; clear ha a; intro a ha
  refine sv ha (r_pick ha true rfl rfl) rfl rfl rfl ?_; clear ha a; intro a ha
  refine sv ha (r_move ha rfl) rfl rfl rfl ?_; clear ha a; intro a ha
  obtain ⟨b20, w21, hr20, hg, hb20, hge20, hlt20⟩ := r_buildS (w := w19) (dst := some 22) (ty := 22) (pos := "law.go:13") (af := #[⟨12, .guard⟩]) (g := some (12, true)) (t := 22) (k := 1) (parts := [(0, .const (.int .u8 1))]) ha [(0, .int .u8 1)] (([(1 : UInt8)] : List UInt8).map e8) rfl Tryd.runUnderlying22 Tryd.sizeOf5 Tryd.zeroValue5 rfl rfl rfl rfl
  have hz20 : w0.heap.size ≤ b20 := Nat.le_trans hB.size hge20
  have hne_hs8_b20 : ∀ j, Value.ownBlock u8 = some j → j ≠ b20 := fun j hj => by have := hs8.lt j hj; omega
  have hne_hs13_b20 : ∀ j, Value.ownBlock (Value.slice (some ⟨b12, 0, none⟩) 6 6) = some j → j ≠ b20 := fun j hj => by have := hs13.lt j hj; omega
  have hne_hs16_b20 : ∀ j, Value.ownBlock u16 = some j → j ≠ b20 := fun j hj => by have := hs16.lt j hj; omega
  have hq6_20 : b6 < b20 := Nat.lt_of_lt_of_le (lt_of_block hb6) hge20
  replace hB := keepB0 hg hB
  replace hb6 := keepO0 hg hb6
  replace hs8 := keepS0 hg hs8
  replace hs13 := keepS0 hg hs13
  replace hs16 := keepS0 hg hs16
  refine svg ha hr20 rfl rfl rfl rfl rfl ?_; clear hr20 ha a; intro a ha
  clear hg hge20 hlt20
  obtain ⟨b22, w23, hr22, hg, hb22, hge22, hlt22⟩ := r_buildS (w := w21) (dst := some 23) (ty := 22) (pos := "law.go:13") (af := #[⟨12, .guard⟩]) (g := some (12, true)) (t := 22) (k := 6) (parts := [(0, .const (.int .u8 112)), (1, .const (.int .u8 97)), (2, .const (.int .u8 99)), (3, .const (.int .u8 107)), (4, .const (.int .u8 101)), (5, .const (.int .u8 116))]) ha [(0, .int .u8 112), (1, .int .u8 97), (2, .int .u8 99), (3, .int .u8 107), (4, .int .u8 101), (5, .int .u8 116)] (([(112 : UInt8), (97 : UInt8), (99 : UInt8), (107 : UInt8), (101 : UInt8), (116 : UInt8)] : List UInt8).map e8) rfl Tryd.runUnderlying22 Tryd.sizeOf5 Tryd.zeroValue5 rfl rfl rfl rfl
  have hz22 : w0.heap.size ≤ b22 := Nat.le_trans hB.size hge22
  have hne_hs8_b22 : ∀ j, Value.ownBlock u8 = some j → j ≠ b22 := fun j hj => by have := hs8.lt j hj; omega
  have hne_hs13_b22 : ∀ j, Value.ownBlock (Value.slice (some ⟨b12, 0, none⟩) 6 6) = some j → j ≠ b22 := fun j hj => by have := hs13.lt j hj; omega
  have hne_hs16_b22 : ∀ j, Value.ownBlock u16 = some j → j ≠ b22 := fun j hj => by have := hs16.lt j hj; omega
  have hq6_22 : b6 < b22 := Nat.lt_of_lt_of_le (lt_of_block hb6) hge22
  have hq20_22 : b20 < b22 := Nat.lt_of_lt_of_le (lt_of_block hb20) hge22
  replace hB := keepB0 hg hB
  replace hb6 := keepO0 hg hb6
  replace hb20 := keepO0 hg hb20
  replace hs8 := keepS0 hg hs8
  replace hs13 := keepS0 hg hs13
  replace hs16 := keepS0 hg hs16
  refine svg ha hr22 rfl rfl rfl rfl rfl ?_; clear hr22 ha a; intro a ha
  clear hg hge22 hlt22
  obtain ⟨w25, hr24, hg, hk24⟩ := r_mark (w := w23) (dst := some 24) (ty := 22) (pos := "law.go:13") (af := #[⟨14, .data⟩, ⟨12, .guard⟩]) (g := some (12, true)) (t := 22) (x := .tmp 23) ha Tryd.underlying22 Tryd.underlying5 rfl hb22
  have hs24 : Sl w25 (.slice (some ⟨b22, 0, none⟩) 6 6) ((([(112 : UInt8), (97 : UInt8), (99 : UInt8), (107 : UInt8), (101 : UInt8), (116 : UInt8)] : List UInt8)).map e8) := Sl.ofBlockM hk24 (by rw [show ([(112 : UInt8), (97 : UInt8), (99 : UInt8), (107 : UInt8), (101 : UInt8), (116 : UInt8)] : List UInt8).length = 6 from rfl]) (Nat.le_refl _)
  have hnb_hs24_b6 : ∀ j, Value.ownBlock (.slice (some ⟨b22, 0, none⟩) 6 6) = some j → j ≠ b6 := fun j hj => by simp only [Value.ownBlock, Option.some.injEq] at hj; omega
  have hnb_hs24_b20 : ∀ j, Value.ownBlock (.slice (some ⟨b22, 0, none⟩) 6 6) = some j → j ≠ b20 := fun j hj => by simp only [Value.ownBlock, Option.some.injEq] at hj; omega
  clear hk24 hb22
  replace hB := keepB1 hg (by omega) hB
  replace hb6 := keepO1 hg (by omega) hb6
  replace hb20 := keepO1 hg (by omega) hb20
  replace hs8 := keepS1 hg (ne_of_ap hne_hs8_b22) hs8
  replace hs13 := keepS1 hg (ne_of_ap hne_hs13_b22) hs13
  replace hs16 := keepS1 hg (ne_of_ap hne_hs16_b22) hs16
  refine svg ha hr24 rfl rfl rfl rfl rfl ?_; clear hr24 ha a; intro a ha; clear hg
  refine svg ha (r_move ha rfl) rfl rfl rfl rfl rfl ?_; clear ha a; intro a ha
  refine scg ha (r_call ha [(.slice (some ⟨b20, 0, none⟩) 1 1), e64 (25 : UInt64), e64 (10 : UInt64), .string (strOf ([104, 101, 114, 101] : List UInt8)), (Value.slice (some ⟨b22, 0, none⟩) 6 6), u16] rfl Tryd.call43) rfl rfl rfl rfl rfl (c_valid (.slice (some ⟨b20, 0, none⟩) 1 1) ([(1 : UInt8)] : List UInt8) (25 : UInt64) (10 : UInt64) ([104, 101, 114, 101] : List UInt8) (Value.slice (some ⟨b22, 0, none⟩) 6 6) ([(112 : UInt8), (97 : UInt8), (99 : UInt8), (107 : UInt8), (101 : UInt8), (116 : UInt8)] : List UInt8) u16 (sg (mk ([(1 : UInt8)] : List UInt8) (2 : UInt64) ([104, 101, 114, 101] : List UInt8)) ([(112 : UInt8), (97 : UInt8), (99 : UInt8), (107 : UInt8), (101 : UInt8), (116 : UInt8)] : List UInt8)) _ (Sl.ofBlockM hb20 (by rw [show ([(1 : UInt8)] : List UInt8).length = 1 from rfl]) (Nat.le_refl _)) hs24 hs16 (by first | omega | (rw [mk_len]; omega) | (rw [sg_len]; omega) | decide) (by first | omega | (rw [mk_len]; omega) | (rw [sg_len]; omega) | decide) (by first | omega | (rw [mk_len]; omega) | (rw [sg_len]; omega) | decide) (glob_keep hG hB)) ?_
  clear ha a
  rintro e w26 ⟨rfl, hBc⟩
  have hg := grown_call hBc; clear hBc
  replace hB := keepB0 hg hB
  replace hb6 := keepO0 hg hb6
  replace hb20 := keepO0 hg hb20
  replace hs8 := keepS0 hg hs8
  replace hs13 := keepS0 hg hs13
  replace hs16 := keepS0 hg hs16
  replace hs24 := keepS0 hg hs24
  clear hg
  refine ⟨_, rfl, ?_⟩; intro a ha
  rw [show (cval ([(1 : UInt8)] : List UInt8) (epo (25 : UInt64) (10 : UInt64)) ([104, 101, 114, 101] : List UInt8) ([(112 : UInt8), (97 : UInt8), (99 : UInt8), (107 : UInt8), (101 : UInt8), (116 : UInt8)] : List UInt8) (sg (mk ([(1 : UInt8)] : List UInt8) (2 : UInt64) ([104, 101, 114, 101] : List UInt8)) ([(112 : UInt8), (97 : UInt8), (99 : UInt8), (107 : UInt8), (101 : UInt8), (116 : UInt8)] : List UInt8))) = true from aw_yes'] at ha
  refine sv ha (r_pick ha true rfl rfl) rfl rfl rfl ?_; clear ha a; intro a ha
  refine sv ha (r_move ha rfl) rfl rfl rfl ?_; clear ha a; intro a ha
  obtain ⟨b27, w28, hr27, hg, hb27, hge27, hlt27⟩ := r_buildS (w := w26) (dst := some 29) (ty := 22) (pos := "law.go:13") (af := #[⟨19, .guard⟩]) (g := some (19, true)) (t := 22) (k := 1) (parts := [(0, .const (.int .u8 1))]) ha [(0, .int .u8 1)] (([(1 : UInt8)] : List UInt8).map e8) rfl Tryd.runUnderlying22 Tryd.sizeOf5 Tryd.zeroValue5 rfl rfl rfl rfl
  have hz27 : w0.heap.size ≤ b27 := Nat.le_trans hB.size hge27
  have hne_hs8_b27 : ∀ j, Value.ownBlock u8 = some j → j ≠ b27 := fun j hj => by have := hs8.lt j hj; omega
  have hne_hs13_b27 : ∀ j, Value.ownBlock (Value.slice (some ⟨b12, 0, none⟩) 6 6) = some j → j ≠ b27 := fun j hj => by have := hs13.lt j hj; omega
  have hne_hs16_b27 : ∀ j, Value.ownBlock u16 = some j → j ≠ b27 := fun j hj => by have := hs16.lt j hj; omega
  have hne_hs24_b27 : ∀ j, Value.ownBlock (Value.slice (some ⟨b22, 0, none⟩) 6 6) = some j → j ≠ b27 := fun j hj => by have := hs24.lt j hj; omega
  have hq6_27 : b6 < b27 := Nat.lt_of_lt_of_le (lt_of_block hb6) hge27
  have hq20_27 : b20 < b27 := Nat.lt_of_lt_of_le (lt_of_block hb20) hge27
  replace hB := keepB0 hg hB
  replace hb6 := keepO0 hg hb6
  replace hb20 := keepO0 hg hb20
  replace hs8 := keepS0 hg hs8
  replace hs13 := keepS0 hg hs13
  replace hs16 := keepS0 hg hs16
  replace hs24 := keepS0 hg hs24
  refine svg ha hr27 rfl rfl rfl rfl rfl ?_; clear hr27 ha a; intro a ha
  clear hg hge27 hlt27
  obtain ⟨b29, w30, hr29, hg, hb29, hge29, hlt29⟩ := r_buildS (w := w28) (dst := some 30) (ty := 22) (pos := "law.go:13") (af := #[⟨19, .guard⟩]) (g := some (19, true)) (t := 22) (k := 6) (parts := [(0, .const (.int .u8 112)), (1, .const (.int .u8 97)), (2, .const (.int .u8 99)), (3, .const (.int .u8 107)), (4, .const (.int .u8 101)), (5, .const (.int .u8 116))]) ha [(0, .int .u8 112), (1, .int .u8 97), (2, .int .u8 99), (3, .int .u8 107), (4, .int .u8 101), (5, .int .u8 116)] (([(112 : UInt8), (97 : UInt8), (99 : UInt8), (107 : UInt8), (101 : UInt8), (116 : UInt8)] : List UInt8).map e8) rfl Tryd.runUnderlying22 Tryd.sizeOf5 Tryd.zeroValue5 rfl rfl rfl rfl
  have hz29 : w0.heap.size ≤ b29 := Nat.le_trans hB.size hge29
  have hne_hs8_b29 : ∀ j, Value.ownBlock u8 = some j → j ≠ b29 := fun j hj => by have := hs8.lt j hj; omega
  have hne_hs13_b29 : ∀ j, Value.ownBlock (Value.slice (some ⟨b12, 0, none⟩) 6 6) = some j → j ≠ b29 := fun j hj => by have := hs13.lt j hj; omega
  have hne_hs16_b29 : ∀ j, Value.ownBlock u16 = some j → j ≠ b29 := fun j hj => by have := hs16.lt j hj; omega
  have hne_hs24_b29 : ∀ j, Value.ownBlock (Value.slice (some ⟨b22, 0, none⟩) 6 6) = some j → j ≠ b29 := fun j hj => by have := hs24.lt j hj; omega
  have hq6_29 : b6 < b29 := Nat.lt_of_lt_of_le (lt_of_block hb6) hge29
  have hq20_29 : b20 < b29 := Nat.lt_of_lt_of_le (lt_of_block hb20) hge29
  have hq27_29 : b27 < b29 := Nat.lt_of_lt_of_le (lt_of_block hb27) hge29
  replace hB := keepB0 hg hB
  replace hb6 := keepO0 hg hb6
  replace hb20 := keepO0 hg hb20
  replace hb27 := keepO0 hg hb27
  replace hs8 := keepS0 hg hs8
  replace hs13 := keepS0 hg hs13
  replace hs16 := keepS0 hg hs16
  replace hs24 := keepS0 hg hs24
  refine svg ha hr29 rfl rfl rfl rfl rfl ?_; clear hr29 ha a; intro a ha
  clear hg hge29 hlt29
  obtain ⟨w32, hr31, hg, hk31⟩ := r_mark (w := w30) (dst := some 31) (ty := 22) (pos := "law.go:13") (af := #[⟨21, .data⟩, ⟨19, .guard⟩]) (g := some (19, true)) (t := 22) (x := .tmp 30) ha Tryd.underlying22 Tryd.underlying5 rfl hb29
  have hs31 : Sl w32 (.slice (some ⟨b29, 0, none⟩) 6 6) ((([(112 : UInt8), (97 : UInt8), (99 : UInt8), (107 : UInt8), (101 : UInt8), (116 : UInt8)] : List UInt8)).map e8) := Sl.ofBlockM hk31 (by rw [show ([(112 : UInt8), (97 : UInt8), (99 : UInt8), (107 : UInt8), (101 : UInt8), (116 : UInt8)] : List UInt8).length = 6 from rfl]) (Nat.le_refl _)
  have hnb_hs31_b6 : ∀ j, Value.ownBlock (.slice (some ⟨b29, 0, none⟩) 6 6) = some j → j ≠ b6 := fun j hj => by simp only [Value.ownBlock, Option.some.injEq] at hj; omega
  have hnb_hs31_b20 : ∀ j, Value.ownBlock (.slice (some ⟨b29, 0, none⟩) 6 6) = some j → j ≠ b20 := fun j hj => by simp only [Value.ownBlock, Option.some.injEq] at hj; omega
  have hnb_hs31_b27 : ∀ j, Value.ownBlock (.slice (some ⟨b29, 0, none⟩) 6 6) = some j → j ≠ b27 := fun j hj => by simp only [Value.ownBlock, Option.some.injEq] at hj; omega
  clear hk31 hb29
  replace hB := keepB1 hg (by omega) hB
  replace hb6 := keepO1 hg (by omega) hb6
  replace hb20 := keepO1 hg (by omega) hb20
  replace hb27 := keepO1 hg (by omega) hb27
  replace hs8 := keepS1 hg (ne_of_ap hne_hs8_b29) hs8
  replace hs13 := keepS1 hg (ne_of_ap hne_hs13_b29) hs13
  replace hs16 := keepS1 hg (ne_of_ap hne_hs16_b29) hs16
  replace hs24 := keepS1 hg (ne_of_ap hne_hs24_b29) hs24
  refine svg ha hr31 rfl rfl rfl rfl rfl ?_; clear hr31 ha a; intro a ha; clear hg
  refine svg ha (r_move ha rfl) rfl rfl rfl rfl rfl ?_; clear ha a; intro a ha
  refine scg ha (r_call ha [(.slice (some ⟨b27, 0, none⟩) 1 1), e64 (25 : UInt64), e64 (10 : UInt64), .string (strOf ([116, 104, 101, 114, 101] : List UInt8)), (Value.slice (some ⟨b29, 0, none⟩) 6 6), u16] rfl Tryd.call43) rfl rfl rfl rfl rfl (c_valid (.slice (some ⟨b27, 0, none⟩) 1 1) ([(1 : UInt8)] : List UInt8) (25 : UInt64) (10 : UInt64) ([116, 104, 101, 114, 101] : List UInt8) (Value.slice (some ⟨b29, 0, none⟩) 6 6) ([(112 : UInt8), (97 : UInt8), (99 : UInt8), (107 : UInt8), (101 : UInt8), (116 : UInt8)] : List UInt8) u16 (sg (mk ([(1 : UInt8)] : List UInt8) (2 : UInt64) ([104, 101, 114, 101] : List UInt8)) ([(112 : UInt8), (97 : UInt8), (99 : UInt8), (107 : UInt8), (101 : UInt8), (116 : UInt8)] : List UInt8)) _ (Sl.ofBlockM hb27 (by rw [show ([(1 : UInt8)] : List UInt8).length = 1 from rfl]) (Nat.le_refl _)) hs31 hs16 (by first | omega | (rw [mk_len]; omega) | (rw [sg_len]; omega) | decide) (by first | omega | (rw [mk_len]; omega) | (rw [sg_len]; omega) | decide) (by first | omega | (rw [mk_len]; omega) | (rw [sg_len]; omega) | decide) (glob_keep hG hB)) ?_
  clear ha a
  rintro e w33 ⟨rfl, hBc⟩
  have hg := grown_call hBc; clear hBc
  replace hB := keepB0 hg hB
  replace hb6 := keepO0 hg hb6
  replace hb20 := keepO0 hg hb20
  replace hb27 := keepO0 hg hb27
  replace hs8 := keepS0 hg hs8
  replace hs13 := keepS0 hg hs13
  replace hs16 := keepS0 hg hs16
  replace hs24 := keepS0 hg hs24
  replace hs31 := keepS0 hg hs31
  clear hg
  refine ⟨_, rfl, ?_⟩; intro a ha
  rw [show (cval ([(1 : UInt8)] : List UInt8) (epo (25 : UInt64) (10 : UInt64)) ([116, 104, 101, 114, 101] : List UInt8) ([(112 : UInt8), (97 : UInt8), (99 : UInt8), (107 : UInt8), (101 : UInt8), (116 : UInt8)] : List UInt8) (sg (mk ([(1 : UInt8)] : List UInt8) (2 : UInt64) ([104, 101, 114, 101] : List UInt8)) ([(112 : UInt8), (97 : UInt8), (99 : UInt8), (107 : UInt8), (101 : UInt8), (116 : UInt8)] : List UInt8))) = false from aw_no'] at ha
  refine svg ha (r_not ha false true rfl rfl) rfl rfl rfl rfl rfl ?_; clear ha a; intro a ha
  refine sv ha (r_pick ha true rfl rfl) rfl rfl rfl ?_; clear ha a; intro a ha
  refine sv ha (r_assign ha rfl) rfl rfl rfl ?_; clear ha a; intro a ha
  refine hK18 _ _ ?_; clear hK18 K17
  refine wp_ret ?_
  repeat (first | (with_reducible refine t_ret ?_) | (with_reducible refine x_ret ?_))
  exact ret1 ha Tryd.results36 rfl ⟨rfl, hB⟩
end Go.Proofs.YtdhgkfmniebghaaDoor
