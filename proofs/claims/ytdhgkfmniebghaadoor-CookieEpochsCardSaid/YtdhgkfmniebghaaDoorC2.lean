/- WALKS written by gen.py (own program) out of specs. -/
import Derived.Test.YtdhgkfmniebghaaDoorC1
namespace Go.Proofs.YtdhgkfmniebghaaDoor
open Go.RowKit Go.Rx
set_option maxRecDepth 100000
set_option maxHeartbeats 4000000
set_option linter.unusedVariables false
set_option linter.unusedSimpArgs false

theorem c_valid (v : Value) (secret : List UInt8) (now per : UInt64) (src : List UInt8) (u : Value) (signed : List UInt8) (x : Value) (m : List UInt8) (w0 : World) (hs : Sl w0 v (secret.map e8)) (hsu : Sl w0 u (signed.map e8)) (hsx : Sl w0 x (m.map e8)) (hk2 : secret.length ≤ 50000) (hls : src.length ≤ 50000) (hlg : signed.length ≤ 50000) (hG : Glob w0) :
    Calls Tryd.prog 43 #[v, e64 now, e64 per, .string (strOf src), u, x] w0 fun e w' => e = .returned (.bool (cval secret (epo now per) src signed m)) ∧ Below w0.heap.size w0 w' := by
  refine enter (args := [_, _, _, _, _, _]) Tryd.func43 rfl Tryd.ntmps43 rfl ?_
  intro a ha
  have hB := Below.refl w0.heap.size w0
  refine wp_seq_k fun K1 hK2 => ?_
  refine region ?_
  refine sv ha (r_assign ha rfl) rfl rfl rfl ?_; clear ha a; intro a ha
  refine hK2 _ _ ?_; clear hK2 K1
  refine wp_seq_k fun K3 hK4 => ?_
  refine region ?_
  refine sv ha (r_move ha rfl) rfl rfl rfl ?_; clear ha a; intro a ha
  refine sv ha (r_move ha rfl) rfl rfl rfl ?_; clear ha a; intro a ha
  refine sc ha (r_call ha [e64 now, e64 per] rfl Tryd.call37) rfl rfl rfl (c_epoch now per _ ) ?_
  clear ha a
  rintro e w5 ⟨rfl, hBc⟩
  have hg := grown_call hBc; clear hBc
  replace hB := keepB0 hg hB
  clear hg
  refine ⟨_, rfl, ?_⟩; intro a ha
  refine sv ha (r_assign ha rfl) rfl rfl rfl ?_; clear ha a; intro a ha
  refine hK4 _ _ ?_; clear hK4 K3
  refine wp_seq_k fun K6 hK7 => ?_
  refine region ?_
  refine sv ha (r_assign ha rfl) rfl rfl rfl ?_; clear ha a; intro a ha
  refine hK7 _ _ ?_; clear hK7 K6
  refine wp_seq_k fun K8 hK9 => ?_
  refine wp_seq_k fun K10 hK11 => ?_
  refine region ?_
  refine sv ha (r_move ha rfl) rfl rfl rfl ?_; clear ha a; intro a ha
  refine sv ha (ru_min ha (epo now per) (1 : UInt64) rfl rfl) rfl rfl rfl ?_; clear ha a; intro a ha
  refine sv ha (ru_add ha (umin (epo now per) (1 : UInt64)) (1 : UInt64) rfl rfl) rfl rfl rfl ?_; clear ha a; intro a ha
  refine sv ha (r_move ha rfl) rfl rfl rfl ?_; clear ha a; intro a ha
  refine hK11 _ _ ?_; clear hK11 K10
  refine wp_block ?_
  refine loopG (fun (k : Nat) a w => (k ≤ (umin (epo now per) 1 + 1).toNat) ∧ Has 40 [(0, v), (1, e64 now), (2, e64 per), (3, .string (strOf src)), (4, u), (5, x), (12, .bool false), (16, e64 now), (17, e64 per), (18, e64 (epo now per)), (13, e64 (epo now per)), (19, e64 (epo now per)), (20, e64 (umin (epo now per) (1 : UInt64))), (21, e64 ((umin (epo now per) (1 : UInt64)) + (1 : UInt64))), (22, e64 (UInt64.ofNat k)), (14, .bool (cvA secret (epo now per) src signed m k))] a ∧ Below w0.heap.size w0 w) (fun k => (umin (epo now per) 1 + 1).toNat - k) 0 ⟨(by omega), ha.to [0, 1, 2, 3, 4, 5, 12, 16, 17, 18, 13, 19, 20, 21, 22, 14] rfl, hB⟩ ?_
  clear ha a hB
  intro k a w12 ⟨hkk, ha, hB⟩
  have hN := umin_nat (epo now per)
  have hkv : (UInt64.ofNat k).toNat = k := by rw [UInt64.toNat_ofNat']; omega
  refine wp_seq_k fun K13 hK14 => ?_
  refine region ?_
  refine sv ha (r_lss ha ((UInt64.ofNat k).toNat : Int) (((umin (epo now per) (1 : UInt64)) + (1 : UInt64)).toNat : Int) (decide (((UInt64.ofNat k).toNat : Int) < (((umin (epo now per) (1 : UInt64)) + (1 : UInt64)).toNat : Int))) rfl rfl (decide_eq_decide.2 (by omega))) rfl rfl rfl ?_; clear ha a; intro a ha
  refine hK14 _ _ ?_; clear hK14 K13
  refine wp_seq_k fun K15 hK16 => ?_
  refine cond_if ha rfl (fun hc17 => ?_) (fun hc17 => ?_)
  · skip
    replace hc17 := of_decide_eq_true hc17
    refine wp_skip ?_
    refine hK16 _ _ ?_; clear hK16 K15
    refine wp_seq_k fun K18 hK19 => ?_
    refine wp_block ?_
    refine wp_seq_k fun K20 hK21 => ?_
    refine region ?_
    refine sv ha (r_move ha rfl) rfl rfl rfl ?_; clear ha a; intro a ha
    refine sv ha (r_assign ha rfl) rfl rfl rfl ?_; clear ha a; intro a ha
    refine hK21 _ _ ?_; clear hK21 K20
    refine region ?_
    refine sv ha (r_move ha rfl) rfl rfl rfl ?_; clear ha a; intro a ha
    refine sv ha (r_move ha rfl) rfl rfl rfl ?_; clear ha a; intro a ha
    refine sv ha (r_move ha rfl) rfl rfl rfl ?_; clear ha a; intro a ha
    refine sv ha (ru_sub ha (epo now per) (UInt64.ofNat k) rfl rfl) rfl rfl rfl ?_; clear ha a; intro a ha
    refine sv ha (r_move ha rfl) rfl rfl rfl ?_; clear ha a; intro a ha
    refine sc ha (r_call ha [v, e64 ((epo now per) - (UInt64.ofNat k)), .string (strOf src)] rfl Tryd.call38) rfl rfl rfl (c_make v secret ((epo now per) - (UInt64.ofNat k)) src _ (hs.below hB) (by omega) (by omega) (glob_keep hG hB)) ?_
    clear ha a
    rintro e w22 ⟨u23, rfl, hBc, hs23, hd23⟩
    have hg := grown_call hBc; clear hBc
    replace hd23 : ∀ j, u23.ownBlock = some j → w0.heap.size ≤ j := fun j hj => Nat.le_trans hB.size (hd23 j hj)
    replace hB := keepB0 hg hB
    clear hg
    refine ⟨_, rfl, ?_⟩; intro a ha
    refine sv ha (r_move ha rfl) rfl rfl rfl ?_; clear ha a; intro a ha
    refine sc ha (r_call ha [u23, u] rfl Tryd.call41) rfl rfl rfl (c_sign u23 (mk secret ((epo now per) - (UInt64.ofNat k)) src) u signed _ hs23 (hsu.below hB) (by first | omega | (rw [sg_len]; omega)) (glob_keep hG hB)) ?_
    clear ha a
    rintro e w24 ⟨u25, rfl, hBc, hs25, hd25⟩
    have hg := grown_call hBc; clear hBc
    have hds_hs25_hs23 : ∀ j, u25.ownBlock = some j → u23.ownBlock ≠ some j := fun j h1 h2 => by have h3 := hd25 j h1; have h4 := (fun j hj => hs23.lt j hj) j h2; omega
    replace hd25 : ∀ j, u25.ownBlock = some j → w0.heap.size ≤ j := fun j hj => Nat.le_trans hB.size (hd25 j hj)
    replace hB := keepB0 hg hB
    replace hs23 := keepS0 hg hs23
    clear hg
    refine ⟨_, rfl, ?_⟩; intro a ha
    refine sv ha (r_move ha rfl) rfl rfl rfl ?_; clear ha a; intro a ha
    refine sc ha (r_call ha [u25, x] rfl Tryd.call57) rfl rfl rfl (c_equal u25 x (sg (mk secret ((epo now per) - (UInt64.ofNat k)) src) signed) m _ hs25 (hsx.below hB) (by first | omega | (rw [sg_len]; omega))) ?_
    clear ha a
    rintro e w26 ⟨rfl, hBc⟩
    have hg := grown_call hBc; clear hBc
    replace hB := keepB0 hg hB
    replace hs23 := keepS0 hg hs23
    replace hs25 := keepS0 hg hs25
    clear hg
    refine ⟨_, rfl, ?_⟩; intro a ha
    refine sv ha (r_move ha rfl) rfl rfl rfl ?_; clear ha a; intro a ha
    cases hq27 : (decide ((sg (mk secret ((epo now per) - (UInt64.ofNat k)) src) signed) = m))
    all_goals rw [hq27] at ha
    case false =>
      replace hq27 := of_decide_eq_false hq27
      refine svg ha (r_move ha rfl) rfl rfl rfl rfl rfl ?_; clear ha a; intro a ha
      refine sv ha (v_of (r_pick ha false rfl rfl) (congrArg Value.bool ((by first | exact cvA_f _ _ _ _ _ _ (by assumption) | exact cvA_t _ _ _ _ _ _ (by assumption)) : cvA secret (epo now per) src signed m k = cvA secret (epo now per) src signed m (k + 1)))) rfl rfl rfl ?_; clear ha a; intro a ha
      refine sv ha (r_assign ha rfl) rfl rfl rfl ?_; clear ha a; intro a ha
      refine hK19 _ _ ?_; clear hK19 K18
      refine region ?_
      refine sv ha (v_of (ru_add ha (UInt64.ofNat k) (1 : UInt64) rfl rfl) (congrArg e64 (ofNat_succ64 k : (UInt64.ofNat k) + (1 : UInt64) = UInt64.ofNat (k + 1)))) rfl rfl rfl ?_; clear ha a; intro a ha
      refine sv ha (r_move ha rfl) rfl rfl rfl ?_; clear ha a; intro a ha
      exact ⟨k + 1, by omega, (by omega), ha.to [0, 1, 2, 3, 4, 5, 12, 16, 17, 18, 13, 19, 20, 21, 22, 14] rfl, hB⟩
    case true =>
      replace hq27 := of_decide_eq_true hq27
      refine sno ha rfl rfl rfl rfl rfl rfl ?_; clear ha a; intro a ha
      refine sv ha (v_of (r_pick ha true rfl rfl) (congrArg Value.bool ((by first | exact cvA_f _ _ _ _ _ _ (by assumption) | exact cvA_t _ _ _ _ _ _ (by assumption)) : true = cvA secret (epo now per) src signed m (k + 1)))) rfl rfl rfl ?_; clear ha a; intro a ha
      refine sv ha (r_assign ha rfl) rfl rfl rfl ?_; clear ha a; intro a ha
      refine hK19 _ _ ?_; clear hK19 K18
      refine region ?_
      refine sv ha (v_of (ru_add ha (UInt64.ofNat k) (1 : UInt64) rfl rfl) (congrArg e64 (ofNat_succ64 k : (UInt64.ofNat k) + (1 : UInt64) = UInt64.ofNat (k + 1)))) rfl rfl rfl ?_; clear ha a; intro a ha
      refine sv ha (r_move ha rfl) rfl rfl rfl ?_; clear ha a; intro a ha
      exact ⟨k + 1, by omega, (by omega), ha.to [0, 1, 2, 3, 4, 5, 12, 16, 17, 18, 13, 19, 20, 21, 22, 14] rfl, hB⟩
  · skip
    replace hc17 := of_decide_eq_false hc17
    refine wp_exit ?_
    obtain rfl : k = (umin (epo now per) 1 + 1).toNat := by omega
    refine hK9 _ _ ?_; clear hK16 K15 hK9 K8
    refine wp_seq_k fun K28 hK29 => ?_
    refine region ?_
    refine sv ha (r_move ha rfl) rfl rfl rfl ?_; clear ha a; intro a ha
    refine sv ha (r_assign ha rfl) rfl rfl rfl ?_; clear ha a; intro a ha
    refine hK29 _ _ ?_; clear hK29 K28
    refine wp_ret ?_
    repeat (first | (with_reducible refine t_ret ?_) | (with_reducible refine x_ret ?_))
    exact ret1 ha Tryd.results43 rfl ⟨rfl, hB⟩

theorem c_rvalid (v : Value) (secret : List UInt8) (now per : UInt64) (src : List UInt8) (u : Value) (signed : List UInt8) (x : Value) (m : List UInt8) (w0 : World) (hs : Sl w0 v (secret.map e8)) (hsu : Sl w0 u (signed.map e8)) (hsx : Sl w0 x (m.map e8)) (hk2 : secret.length ≤ 50000) (hls : src.length ≤ 50000) (hlg : signed.length ≤ 50000) :
    Calls Tryd.prog 44 #[v, e64 now, e64 per, .string (strOf src), u, x] w0 fun e w' => e = .returned (.bool (cval secret (epo now per) src signed m)) ∧ Below w0.heap.size w0 w' := by
  refine enter (args := [_, _, _, _, _, _]) Tryd.func44 rfl Tryd.ntmps44 rfl ?_
  intro a ha
  have hB := Below.refl w0.heap.size w0
  refine wp_seq_k fun K1 hK2 => ?_
  refine region ?_
  refine sv ha (r_assign ha rfl) rfl rfl rfl ?_; clear ha a; intro a ha
  refine hK2 _ _ ?_; clear hK2 K1
  refine wp_seq_k fun K3 hK4 => ?_
  refine region ?_
  refine sv ha (r_move ha rfl) rfl rfl rfl ?_; clear ha a; intro a ha
  refine sv ha (r_move ha rfl) rfl rfl rfl ?_; clear ha a; intro a ha
  refine sc ha (r_call ha [e64 now, e64 per] rfl Tryd.call39) rfl rfl rfl (c_repoch now per _ ) ?_
  clear ha a
  rintro e w5 ⟨rfl, hBc⟩
  have hg := grown_call hBc; clear hBc
  replace hB := keepB0 hg hB
  clear hg
  refine ⟨_, rfl, ?_⟩; intro a ha
  refine sv ha (r_assign ha rfl) rfl rfl rfl ?_; clear ha a; intro a ha
  refine hK4 _ _ ?_; clear hK4 K3
  refine wp_seq_k fun K6 hK7 => ?_
  refine wp_seq_k fun K8 hK9 => ?_
  refine regionD (S := fun w => Below w0.heap.size w0 w ∧ True) [] [0, 1, 2, 4, 7, 8, 6, 9] [0, 1, 2, 4, 7, 8, 3, 5, 6, 9] mixed (by kernel_rfl) (fun w hg => ⟨keepB0 hg hB, trivial⟩) ?_
  intro w10 hg
  replace hB := keepB0 hg hB
  clear hg
  refine cv ha rfl rfl (fun w _ => r_move ha rfl) rfl rfl rfl ?_; clear ha a; intro a ha
  refine cv ha rfl rfl (fun w _ => r_move ha rfl) rfl rfl rfl ?_; clear ha a; intro a ha
  refine cv ha rfl rfl (fun w _ => r_move ha rfl) rfl rfl rfl ?_; clear ha a; intro a ha
  refine cv ha rfl rfl (fun w _ => r_move ha rfl) rfl rfl rfl ?_; clear ha a; intro a ha
  refine cv ha rfl rfl (fun w _ => r_move ha rfl) rfl rfl rfl ?_; clear ha a; intro a ha
  refine cv ha rfl rfl (fun w ⟨hB, _⟩ => r_str (l := m) ha Tryd.underlying22 Tryd.underlying5 Tryd.underlying9 rfl (hsx.below hB)) rfl rfl rfl ?_; clear ha a; intro a ha
  refine ccx ha rfl rfl (r_call ha [v, e64 (epo now per), .string (strOf src)] rfl Tryd.call40) rfl rfl rfl (c_rmake v secret (epo now per) src _ (hs.below hB) (by first | omega | (rw [mk_len]; omega)) (by omega)) ?_
  clear ha a
  rintro e w11 ⟨u12, rfl, hBc, hs12, hd12⟩
  have hg := grown_call hBc; clear hBc
  replace hd12 : ∀ j, u12.ownBlock = some j → w0.heap.size ≤ j := fun j hj => Nat.le_trans hB.size (hd12 j hj)
  replace hB := keepB0 hg hB
  clear hg
  refine ⟨fun w => (Sl w u12 ((mk secret (epo now per) src).map e8)) ∧ Below w0.heap.size w0 w ∧ True, fun w h => h.2, fun _ => ⟨hs12, hB, trivial⟩, _, rfl, ?_⟩; intro a ha
  refine ccx ha rfl rfl (r_call ha [u12, u] rfl Tryd.call42) rfl rfl rfl (c_rsign u12 (mk secret (epo now per) src) u signed _ hs12 (hsu.below hB) (by omega) (by first | omega | (rw [mk_len]; omega))) ?_
  clear ha a
  rintro e w13 ⟨u14, rfl, hBc, hs14, hd14⟩
  have hg := grown_call hBc; clear hBc
  have hds_hs14_hs12 : ∀ j, u14.ownBlock = some j → u12.ownBlock ≠ some j := fun j h1 h2 => by have h3 := hd14 j h1; have h4 := (fun j hj => hs12.lt j hj) j h2; omega
  replace hd14 : ∀ j, u14.ownBlock = some j → w0.heap.size ≤ j := fun j hj => Nat.le_trans hB.size (hd14 j hj)
  replace hB := keepB0 hg hB
  replace hs12 := keepS0 hg hs12
  clear hg
  refine ⟨fun w => (Sl w u14 ((sg (mk secret (epo now per) src) signed).map e8)) ∧ (Sl w u12 ((mk secret (epo now per) src).map e8)) ∧ Below w0.heap.size w0 w ∧ True, fun w h => h.2, fun _ => ⟨hs14, hs12, hB, trivial⟩, _, rfl, ?_⟩; intro a ha
  refine cv ha rfl rfl (fun w ⟨hs14, hs12, hB, _⟩ => r_str (l := sg (mk secret (epo now per) src) signed) ha Tryd.underlying22 Tryd.underlying5 Tryd.underlying9 rfl hs14) rfl rfl rfl ?_; clear ha a; intro a ha
  refine cv ha rfl rfl (fun w _ => r_eqlS ha (sg (mk secret (epo now per) src) signed) m (decide (sg (mk secret (epo now per) src) signed = m)) rfl rfl rfl) rfl rfl rfl ?_; clear ha a; intro a ha
  refine cfin (hK9 _ _ ?_); clear hK9 K8
  refine cond_if ha rfl (fun hc15 => ?_) (fun hc15 => ?_)
  · skip
    replace hc15 := of_decide_eq_true hc15
    refine wp_seq_k fun K16 hK17 => ?_
    refine region ?_
    refine sv ha (r_assign ha rfl) rfl rfl rfl ?_; clear ha a; intro a ha
    refine hK17 _ _ ?_; clear hK17 K16
    refine wp_ret ?_
    repeat (first | (with_reducible refine t_ret ?_) | (with_reducible refine x_ret ?_))
    exact ret1 ha Tryd.results44 rfl ⟨(by first | rw [cval_a _ _ _ _ _ (by assumption)] | rw [cval_c _ _ _ _ _ (by assumption) (by omega)] | rw [cval_b _ _ _ _ _ (by assumption) (by omega)]), hB⟩
  · skip
    replace hc15 := of_decide_eq_false hc15
    refine wp_skip ?_
    refine hK7 _ _ ?_; clear hK7 K6
    refine wp_seq_k fun K18 hK19 => ?_
    refine regionD (S := fun w => Below w0.heap.size w0 w ∧ Sl w u12 ((mk secret (epo now per) src).map e8) ∧ Sl w u14 ((sg (mk secret (epo now per) src) signed).map e8) ∧ True) [] [0, 1, 2, 3, 4, 5, 6, 8, 11, 12, 10, 13, 14, 15] [0, 1, 2, 3, 4, 5, 6, 8, 11, 12, 7, 9, 10, 13, 14, 15] mixed (by kernel_rfl) (fun w hg => ⟨keepB0 hg hB, keepS0 hg hs12, keepS0 hg hs14, trivial⟩) ?_
    intro w20 hg
    replace hB := keepB0 hg hB
    replace hs12 := keepS0 hg hs12
    replace hs14 := keepS0 hg hs14
    clear hg
    refine cv ha rfl rfl (fun w _ => r_move ha rfl) rfl rfl rfl ?_; clear ha a; intro a ha
    refine cv ha rfl rfl (fun w _ => r_gtr ha ((epo now per).toNat : Int) 0 (decide (((epo now per).toNat : Int) > 0)) rfl rfl (decide_eq_decide.2 (by omega))) rfl rfl rfl ?_; clear ha a; intro a ha
    refine cv ha rfl rfl (fun w _ => r_move ha rfl) rfl rfl rfl ?_; clear ha a; intro a ha
    cases hq21 : (decide (((epo now per).toNat : Int) > 0))
    all_goals rw [hq21] at ha
    case false =>
      replace hq21 := of_decide_eq_false hq21
      refine cno ha rfl rfl rfl rfl rfl rfl rfl rfl ?_; clear ha a; intro a ha
      refine cno ha rfl rfl rfl rfl rfl rfl rfl rfl ?_; clear ha a; intro a ha
      refine cno ha rfl rfl rfl rfl rfl rfl rfl rfl ?_; clear ha a; intro a ha
      refine cno ha rfl rfl rfl rfl rfl rfl rfl rfl ?_; clear ha a; intro a ha
      refine cno ha rfl rfl rfl rfl rfl rfl rfl rfl ?_; clear ha a; intro a ha
      refine cno ha rfl rfl rfl rfl rfl rfl rfl rfl ?_; clear ha a; intro a ha
      refine cno ha rfl rfl rfl rfl rfl rfl rfl rfl ?_; clear ha a; intro a ha
      refine cnoU ha rfl rfl rfl rfl rfl rfl rfl rfl ⟨hB, hs12, hs14, trivial⟩ ?_; clear ha a; intro a ha
      refine cnoU ha rfl rfl rfl rfl rfl rfl rfl rfl ⟨hB, hs12, hs14, trivial⟩ ?_; clear ha a; intro a ha
      refine cno ha rfl rfl rfl rfl rfl rfl rfl rfl ?_; clear ha a; intro a ha
      refine cno ha rfl rfl rfl rfl rfl rfl rfl rfl ?_; clear ha a; intro a ha
      refine cv ha rfl rfl (fun w _ => r_pick ha false rfl rfl) rfl rfl rfl ?_; clear ha a; intro a ha
      refine cv ha rfl rfl (fun w _ => r_assign ha rfl) rfl rfl rfl ?_; clear ha a; intro a ha
      refine cfin (hK19 _ _ ?_); clear hK19 K18
      refine wp_ret ?_
      repeat (first | (with_reducible refine t_ret ?_) | (with_reducible refine x_ret ?_))
      exact ret1 ha Tryd.results44 rfl ⟨(by first | rw [cval_a _ _ _ _ _ (by assumption)] | rw [cval_c _ _ _ _ _ (by assumption) (by omega)] | rw [cval_b _ _ _ _ _ (by assumption) (by omega)]), hB⟩
    case true =>
      replace hq21 := of_decide_eq_true hq21
      refine cvg ha rfl rfl (fun w _ => r_move ha rfl) rfl rfl rfl rfl rfl ?_; clear ha a; intro a ha
      refine cvg ha rfl rfl (fun w _ => r_move ha rfl) rfl rfl rfl rfl rfl ?_; clear ha a; intro a ha
      refine cvg ha rfl rfl (fun w _ => ru_sub ha (epo now per) (1 : UInt64) rfl rfl) rfl rfl rfl rfl rfl ?_; clear ha a; intro a ha
      refine cvg ha rfl rfl (fun w _ => r_move ha rfl) rfl rfl rfl rfl rfl ?_; clear ha a; intro a ha
      refine cvg ha rfl rfl (fun w _ => r_move ha rfl) rfl rfl rfl rfl rfl ?_; clear ha a; intro a ha
      refine cvg ha rfl rfl (fun w _ => r_move ha rfl) rfl rfl rfl rfl rfl ?_; clear ha a; intro a ha
      refine cvg ha rfl rfl (fun w ⟨hB, hs12, hs14, _⟩ => r_str (l := m) ha Tryd.underlying22 Tryd.underlying5 Tryd.underlying9 rfl (hsx.below hB)) rfl rfl rfl rfl rfl ?_; clear ha a; intro a ha
      refine ccgx ha rfl rfl (r_call ha [v, e64 ((epo now per) - (1 : UInt64)), .string (strOf src)] rfl Tryd.call40) rfl rfl rfl rfl rfl (c_rmake v secret ((epo now per) - (1 : UInt64)) src _ (hs.below hB) (by first | omega | (rw [mk_len]; omega)) (by omega)) ?_
      clear ha a
      rintro e w22 ⟨u23, rfl, hBc, hs23, hd23⟩
      have hg := grown_call hBc; clear hBc
      have hds_hs23_hs12 : ∀ j, u23.ownBlock = some j → u12.ownBlock ≠ some j := fun j h1 h2 => by have h3 := hd23 j h1; have h4 := (fun j hj => hs12.lt j hj) j h2; omega
      have hds_hs23_hs14 : ∀ j, u23.ownBlock = some j → u14.ownBlock ≠ some j := fun j h1 h2 => by have h3 := hd23 j h1; have h4 := (fun j hj => hs14.lt j hj) j h2; omega
      replace hd23 : ∀ j, u23.ownBlock = some j → w0.heap.size ≤ j := fun j hj => Nat.le_trans hB.size (hd23 j hj)
      replace hB := keepB0 hg hB
      replace hs12 := keepS0 hg hs12
      replace hs14 := keepS0 hg hs14
      clear hg
      refine ⟨fun w => (Sl w u23 ((mk secret ((epo now per) - (1 : UInt64)) src).map e8)) ∧ Below w0.heap.size w0 w ∧ Sl w u12 ((mk secret (epo now per) src).map e8) ∧ Sl w u14 ((sg (mk secret (epo now per) src) signed).map e8) ∧ True, fun w h => h.2, fun _ => ⟨hs23, hB, hs12, hs14, trivial⟩, _, rfl, ?_⟩; intro a ha
      refine ccgx ha rfl rfl (r_call ha [u23, u] rfl Tryd.call42) rfl rfl rfl rfl rfl (c_rsign u23 (mk secret ((epo now per) - (1 : UInt64)) src) u signed _ hs23 (hsu.below hB) (by omega) (by first | omega | (rw [mk_len]; omega))) ?_
      clear ha a
      rintro e w24 ⟨u25, rfl, hBc, hs25, hd25⟩
      have hg := grown_call hBc; clear hBc
      have hds_hs25_hs12 : ∀ j, u25.ownBlock = some j → u12.ownBlock ≠ some j := fun j h1 h2 => by have h3 := hd25 j h1; have h4 := (fun j hj => hs12.lt j hj) j h2; omega
      have hds_hs25_hs14 : ∀ j, u25.ownBlock = some j → u14.ownBlock ≠ some j := fun j h1 h2 => by have h3 := hd25 j h1; have h4 := (fun j hj => hs14.lt j hj) j h2; omega
      have hds_hs25_hs23 : ∀ j, u25.ownBlock = some j → u23.ownBlock ≠ some j := fun j h1 h2 => by have h3 := hd25 j h1; have h4 := (fun j hj => hs23.lt j hj) j h2; omega
      replace hd25 : ∀ j, u25.ownBlock = some j → w0.heap.size ≤ j := fun j hj => Nat.le_trans hB.size (hd25 j hj)
      replace hB := keepB0 hg hB
      replace hs12 := keepS0 hg hs12
      replace hs14 := keepS0 hg hs14
      replace hs23 := keepS0 hg hs23
      clear hg
      refine ⟨fun w => (Sl w u25 ((sg (mk secret ((epo now per) - (1 : UInt64)) src) signed).map e8)) ∧ (Sl w u23 ((mk secret ((epo now per) - (1 : UInt64)) src).map e8)) ∧ Below w0.heap.size w0 w ∧ Sl w u12 ((mk secret (epo now per) src).map e8) ∧ Sl w u14 ((sg (mk secret (epo now per) src) signed).map e8) ∧ True, fun w h => h.2, fun _ => ⟨hs25, hs23, hB, hs12, hs14, trivial⟩, _, rfl, ?_⟩; intro a ha
      refine cvg ha rfl rfl (fun w ⟨hs25, hs23, hB, hs12, hs14, _⟩ => r_str (l := sg (mk secret ((epo now per) - (1 : UInt64)) src) signed) ha Tryd.underlying22 Tryd.underlying5 Tryd.underlying9 rfl hs25) rfl rfl rfl rfl rfl ?_; clear ha a; intro a ha
      refine cvg ha rfl rfl (fun w _ => r_eqlS ha (sg (mk secret ((epo now per) - (1 : UInt64)) src) signed) m (decide (sg (mk secret ((epo now per) - (1 : UInt64)) src) signed = m)) rfl rfl rfl) rfl rfl rfl rfl rfl ?_; clear ha a; intro a ha
      refine cv ha rfl rfl (fun w _ => r_pick ha true rfl rfl) rfl rfl rfl ?_; clear ha a; intro a ha
      refine cv ha rfl rfl (fun w _ => r_assign ha rfl) rfl rfl rfl ?_; clear ha a; intro a ha
      refine cfin (hK19 _ _ ?_); clear hK19 K18
      refine wp_ret ?_
      repeat (first | (with_reducible refine t_ret ?_) | (with_reducible refine x_ret ?_))
      exact ret1 ha Tryd.results44 rfl ⟨(by first | rw [cval_a _ _ _ _ _ (by assumption)] | rw [cval_c _ _ _ _ _ (by assumption) (by omega)] | rw [cval_b _ _ _ _ _ (by assumption) (by omega)]), hB⟩
end Go.Proofs.YtdhgkfmniebghaaDoor
