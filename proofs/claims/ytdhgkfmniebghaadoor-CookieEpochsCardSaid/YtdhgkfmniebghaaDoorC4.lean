/- WALKS written by gen.py (own program) out of specs. -/
import Derived.Test.YtdhgkfmniebghaaDoorC3
namespace Go.Proofs.YtdhgkfmniebghaaDoor
open Go.RowKit Go.Rx
set_option maxRecDepth 100000
set_option maxHeartbeats 4000000
set_option linter.unusedVariables false
set_option linter.unusedSimpArgs false

theorem law_CookieMakes (v : Value) (secret : List UInt8) (now per : UInt64) (src : List UInt8) (u : Value) (signed : List UInt8) (w0 : World) (hs : Sl w0 v (secret.map e8)) (hl4 : src.length ≤ maxLen) (hsu : Sl w0 u (signed.map e8)) (hG : Glob w0) :
    Calls Tryd.prog 13 #[v, e64 now, e64 per, .string (strOf src), u] w0 fun e w' => e = .returned (.bool true) ∧ Below w0.heap.size w0 w' := by
  refine enter (args := [_, _, _, _, _]) Tryd.func13 rfl Tryd.ntmps13 rfl ?_
  intro a ha
  have hB := Below.refl w0.heap.size w0
  refine wp_seq_k fun K1 hK2 => ?_
  refine region ?_
  refine sv ha (r_assign ha rfl) rfl rfl rfl ?_; clear ha a; intro a ha
  refine hK2 _ _ ?_; clear hK2 K1
  refine wp_seq_k fun K3 hK4 => ?_
  refine region ?_
  refine sc ha (r_call ha [] rfl Tryd.call36) rfl rfl rfl (c_awake21  _ (glob_keep hG hB)) ?_
  clear ha a
  rintro e w5 ⟨rfl, hBc⟩
  have hg := grown_call hBc; clear hBc
  replace hB := keepB0 hg hB
  clear hg
  refine ⟨_, rfl, ?_⟩; intro a ha
  refine sv ha (r_assign ha rfl) rfl rfl rfl ?_; clear ha a; intro a ha
  refine hK4 _ _ ?_; clear hK4 K3
  refine wp_seq_k fun K6 hK7 => ?_
  refine wp_seq_k fun K8 hK9 => ?_
  refine region ?_
  refine sv ha (r_move ha rfl) rfl rfl rfl ?_; clear ha a; intro a ha
  refine sv ha (r_not ha true false rfl rfl) rfl rfl rfl ?_; clear ha a; intro a ha
  refine hK9 _ _ ?_; clear hK9 K8
  refine cond_f ha rfl ?_
  refine wp_skip ?_
  refine hK7 _ _ ?_; clear hK7 K6
  refine wp_seq_k fun K10 hK11 => ?_
  refine wp_seq_k fun K12 hK13 => ?_
  refine region ?_
  refine sv ha (r_move ha rfl) rfl rfl rfl ?_; clear ha a; intro a ha
  refine sv ha (r_lenS ha Tryd.runUnderlying22 (hs.below hB) rfl (by rw [List.length_map])) rfl rfl rfl ?_; clear ha a; intro a ha
  refine sv ha (r_gtr ha ((secret.length : Nat) : Int) 300 (decide (secret.length > 300)) rfl rfl (decide_eq_decide.2 (by omega))) rfl rfl rfl ?_; clear ha a; intro a ha
  refine sv ha (r_move ha rfl) rfl rfl rfl ?_; clear ha a; intro a ha
  cases hq14 : (decide (secret.length > 300))
  all_goals rw [hq14] at ha
  case false =>
    replace hq14 := of_decide_eq_false hq14
    refine svg ha (r_move ha rfl) rfl rfl rfl rfl rfl ?_; clear ha a; intro a ha
    refine svg ha (r_lenStr ha src Tryd.runUnderlying9 rfl) rfl rfl rfl rfl rfl ?_; clear ha a; intro a ha
    refine svg ha (r_gtr ha ((src.length : Nat) : Int) 300 (decide (src.length > 300)) rfl rfl (decide_eq_decide.2 (by omega))) rfl rfl rfl rfl rfl ?_; clear ha a; intro a ha
    refine sv ha (r_pick ha false rfl rfl) rfl rfl rfl ?_; clear ha a; intro a ha
    refine sv ha (r_move ha rfl) rfl rfl rfl ?_; clear ha a; intro a ha
    cases hq15 : (decide (src.length > 300))
    all_goals rw [hq15] at ha
    case false =>
      replace hq15 := of_decide_eq_false hq15
      refine svg ha (r_move ha rfl) rfl rfl rfl rfl rfl ?_; clear ha a; intro a ha
      refine svg ha (r_lenS ha Tryd.runUnderlying22 (hsu.below hB) rfl (by rw [List.length_map])) rfl rfl rfl rfl rfl ?_; clear ha a; intro a ha
      refine svg ha (r_gtr ha ((signed.length : Nat) : Int) 2000 (decide (signed.length > 2000)) rfl rfl (decide_eq_decide.2 (by omega))) rfl rfl rfl rfl rfl ?_; clear ha a; intro a ha
      refine sv ha (r_pick ha false rfl rfl) rfl rfl rfl ?_; clear ha a; intro a ha
      refine hK13 _ _ ?_; clear hK13 K12
      refine cond_if ha rfl (fun hc16 => ?_) (fun hc16 => ?_)
      · skip
        replace hc16 := of_decide_eq_true hc16
        refine wp_seq_k fun K17 hK18 => ?_
        refine region ?_
        refine sv ha (r_assign ha rfl) rfl rfl rfl ?_; clear ha a; intro a ha
        refine hK18 _ _ ?_; clear hK18 K17
        refine wp_ret ?_
        repeat (first | (with_reducible refine t_ret ?_) | (with_reducible refine x_ret ?_))
        exact ret1 ha Tryd.results13 rfl ⟨rfl, hB⟩
      · skip
        replace hc16 := of_decide_eq_false hc16
        refine wp_skip ?_
        refine hK11 _ _ ?_; clear hK11 K10
        refine wp_seq_k fun K19 hK20 => ?_
        refine region ?_
        refine sv ha (r_move ha rfl) rfl rfl rfl ?_; clear ha a; intro a ha
        refine sv ha (r_move ha rfl) rfl rfl rfl ?_; clear ha a; intro a ha
        refine sc ha (r_call ha [e64 now, e64 per] rfl Tryd.call37) rfl rfl rfl (c_epoch now per _ ) ?_
        clear ha a
        rintro e w21 ⟨rfl, hBc⟩
        have hg := grown_call hBc; clear hBc
        replace hB := keepB0 hg hB
        clear hg
        refine ⟨_, rfl, ?_⟩; intro a ha
        refine sv ha (r_assign ha rfl) rfl rfl rfl ?_; clear ha a; intro a ha
        refine hK20 _ _ ?_; clear hK20 K19
        refine wp_seq_k fun K22 hK23 => ?_
        refine region ?_
        refine sv ha (r_move ha rfl) rfl rfl rfl ?_; clear ha a; intro a ha
        refine sv ha (r_move ha rfl) rfl rfl rfl ?_; clear ha a; intro a ha
        refine sv ha (r_move ha rfl) rfl rfl rfl ?_; clear ha a; intro a ha
        refine sc ha (r_call ha [v, e64 (epo now per), .string (strOf src)] rfl Tryd.call38) rfl rfl rfl (c_make v secret (epo now per) src _ (hs.below hB) (by first | omega | (rw [mk_len]; omega) | (rw [sg_len]; omega) | decide) (by first | omega | (rw [mk_len]; omega) | (rw [sg_len]; omega) | decide) (glob_keep hG hB)) ?_
        clear ha a
        rintro e w24 ⟨u25, rfl, hBc, hs25, hd25⟩
        have hg := grown_call hBc; clear hBc
        replace hd25 : ∀ j, u25.ownBlock = some j → w0.heap.size ≤ j := fun j hj => Nat.le_trans hB.size (hd25 j hj)
        replace hB := keepB0 hg hB
        clear hg
        refine ⟨_, rfl, ?_⟩; intro a ha
        refine sv ha (r_assign ha rfl) rfl rfl rfl ?_; clear ha a; intro a ha
        refine hK23 _ _ ?_; clear hK23 K22
        refine wp_seq_k fun K26 hK27 => ?_
        refine regionD (S := fun w => Below w0.heap.size w0 w ∧ Sl w u25 ((mk secret (epo now per) src).map e8) ∧ True) [] [0, 1, 2, 4, 5, 6, 7, 8, 9, 10, 12, 13, 14, 15, 16, 17, 20, 21, 19, 23, 24, 25, 26, 27, 28, 31, 32, 30, 34, 35, 36, 37] [0, 1, 2, 3, 4, 5, 6, 7, 8, 9, 10, 11, 12, 13, 14, 15, 16, 17, 20, 21, 18, 19, 22, 23, 24, 25, 26, 27, 28, 31, 32, 29, 30, 33, 34, 35, 36, 37] mixed (by kernel_rfl) (fun w hg => ⟨keepB0 hg hB, keepS0 hg hs25, trivial⟩) ?_
        intro w28 hg
        replace hB := keepB0 hg hB
        replace hs25 := keepS0 hg hs25
        clear hg
        refine cv ha rfl rfl (fun w _ => r_move ha rfl) rfl rfl rfl ?_; clear ha a; intro a ha
        refine cv ha rfl rfl (fun w _ => r_move ha rfl) rfl rfl rfl ?_; clear ha a; intro a ha
        refine cv ha rfl rfl (fun w _ => r_move ha rfl) rfl rfl rfl ?_; clear ha a; intro a ha
        refine cc ha rfl rfl (r_call ha [e64 now, e64 per] rfl Tryd.call39) rfl rfl rfl (c_repoch now per _ ) ?_
        clear ha a
        rintro e w29 ⟨rfl, hBc⟩
        have hg := grown_call hBc; clear hBc
        replace hB := keepB0 hg hB
        replace hs25 := keepS0 hg hs25
        clear hg
        refine ⟨fun _ => ⟨hB, hs25, trivial⟩, _, rfl, ?_⟩; intro a ha
        refine cv ha rfl rfl (fun w _ => r_eql ha ((epo now per).toNat : Int) ((epo now per).toNat : Int) true rfl rfl (decide_eq_true rfl)) rfl rfl rfl ?_; clear ha a; intro a ha
        refine cv ha rfl rfl (fun w _ => r_move ha rfl) rfl rfl rfl ?_; clear ha a; intro a ha
        refine cvg ha rfl rfl (fun w _ => r_move ha rfl) rfl rfl rfl rfl rfl ?_; clear ha a; intro a ha
        refine cvg ha rfl rfl (fun w ⟨hB, hs25, _⟩ => r_str (l := mk secret (epo now per) src) ha Tryd.underlying22 Tryd.underlying5 Tryd.underlying9 rfl hs25) rfl rfl rfl rfl rfl ?_; clear ha a; intro a ha
        refine cvg ha rfl rfl (fun w _ => r_move ha rfl) rfl rfl rfl rfl rfl ?_; clear ha a; intro a ha
        refine cvg ha rfl rfl (fun w _ => r_move ha rfl) rfl rfl rfl rfl rfl ?_; clear ha a; intro a ha
        refine cvg ha rfl rfl (fun w _ => r_move ha rfl) rfl rfl rfl rfl rfl ?_; clear ha a; intro a ha
        refine ccgx ha rfl rfl (r_call ha [v, e64 (epo now per), .string (strOf src)] rfl Tryd.call40) rfl rfl rfl rfl rfl (c_rmake v secret (epo now per) src _ (hs.below hB) (by first | omega | (rw [mk_len]; omega) | (rw [sg_len]; omega) | decide) (by first | omega | (rw [mk_len]; omega) | (rw [sg_len]; omega) | decide)) ?_
        clear ha a
        rintro e w30 ⟨u31, rfl, hBc, hs31, hd31⟩
        have hg := grown_call hBc; clear hBc
        have hds_hs31_hs25 : ∀ j, u31.ownBlock = some j → u25.ownBlock ≠ some j := fun j h1 h2 => by have h3 := hd31 j h1; have h4 := (fun j hj => hs25.lt j hj) j h2; omega
        replace hd31 : ∀ j, u31.ownBlock = some j → w0.heap.size ≤ j := fun j hj => Nat.le_trans hB.size (hd31 j hj)
        replace hB := keepB0 hg hB
        replace hs25 := keepS0 hg hs25
        clear hg
        refine ⟨fun w => (Sl w u31 ((mk secret (epo now per) src).map e8)) ∧ Below w0.heap.size w0 w ∧ Sl w u25 ((mk secret (epo now per) src).map e8) ∧ True, fun w h => h.2, fun _ => ⟨hs31, hB, hs25, trivial⟩, _, rfl, ?_⟩; intro a ha
        refine cvg ha rfl rfl (fun w ⟨hs31, hB, hs25, _⟩ => r_str (l := mk secret (epo now per) src) ha Tryd.underlying22 Tryd.underlying5 Tryd.underlying9 rfl hs31) rfl rfl rfl rfl rfl ?_; clear ha a; intro a ha
        refine cvg ha rfl rfl (fun w _ => r_eqlS ha (mk secret (epo now per) src) (mk secret (epo now per) src) true rfl rfl (decide_eq_true rfl)) rfl rfl rfl rfl rfl ?_; clear ha a; intro a ha
        refine cv ha rfl rfl (fun w _ => r_pick ha true rfl rfl) rfl rfl rfl ?_; clear ha a; intro a ha
        refine cv ha rfl rfl (fun w _ => r_move ha rfl) rfl rfl rfl ?_; clear ha a; intro a ha
        refine cvg ha rfl rfl (fun w _ => r_move ha rfl) rfl rfl rfl rfl rfl ?_; clear ha a; intro a ha
        refine cvg ha rfl rfl (fun w _ => r_move ha rfl) rfl rfl rfl rfl rfl ?_; clear ha a; intro a ha
        refine cvg ha rfl rfl (fun w _ => r_move ha rfl) rfl rfl rfl rfl rfl ?_; clear ha a; intro a ha
        refine cvg ha rfl rfl (fun w _ => r_move ha rfl) rfl rfl rfl rfl rfl ?_; clear ha a; intro a ha
        refine ccgx ha rfl rfl (r_call ha [u25, u] rfl Tryd.call41) rfl rfl rfl rfl rfl (c_sign u25 (mk secret (epo now per) src) u signed _ hs25 (hsu.below hB) (by first | omega | (rw [mk_len]; omega) | (rw [sg_len]; omega) | decide) (glob_keep hG hB)) ?_
        clear ha a
        rintro e w32 ⟨u33, rfl, hBc, hs33, hd33⟩
        have hg := grown_call hBc; clear hBc
        have hds_hs33_hs25 : ∀ j, u33.ownBlock = some j → u25.ownBlock ≠ some j := fun j h1 h2 => by have h3 := hd33 j h1; have h4 := (fun j hj => hs25.lt j hj) j h2; omega
        have hds_hs33_hs31 : ∀ j, u33.ownBlock = some j → u31.ownBlock ≠ some j := fun j h1 h2 => by have h3 := hd33 j h1; have h4 := (fun j hj => hs31.lt j hj) j h2; omega
        replace hd33 : ∀ j, u33.ownBlock = some j → w0.heap.size ≤ j := fun j hj => Nat.le_trans hB.size (hd33 j hj)
        replace hB := keepB0 hg hB
        replace hs25 := keepS0 hg hs25
        replace hs31 := keepS0 hg hs31
        clear hg
        refine ⟨fun w => (Sl w u33 ((sg (mk secret (epo now per) src) signed).map e8)) ∧ (Sl w u31 ((mk secret (epo now per) src).map e8)) ∧ Below w0.heap.size w0 w ∧ Sl w u25 ((mk secret (epo now per) src).map e8) ∧ True, fun w h => h.2, fun _ => ⟨hs33, hs31, hB, hs25, trivial⟩, _, rfl, ?_⟩; intro a ha
        refine cvg ha rfl rfl (fun w ⟨hs33, hs31, hB, hs25, _⟩ => r_str (l := sg (mk secret (epo now per) src) signed) ha Tryd.underlying22 Tryd.underlying5 Tryd.underlying9 rfl hs33) rfl rfl rfl rfl rfl ?_; clear ha a; intro a ha
        refine ccgx ha rfl rfl (r_call ha [u25, u] rfl Tryd.call42) rfl rfl rfl rfl rfl (c_rsign u25 (mk secret (epo now per) src) u signed _ hs25 (hsu.below hB) (by first | omega | (rw [mk_len]; omega) | (rw [sg_len]; omega) | decide) (by first | omega | (rw [mk_len]; omega) | (rw [sg_len]; omega) | decide)) ?_
        clear ha a
        rintro e w34 ⟨u35, rfl, hBc, hs35, hd35⟩
        have hg := grown_call hBc; clear hBc
        have hds_hs35_hs25 : ∀ j, u35.ownBlock = some j → u25.ownBlock ≠ some j := fun j h1 h2 => by have h3 := hd35 j h1; have h4 := (fun j hj => hs25.lt j hj) j h2; omega
        have hds_hs35_hs31 : ∀ j, u35.ownBlock = some j → u31.ownBlock ≠ some j := fun j h1 h2 => by have h3 := hd35 j h1; have h4 := (fun j hj => hs31.lt j hj) j h2; omega
        have hds_hs35_hs33 : ∀ j, u35.ownBlock = some j → u33.ownBlock ≠ some j := fun j h1 h2 => by have h3 := hd35 j h1; have h4 := (fun j hj => hs33.lt j hj) j h2; omega
        replace hd35 : ∀ j, u35.ownBlock = some j → w0.heap.size ≤ j := fun j hj => Nat.le_trans hB.size (hd35 j hj)
        replace hB := keepB0 hg hB
        replace hs25 := keepS0 hg hs25
        replace hs31 := keepS0 hg hs31
        replace hs33 := keepS0 hg hs33
        clear hg
        refine ⟨fun w => (Sl w u35 ((sg (mk secret (epo now per) src) signed).map e8)) ∧ (Sl w u33 ((sg (mk secret (epo now per) src) signed).map e8)) ∧ (Sl w u31 ((mk secret (epo now per) src).map e8)) ∧ Below w0.heap.size w0 w ∧ Sl w u25 ((mk secret (epo now per) src).map e8) ∧ True, fun w h => h.2, fun _ => ⟨hs35, hs33, hs31, hB, hs25, trivial⟩, _, rfl, ?_⟩; intro a ha
        refine cvg ha rfl rfl (fun w ⟨hs35, hs33, hs31, hB, hs25, _⟩ => r_str (l := sg (mk secret (epo now per) src) signed) ha Tryd.underlying22 Tryd.underlying5 Tryd.underlying9 rfl hs35) rfl rfl rfl rfl rfl ?_; clear ha a; intro a ha
        refine cvg ha rfl rfl (fun w _ => r_eqlS ha (sg (mk secret (epo now per) src) signed) (sg (mk secret (epo now per) src) signed) true rfl rfl (decide_eq_true rfl)) rfl rfl rfl rfl rfl ?_; clear ha a; intro a ha
        refine cv ha rfl rfl (fun w _ => r_pick ha true rfl rfl) rfl rfl rfl ?_; clear ha a; intro a ha
        refine cv ha rfl rfl (fun w _ => r_move ha rfl) rfl rfl rfl ?_; clear ha a; intro a ha
        refine cvg ha rfl rfl (fun w _ => r_move ha rfl) rfl rfl rfl rfl rfl ?_; clear ha a; intro a ha
        refine cvg ha rfl rfl (fun w _ => r_move ha rfl) rfl rfl rfl rfl rfl ?_; clear ha a; intro a ha
        refine cvg ha rfl rfl (fun w _ => r_move ha rfl) rfl rfl rfl rfl rfl ?_; clear ha a; intro a ha
        refine cvg ha rfl rfl (fun w _ => r_move ha rfl) rfl rfl rfl rfl rfl ?_; clear ha a; intro a ha
        refine ccgx ha rfl rfl (r_call ha [u, u25] rfl Tryd.call41) rfl rfl rfl rfl rfl (c_sign u signed u25 (mk secret (epo now per) src) _ (hsu.below hB) hs25 (by first | omega | (rw [mk_len]; omega) | (rw [sg_len]; omega) | decide) (glob_keep hG hB)) ?_
        clear ha a
        rintro e w36 ⟨u37, rfl, hBc, hs37, hd37⟩
        have hg := grown_call hBc; clear hBc
        have hds_hs37_hs25 : ∀ j, u37.ownBlock = some j → u25.ownBlock ≠ some j := fun j h1 h2 => by have h3 := hd37 j h1; have h4 := (fun j hj => hs25.lt j hj) j h2; omega
        have hds_hs37_hs31 : ∀ j, u37.ownBlock = some j → u31.ownBlock ≠ some j := fun j h1 h2 => by have h3 := hd37 j h1; have h4 := (fun j hj => hs31.lt j hj) j h2; omega
        have hds_hs37_hs33 : ∀ j, u37.ownBlock = some j → u33.ownBlock ≠ some j := fun j h1 h2 => by have h3 := hd37 j h1; have h4 := (fun j hj => hs33.lt j hj) j h2; omega
        have hds_hs37_hs35 : ∀ j, u37.ownBlock = some j → u35.ownBlock ≠ some j := fun j h1 h2 => by have h3 := hd37 j h1; have h4 := (fun j hj => hs35.lt j hj) j h2; omega
        replace hd37 : ∀ j, u37.ownBlock = some j → w0.heap.size ≤ j := fun j hj => Nat.le_trans hB.size (hd37 j hj)
        replace hB := keepB0 hg hB
        replace hs25 := keepS0 hg hs25
        replace hs31 := keepS0 hg hs31
        replace hs33 := keepS0 hg hs33
        replace hs35 := keepS0 hg hs35
        clear hg
        refine ⟨fun w => (Sl w u37 ((sg signed (mk secret (epo now per) src)).map e8)) ∧ (Sl w u35 ((sg (mk secret (epo now per) src) signed).map e8)) ∧ (Sl w u33 ((sg (mk secret (epo now per) src) signed).map e8)) ∧ (Sl w u31 ((mk secret (epo now per) src).map e8)) ∧ Below w0.heap.size w0 w ∧ Sl w u25 ((mk secret (epo now per) src).map e8) ∧ True, fun w h => h.2, fun _ => ⟨hs37, hs35, hs33, hs31, hB, hs25, trivial⟩, _, rfl, ?_⟩; intro a ha
        refine cvg ha rfl rfl (fun w ⟨hs37, hs35, hs33, hs31, hB, hs25, _⟩ => r_str (l := sg signed (mk secret (epo now per) src)) ha Tryd.underlying22 Tryd.underlying5 Tryd.underlying9 rfl hs37) rfl rfl rfl rfl rfl ?_; clear ha a; intro a ha
        refine ccgx ha rfl rfl (r_call ha [u, u25] rfl Tryd.call42) rfl rfl rfl rfl rfl (c_rsign u signed u25 (mk secret (epo now per) src) _ (hsu.below hB) hs25 (by first | omega | (rw [mk_len]; omega) | (rw [sg_len]; omega) | decide) (by first | omega | (rw [mk_len]; omega) | (rw [sg_len]; omega) | decide)) ?_
        clear ha a
        rintro e w38 ⟨u39, rfl, hBc, hs39, hd39⟩
        have hg := grown_call hBc; clear hBc
        have hds_hs39_hs25 : ∀ j, u39.ownBlock = some j → u25.ownBlock ≠ some j := fun j h1 h2 => by have h3 := hd39 j h1; have h4 := (fun j hj => hs25.lt j hj) j h2; omega
        have hds_hs39_hs31 : ∀ j, u39.ownBlock = some j → u31.ownBlock ≠ some j := fun j h1 h2 => by have h3 := hd39 j h1; have h4 := (fun j hj => hs31.lt j hj) j h2; omega
        have hds_hs39_hs33 : ∀ j, u39.ownBlock = some j → u33.ownBlock ≠ some j := fun j h1 h2 => by have h3 := hd39 j h1; have h4 := (fun j hj => hs33.lt j hj) j h2; omega
        have hds_hs39_hs35 : ∀ j, u39.ownBlock = some j → u35.ownBlock ≠ some j := fun j h1 h2 => by have h3 := hd39 j h1; have h4 := (fun j hj => hs35.lt j hj) j h2; omega
        have hds_hs39_hs37 : ∀ j, u39.ownBlock = some j → u37.ownBlock ≠ some j := fun j h1 h2 => by have h3 := hd39 j h1; have h4 := (fun j hj => hs37.lt j hj) j h2; omega
        replace hd39 : ∀ j, u39.ownBlock = some j → w0.heap.size ≤ j := fun j hj => Nat.le_trans hB.size (hd39 j hj)
        replace hB := keepB0 hg hB
        replace hs25 := keepS0 hg hs25
        replace hs31 := keepS0 hg hs31
        replace hs33 := keepS0 hg hs33
        replace hs35 := keepS0 hg hs35
        replace hs37 := keepS0 hg hs37
        clear hg
        refine ⟨fun w => (Sl w u39 ((sg signed (mk secret (epo now per) src)).map e8)) ∧ (Sl w u37 ((sg signed (mk secret (epo now per) src)).map e8)) ∧ (Sl w u35 ((sg (mk secret (epo now per) src) signed).map e8)) ∧ (Sl w u33 ((sg (mk secret (epo now per) src) signed).map e8)) ∧ (Sl w u31 ((mk secret (epo now per) src).map e8)) ∧ Below w0.heap.size w0 w ∧ Sl w u25 ((mk secret (epo now per) src).map e8) ∧ True, fun w h => h.2, fun _ => ⟨hs39, hs37, hs35, hs33, hs31, hB, hs25, trivial⟩, _, rfl, ?_⟩; intro a ha
        refine cvg ha rfl rfl (fun w ⟨hs39, hs37, hs35, hs33, hs31, hB, hs25, _⟩ => r_str (l := sg signed (mk secret (epo now per) src)) ha Tryd.underlying22 Tryd.underlying5 Tryd.underlying9 rfl hs39) rfl rfl rfl rfl rfl ?_; clear ha a; intro a ha
        refine cvg ha rfl rfl (fun w _ => r_eqlS ha (sg signed (mk secret (epo now per) src)) (sg signed (mk secret (epo now per) src)) true rfl rfl (decide_eq_true rfl)) rfl rfl rfl rfl rfl ?_; clear ha a; intro a ha
        refine cv ha rfl rfl (fun w _ => r_pick ha true rfl rfl) rfl rfl rfl ?_; clear ha a; intro a ha
        refine cv ha rfl rfl (fun w _ => r_assign ha rfl) rfl rfl rfl ?_; clear ha a; intro a ha
        refine cfin (hK27 _ _ ?_); clear hK27 K26
        refine wp_ret ?_
        repeat (first | (with_reducible refine t_ret ?_) | (with_reducible refine x_ret ?_))
        exact ret1 ha Tryd.results13 rfl ⟨rfl, hB⟩
    case true =>
      replace hq15 := of_decide_eq_true hq15
      refine sno ha rfl rfl rfl rfl rfl rfl ?_; clear ha a; intro a ha
      refine sno ha rfl rfl rfl rfl rfl rfl ?_; clear ha a; intro a ha
      refine sno ha rfl rfl rfl rfl rfl rfl ?_; clear ha a; intro a ha
      refine sv ha (r_pick ha true rfl rfl) rfl rfl rfl ?_; clear ha a; intro a ha
      refine hK13 _ _ ?_; clear hK13 K12
      refine cond_t ha rfl ?_
      refine wp_seq_k fun K40 hK41 => ?_
      refine region ?_
      refine sv ha (r_assign ha rfl) rfl rfl rfl ?_; clear ha a; intro a ha
      refine hK41 _ _ ?_; clear hK41 K40
      refine wp_ret ?_
      repeat (first | (with_reducible refine t_ret ?_) | (with_reducible refine x_ret ?_))
      exact ret1 ha Tryd.results13 rfl ⟨rfl, hB⟩
  case true =>
    replace hq14 := of_decide_eq_true hq14
    refine sno ha rfl rfl rfl rfl rfl rfl ?_; clear ha a; intro a ha
    refine sno ha rfl rfl rfl rfl rfl rfl ?_; clear ha a; intro a ha
    refine sno ha rfl rfl rfl rfl rfl rfl ?_; clear ha a; intro a ha
    refine sv ha (r_pick ha true rfl rfl) rfl rfl rfl ?_; clear ha a; intro a ha
    refine sv ha (r_move ha rfl) rfl rfl rfl ?_; clear ha a; intro a ha
    refine sno ha rfl rfl rfl rfl rfl rfl ?_; clear ha a; intro a ha
    refine sno ha rfl rfl rfl rfl rfl rfl ?_; clear ha a; intro a ha
    refine sno ha rfl rfl rfl rfl rfl rfl ?_; clear ha a; intro a ha
    refine sv ha (r_pick ha true rfl rfl) rfl rfl rfl ?_; clear ha a; intro a ha
    refine hK13 _ _ ?_; clear hK13 K12
    refine cond_t ha rfl ?_
    refine wp_seq_k fun K42 hK43 => ?_
    refine region ?_
    refine sv ha (r_assign ha rfl) rfl rfl rfl ?_; clear ha a; intro a ha
    refine hK43 _ _ ?_; clear hK43 K42
    refine wp_ret ?_
    repeat (first | (with_reducible refine t_ret ?_) | (with_reducible refine x_ret ?_))
    exact ret1 ha Tryd.results13 rfl ⟨rfl, hB⟩

theorem law_CookieValid (v : Value) (secret : List UInt8) (made now per : UInt64) (src other : List UInt8) (u : Value) (signed : List UInt8) (x : Value) (m : List UInt8) (w0 : World) (hs : Sl w0 v (secret.map e8)) (hl4 : src.length ≤ maxLen) (hl5 : other.length ≤ maxLen) (hsu : Sl w0 u (signed.map e8)) (hsx : Sl w0 x (m.map e8)) (hG : Glob w0) :
    Calls Tryd.prog 14 #[v, e64 made, e64 now, e64 per, .string (strOf src), .string (strOf other), u, x] w0 fun e w' => e = .returned (.bool true) ∧ Below w0.heap.size w0 w' := by
  refine enter (args := [_, _, _, _, _, _, _, _]) Tryd.func14 rfl Tryd.ntmps14 rfl ?_
  intro a ha
  have hB := Below.refl w0.heap.size w0
  refine wp_seq_k fun K1 hK2 => ?_
  refine region ?_
  refine sv ha (r_assign ha rfl) rfl rfl rfl ?_; clear ha a; intro a ha
  refine hK2 _ _ ?_; clear hK2 K1
  refine wp_seq_k fun K3 hK4 => ?_
  refine region ?_
  refine sc ha (r_call ha [] rfl Tryd.call36) rfl rfl rfl (c_awake21  _ (glob_keep hG hB)) ?_
  clear ha a
  rintro e w5 ⟨rfl, hBc⟩
  have hg := grown_call hBc; clear hBc
  replace hB := keepB0 hg hB
  clear hg
  refine ⟨_, rfl, ?_⟩; intro a ha
  refine sv ha (r_assign ha rfl) rfl rfl rfl ?_; clear ha a; intro a ha
  refine hK4 _ _ ?_; clear hK4 K3
  refine wp_seq_k fun K6 hK7 => ?_
  refine wp_seq_k fun K8 hK9 => ?_
  refine region ?_
  refine sv ha (r_move ha rfl) rfl rfl rfl ?_; clear ha a; intro a ha
  refine sv ha (r_not ha true false rfl rfl) rfl rfl rfl ?_; clear ha a; intro a ha
  refine hK9 _ _ ?_; clear hK9 K8
  refine cond_f ha rfl ?_
  refine wp_skip ?_
  refine hK7 _ _ ?_; clear hK7 K6
  refine wp_seq_k fun K10 hK11 => ?_
  refine wp_seq_k fun K12 hK13 => ?_
  refine region ?_
  refine sv ha (r_move ha rfl) rfl rfl rfl ?_; clear ha a; intro a ha
  refine sv ha (r_lenS ha Tryd.runUnderlying22 (hs.below hB) rfl (by rw [List.length_map])) rfl rfl rfl ?_; clear ha a; intro a ha
  refine sv ha (r_gtr ha ((secret.length : Nat) : Int) 300 (decide (secret.length > 300)) rfl rfl (decide_eq_decide.2 (by omega))) rfl rfl rfl ?_; clear ha a; intro a ha
  refine sv ha (r_move ha rfl) rfl rfl rfl ?_; clear ha a; intro a ha
  cases hq14 : (decide (secret.length > 300))
  all_goals rw [hq14] at ha
  case false =>
    replace hq14 := of_decide_eq_false hq14
    refine svg ha (r_move ha rfl) rfl rfl rfl rfl rfl ?_; clear ha a; intro a ha
    refine svg ha (r_lenStr ha src Tryd.runUnderlying9 rfl) rfl rfl rfl rfl rfl ?_; clear ha a; intro a ha
    refine svg ha (r_gtr ha ((src.length : Nat) : Int) 300 (decide (src.length > 300)) rfl rfl (decide_eq_decide.2 (by omega))) rfl rfl rfl rfl rfl ?_; clear ha a; intro a ha
    refine sv ha (r_pick ha false rfl rfl) rfl rfl rfl ?_; clear ha a; intro a ha
    refine sv ha (r_move ha rfl) rfl rfl rfl ?_; clear ha a; intro a ha
    cases hq15 : (decide (src.length > 300))
    all_goals rw [hq15] at ha
    case false =>
      replace hq15 := of_decide_eq_false hq15
      refine svg ha (r_move ha rfl) rfl rfl rfl rfl rfl ?_; clear ha a; intro a ha
      refine svg ha (r_lenStr ha other Tryd.runUnderlying9 rfl) rfl rfl rfl rfl rfl ?_; clear ha a; intro a ha
      refine svg ha (r_gtr ha ((other.length : Nat) : Int) 300 (decide (other.length > 300)) rfl rfl (decide_eq_decide.2 (by omega))) rfl rfl rfl rfl rfl ?_; clear ha a; intro a ha
      refine sv ha (r_pick ha false rfl rfl) rfl rfl rfl ?_; clear ha a; intro a ha
      refine sv ha (r_move ha rfl) rfl rfl rfl ?_; clear ha a; intro a ha
      cases hq16 : (decide (other.length > 300))
      all_goals rw [hq16] at ha
      case false =>
        replace hq16 := of_decide_eq_false hq16
        refine svg ha (r_move ha rfl) rfl rfl rfl rfl rfl ?_; clear ha a; intro a ha
        refine svg ha (r_lenS ha Tryd.runUnderlying22 (hsu.below hB) rfl (by rw [List.length_map])) rfl rfl rfl rfl rfl ?_; clear ha a; intro a ha
        refine svg ha (r_gtr ha ((signed.length : Nat) : Int) 2000 (decide (signed.length > 2000)) rfl rfl (decide_eq_decide.2 (by omega))) rfl rfl rfl rfl rfl ?_; clear ha a; intro a ha
        refine sv ha (r_pick ha false rfl rfl) rfl rfl rfl ?_; clear ha a; intro a ha
        refine sv ha (r_move ha rfl) rfl rfl rfl ?_; clear ha a; intro a ha
        cases hq17 : (decide (signed.length > 2000))
        all_goals rw [hq17] at ha
        case false =>
          replace hq17 := of_decide_eq_false hq17
          refine svg ha (r_move ha rfl) rfl rfl rfl rfl rfl ?_; clear ha a; intro a ha
          refine svg ha (r_lenS ha Tryd.runUnderlying22 (hsx.below hB) rfl (by rw [List.length_map])) rfl rfl rfl rfl rfl ?_; clear ha a; intro a ha
          refine svg ha (r_gtr ha ((m.length : Nat) : Int) 100 (decide (m.length > 100)) rfl rfl (decide_eq_decide.2 (by omega))) rfl rfl rfl rfl rfl ?_; clear ha a; intro a ha
          refine sv ha (r_pick ha false rfl rfl) rfl rfl rfl ?_; clear ha a; intro a ha
          refine hK13 _ _ ?_; clear hK13 K12
          refine cond_if ha rfl (fun hc18 => ?_) (fun hc18 => ?_)
          · skip
            replace hc18 := of_decide_eq_true hc18
            refine wp_seq_k fun K19 hK20 => ?_
            refine region ?_
            refine sv ha (r_assign ha rfl) rfl rfl rfl ?_; clear ha a; intro a ha
            refine hK20 _ _ ?_; clear hK20 K19
            refine wp_ret ?_
            repeat (first | (with_reducible refine t_ret ?_) | (with_reducible refine x_ret ?_))
            exact ret1 ha Tryd.results14 rfl ⟨rfl, hB⟩
          · skip
            replace hc18 := of_decide_eq_false hc18
            refine wp_skip ?_
            refine hK11 _ _ ?_; clear hK11 K10
            refine wp_seq_k fun K21 hK22 => ?_
            refine region ?_
            refine sv ha (r_move ha rfl) rfl rfl rfl ?_; clear ha a; intro a ha
            refine sv ha (r_move ha rfl) rfl rfl rfl ?_; clear ha a; intro a ha
            refine sv ha (r_move ha rfl) rfl rfl rfl ?_; clear ha a; intro a ha
            refine sc ha (r_call ha [e64 made, e64 per] rfl Tryd.call39) rfl rfl rfl (c_repoch made per _ ) ?_
            clear ha a
            rintro e w23 ⟨rfl, hBc⟩
            have hg := grown_call hBc; clear hBc
            replace hB := keepB0 hg hB
            clear hg
            refine ⟨_, rfl, ?_⟩; intro a ha
            refine sv ha (r_move ha rfl) rfl rfl rfl ?_; clear ha a; intro a ha
            refine sc ha (r_call ha [v, e64 (epo made per), .string (strOf src)] rfl Tryd.call40) rfl rfl rfl (c_rmake v secret (epo made per) src _ (hs.below hB) (by first | omega | (rw [mk_len]; omega) | (rw [sg_len]; omega) | decide) (by first | omega | (rw [mk_len]; omega) | (rw [sg_len]; omega) | decide)) ?_
            clear ha a
            rintro e w24 ⟨u25, rfl, hBc, hs25, hd25⟩
            have hg := grown_call hBc; clear hBc
            replace hd25 : ∀ j, u25.ownBlock = some j → w0.heap.size ≤ j := fun j hj => Nat.le_trans hB.size (hd25 j hj)
            replace hB := keepB0 hg hB
            clear hg
            refine ⟨_, rfl, ?_⟩; intro a ha
            refine sv ha (r_move ha rfl) rfl rfl rfl ?_; clear ha a; intro a ha
            refine sc ha (r_call ha [u25, u] rfl Tryd.call42) rfl rfl rfl (c_rsign u25 (mk secret (epo made per) src) u signed _ hs25 (hsu.below hB) (by first | omega | (rw [mk_len]; omega) | (rw [sg_len]; omega) | decide) (by first | omega | (rw [mk_len]; omega) | (rw [sg_len]; omega) | decide)) ?_
            clear ha a
            rintro e w26 ⟨u27, rfl, hBc, hs27, hd27⟩
            have hg := grown_call hBc; clear hBc
            have hds_hs27_hs25 : ∀ j, u27.ownBlock = some j → u25.ownBlock ≠ some j := fun j h1 h2 => by have h3 := hd27 j h1; have h4 := (fun j hj => hs25.lt j hj) j h2; omega
            replace hd27 : ∀ j, u27.ownBlock = some j → w0.heap.size ≤ j := fun j hj => Nat.le_trans hB.size (hd27 j hj)
            replace hB := keepB0 hg hB
            replace hs25 := keepS0 hg hs25
            clear hg
            refine ⟨_, rfl, ?_⟩; intro a ha
            refine sv ha (r_assign ha rfl) rfl rfl rfl ?_; clear ha a; intro a ha
            refine hK22 _ _ ?_; clear hK22 K21
            refine wp_seq_k fun K28 hK29 => ?_
            refine region ?_
            refine sv ha (r_move ha rfl) rfl rfl rfl ?_; clear ha a; intro a ha
            refine sv ha (r_move ha rfl) rfl rfl rfl ?_; clear ha a; intro a ha
            refine sv ha (r_move ha rfl) rfl rfl rfl ?_; clear ha a; intro a ha
            refine sv ha (r_move ha rfl) rfl rfl rfl ?_; clear ha a; intro a ha
            refine sv ha (r_move ha rfl) rfl rfl rfl ?_; clear ha a; intro a ha
            refine sv ha (r_move ha rfl) rfl rfl rfl ?_; clear ha a; intro a ha
            refine sc ha (r_call ha [v, e64 now, e64 per, .string (strOf other), u, u27] rfl Tryd.call43) rfl rfl rfl (c_valid v secret now per other u signed u27 (sg (mk secret (epo made per) src) signed) _ (hs.below hB) (hsu.below hB) hs27 (by first | omega | (rw [mk_len]; omega) | (rw [sg_len]; omega) | decide) (by first | omega | (rw [mk_len]; omega) | (rw [sg_len]; omega) | decide) (by first | omega | (rw [mk_len]; omega) | (rw [sg_len]; omega) | decide) (glob_keep hG hB)) ?_
            clear ha a
            rintro e w30 ⟨rfl, hBc⟩
            have hg := grown_call hBc; clear hBc
            replace hB := keepB0 hg hB
            replace hs25 := keepS0 hg hs25
            replace hs27 := keepS0 hg hs27
            clear hg
            refine ⟨_, rfl, ?_⟩; intro a ha
            refine sv ha (r_move ha rfl) rfl rfl rfl ?_; clear ha a; intro a ha
            refine sv ha (r_move ha rfl) rfl rfl rfl ?_; clear ha a; intro a ha
            refine sv ha (r_move ha rfl) rfl rfl rfl ?_; clear ha a; intro a ha
            refine sv ha (r_move ha rfl) rfl rfl rfl ?_; clear ha a; intro a ha
            refine sv ha (r_move ha rfl) rfl rfl rfl ?_; clear ha a; intro a ha
            refine sv ha (r_move ha rfl) rfl rfl rfl ?_; clear ha a; intro a ha
            refine sc ha (r_call ha [v, e64 now, e64 per, .string (strOf other), u, u27] rfl Tryd.call44) rfl rfl rfl (c_rvalid v secret now per other u signed u27 (sg (mk secret (epo made per) src) signed) _ (hs.below hB) (hsu.below hB) hs27 (by first | omega | (rw [mk_len]; omega) | (rw [sg_len]; omega) | decide) (by first | omega | (rw [mk_len]; omega) | (rw [sg_len]; omega) | decide) (by first | omega | (rw [mk_len]; omega) | (rw [sg_len]; omega) | decide)) ?_
            clear ha a
            rintro e w31 ⟨rfl, hBc⟩
            have hg := grown_call hBc; clear hBc
            replace hB := keepB0 hg hB
            replace hs25 := keepS0 hg hs25
            replace hs27 := keepS0 hg hs27
            clear hg
            refine ⟨_, rfl, ?_⟩; intro a ha
            refine sv ha (r_eqlB ha (cval secret (epo now per) other signed (sg (mk secret (epo made per) src) signed)) (cval secret (epo now per) other signed (sg (mk secret (epo made per) src) signed)) true rfl rfl Tryd.runUnderlying4 (beq_self_eq_true _)) rfl rfl rfl ?_; clear ha a; intro a ha
            refine sv ha (r_move ha rfl) rfl rfl rfl ?_; clear ha a; intro a ha
            refine svg ha (r_move ha rfl) rfl rfl rfl rfl rfl ?_; clear ha a; intro a ha
            refine svg ha (r_move ha rfl) rfl rfl rfl rfl rfl ?_; clear ha a; intro a ha
            refine svg ha (r_move ha rfl) rfl rfl rfl rfl rfl ?_; clear ha a; intro a ha
            refine svg ha (r_move ha rfl) rfl rfl rfl rfl rfl ?_; clear ha a; intro a ha
            refine svg ha (r_move ha rfl) rfl rfl rfl rfl rfl ?_; clear ha a; intro a ha
            refine svg ha (r_move ha rfl) rfl rfl rfl rfl rfl ?_; clear ha a; intro a ha
            refine scg ha (r_call ha [v, e64 now, e64 per, .string (strOf src), u, x] rfl Tryd.call43) rfl rfl rfl rfl rfl (c_valid v secret now per src u signed x m _ (hs.below hB) (hsu.below hB) (hsx.below hB) (by first | omega | (rw [mk_len]; omega) | (rw [sg_len]; omega) | decide) (by first | omega | (rw [mk_len]; omega) | (rw [sg_len]; omega) | decide) (by first | omega | (rw [mk_len]; omega) | (rw [sg_len]; omega) | decide) (glob_keep hG hB)) ?_
            clear ha a
            rintro e w32 ⟨rfl, hBc⟩
            have hg := grown_call hBc; clear hBc
            replace hB := keepB0 hg hB
            replace hs25 := keepS0 hg hs25
            replace hs27 := keepS0 hg hs27
            clear hg
            refine ⟨_, rfl, ?_⟩; intro a ha
            refine svg ha (r_move ha rfl) rfl rfl rfl rfl rfl ?_; clear ha a; intro a ha
            refine svg ha (r_move ha rfl) rfl rfl rfl rfl rfl ?_; clear ha a; intro a ha
            refine svg ha (r_move ha rfl) rfl rfl rfl rfl rfl ?_; clear ha a; intro a ha
            refine svg ha (r_move ha rfl) rfl rfl rfl rfl rfl ?_; clear ha a; intro a ha
            refine svg ha (r_move ha rfl) rfl rfl rfl rfl rfl ?_; clear ha a; intro a ha
            refine svg ha (r_move ha rfl) rfl rfl rfl rfl rfl ?_; clear ha a; intro a ha
            refine scg ha (r_call ha [v, e64 now, e64 per, .string (strOf src), u, x] rfl Tryd.call44) rfl rfl rfl rfl rfl (c_rvalid v secret now per src u signed x m _ (hs.below hB) (hsu.below hB) (hsx.below hB) (by first | omega | (rw [mk_len]; omega) | (rw [sg_len]; omega) | decide) (by first | omega | (rw [mk_len]; omega) | (rw [sg_len]; omega) | decide) (by first | omega | (rw [mk_len]; omega) | (rw [sg_len]; omega) | decide)) ?_
            clear ha a
            rintro e w33 ⟨rfl, hBc⟩
            have hg := grown_call hBc; clear hBc
            replace hB := keepB0 hg hB
            replace hs25 := keepS0 hg hs25
            replace hs27 := keepS0 hg hs27
            clear hg
            refine ⟨_, rfl, ?_⟩; intro a ha
            refine svg ha (r_eqlB ha (cval secret (epo now per) src signed m) (cval secret (epo now per) src signed m) true rfl rfl Tryd.runUnderlying4 (beq_self_eq_true _)) rfl rfl rfl rfl rfl ?_; clear ha a; intro a ha
            refine sv ha (r_pick ha true rfl rfl) rfl rfl rfl ?_; clear ha a; intro a ha
            refine sv ha (r_assign ha rfl) rfl rfl rfl ?_; clear ha a; intro a ha
            refine hK29 _ _ ?_; clear hK29 K28
            refine wp_ret ?_
            repeat (first | (with_reducible refine t_ret ?_) | (with_reducible refine x_ret ?_))
            exact ret1 ha Tryd.results14 rfl ⟨rfl, hB⟩
        case true =>
          replace hq17 := of_decide_eq_true hq17
          refine sno ha rfl rfl rfl rfl rfl rfl ?_; clear ha a; intro a ha
          refine sno ha rfl rfl rfl rfl rfl rfl ?_; clear ha a; intro a ha
          refine sno ha rfl rfl rfl rfl rfl rfl ?_; clear ha a; intro a ha
          refine sv ha (r_pick ha true rfl rfl) rfl rfl rfl ?_; clear ha a; intro a ha
          refine hK13 _ _ ?_; clear hK13 K12
          refine cond_t ha rfl ?_
          refine wp_seq_k fun K34 hK35 => ?_
          refine region ?_
          refine sv ha (r_assign ha rfl) rfl rfl rfl ?_; clear ha a; intro a ha
          refine hK35 _ _ ?_; clear hK35 K34
          refine wp_ret ?_
          repeat (first | (with_reducible refine t_ret ?_) | (with_reducible refine x_ret ?_))
          exact ret1 ha Tryd.results14 rfl ⟨rfl, hB⟩
      case true =>
        replace hq16 := of_decide_eq_true hq16
        refine sno ha rfl rfl rfl rfl rfl rfl ?_; clear ha a; intro a ha
        refine sno ha rfl rfl rfl rfl rfl rfl ?_; clear ha a; intro a ha
        refine sno ha rfl rfl rfl rfl rfl rfl ?_; clear ha a; intro a ha
        refine sv ha (r_pick ha true rfl rfl) rfl rfl rfl ?_; clear ha a; intro a ha
        refine sv ha (r_move ha rfl) rfl rfl rfl ?_; clear ha a; intro a ha
        refine sno ha rfl rfl rfl rfl rfl rfl ?_; clear ha a; intro a ha
        refine sno ha rfl rfl rfl rfl rfl rfl ?_; clear ha a; intro a ha
        refine sno ha rfl rfl rfl rfl rfl rfl ?_; clear ha a; intro a ha
        refine sv ha (r_pick ha true rfl rfl) rfl rfl rfl ?_; clear ha a; intro a ha
        refine hK13 _ _ ?_; clear hK13 K12
        refine cond_t ha rfl ?_
        refine wp_seq_k fun K36 hK37 => ?_
        refine region ?_
        refine sv ha (r_assign ha rfl) rfl rfl rfl ?_; clear ha a; intro a ha
        refine hK37 _ _ ?_; clear hK37 K36
        refine wp_ret ?_
        repeat (first | (with_reducible refine t_ret ?_) | (with_reducible refine x_ret ?_))
        exact ret1 ha Tryd.results14 rfl ⟨rfl, hB⟩
    case true =>
      replace hq15 := of_decide_eq_true hq15
      refine sno ha rfl rfl rfl rfl rfl rfl ?_; clear ha a; intro a ha
      refine sno ha rfl rfl rfl rfl rfl rfl ?_; clear ha a; intro a ha
      refine sno ha rfl rfl rfl rfl rfl rfl ?_; clear ha a; intro a ha
      refine sv ha (r_pick ha true rfl rfl) rfl rfl rfl ?_; clear ha a; intro a ha
      refine sv ha (r_move ha rfl) rfl rfl rfl ?_; clear ha a; intro a ha
      refine sno ha rfl rfl rfl rfl rfl rfl ?_; clear ha a; intro a ha
      refine sno ha rfl rfl rfl rfl rfl rfl ?_; clear ha a; intro a ha
      refine sno ha rfl rfl rfl rfl rfl rfl ?_; clear ha a; intro a ha
      refine sv ha (r_pick ha true rfl rfl) rfl rfl rfl ?_; clear ha a; intro a ha
      refine sv ha (r_move ha rfl) rfl rfl rfl ?_; clear ha a; intro a ha
      refine sno ha rfl rfl rfl rfl rfl rfl ?_; clear ha a; intro a ha
      refine sno ha rfl rfl rfl rfl rfl rfl ?_; clear ha a; intro a ha
      refine sno ha rfl rfl rfl rfl rfl rfl ?_; clear ha a; intro a ha
      refine sv ha (r_pick ha true rfl rfl) rfl rfl rfl ?_; clear ha a; intro a ha
      refine hK13 _ _ ?_; clear hK13 K12
      refine cond_t ha rfl ?_
      refine wp_seq_k fun K38 hK39 => ?_
      refine region ?_
      refine sv ha (r_assign ha rfl) rfl rfl rfl ?_; clear ha a; intro a ha
      refine hK39 _ _ ?_; clear hK39 K38
      refine wp_ret ?_
      repeat (first | (with_reducible refine t_ret ?_) | (with_reducible refine x_ret ?_))
      exact ret1 ha Tryd.results14 rfl ⟨rfl, hB⟩
  case true =>
    replace hq14 := of_decide_eq_true hq14
    refine sno ha rfl rfl rfl rfl rfl rfl ?_; clear ha a; intro a ha
    refine sno ha rfl rfl rfl rfl rfl rfl ?_; clear ha a; intro a ha
    refine sno ha rfl rfl rfl rfl rfl rfl ?_; clear ha a; intro a ha
    refine sv ha (r_pick ha true rfl rfl) rfl rfl rfl ?_; clear ha a; intro a ha
    refine sv ha (r_move ha rfl) rfl rfl rfl ?_; clear ha a; intro a ha
    refine sno ha rfl rfl rfl rfl rfl rfl ?_; clear ha a; intro a ha
    refine sno ha rfl rfl rfl rfl rfl rfl ?_; clear ha a; intro a ha
    refine sno ha rfl rfl rfl rfl rfl rfl ?_; clear ha a; intro a ha
    refine sv ha (r_pick ha true rfl rfl) rfl rfl rfl ?_; clear ha a; intro a ha
    refine sv ha (r_move ha rfl) rfl rfl rfl ?_; clear ha a; intro a ha
    refine sno ha rfl rfl rfl rfl rfl rfl ?_; clear ha a; intro a ha
    refine sno ha rfl rfl rfl rfl rfl rfl ?_; clear ha a; intro a ha
    refine sno ha rfl rfl rfl rfl rfl rfl ?_; clear ha a; intro a ha
    refine sv ha (r_pick ha true rfl rfl) rfl rfl rfl ?_; clear ha a; intro a ha
    refine sv ha (r_move ha rfl) rfl rfl rfl ?_; clear ha a; intro a ha
    refine sno ha rfl rfl rfl rfl rfl rfl ?_; clear ha a; intro a ha
    refine sno ha rfl rfl rfl rfl rfl rfl ?_; clear ha a; intro a ha
    refine sno ha rfl rfl rfl rfl rfl rfl ?_; clear ha a; intro a ha
    refine sv ha (r_pick ha true rfl rfl) rfl rfl rfl ?_; clear ha a; intro a ha
    refine hK13 _ _ ?_; clear hK13 K12
    refine cond_t ha rfl ?_
    refine wp_seq_k fun K40 hK41 => ?_
    refine region ?_
    refine sv ha (r_assign ha rfl) rfl rfl rfl ?_; clear ha a; intro a ha
    refine hK41 _ _ ?_; clear hK41 K40
    refine wp_ret ?_
    repeat (first | (with_reducible refine t_ret ?_) | (with_reducible refine x_ret ?_))
    exact ret1 ha Tryd.results14 rfl ⟨rfl, hB⟩

theorem law_CookieLasts (v : Value) (secret : List UInt8) (now per later : UInt64) (src : List UInt8) (u : Value) (signed : List UInt8) (w0 : World) (hs : Sl w0 v (secret.map e8)) (hl4 : src.length ≤ maxLen) (hsu : Sl w0 u (signed.map e8)) (hG : Glob w0) :
    Calls Tryd.prog 15 #[v, e64 now, e64 per, e64 later, .string (strOf src), u] w0 fun e w' => e = .returned (.bool true) ∧ Below w0.heap.size w0 w' := by
  refine enter (args := [_, _, _, _, _, _]) Tryd.func15 rfl Tryd.ntmps15 rfl ?_
  intro a ha
  have hB := Below.refl w0.heap.size w0
  refine wp_seq_k fun K1 hK2 => ?_
  refine region ?_
  refine sv ha (r_assign ha rfl) rfl rfl rfl ?_; clear ha a; intro a ha
  refine hK2 _ _ ?_; clear hK2 K1
  refine wp_seq_k fun K3 hK4 => ?_
  refine region ?_
  refine sc ha (r_call ha [] rfl Tryd.call36) rfl rfl rfl (c_awake21  _ (glob_keep hG hB)) ?_
  clear ha a
  rintro e w5 ⟨rfl, hBc⟩
  have hg := grown_call hBc; clear hBc
  replace hB := keepB0 hg hB
  clear hg
  refine ⟨_, rfl, ?_⟩; intro a ha
  refine sv ha (r_assign ha rfl) rfl rfl rfl ?_; clear ha a; intro a ha
  refine hK4 _ _ ?_; clear hK4 K3
  refine wp_seq_k fun K6 hK7 => ?_
  refine wp_seq_k fun K8 hK9 => ?_
  refine region ?_
  refine sv ha (r_move ha rfl) rfl rfl rfl ?_; clear ha a; intro a ha
  refine sv ha (r_not ha true false rfl rfl) rfl rfl rfl ?_; clear ha a; intro a ha
  refine hK9 _ _ ?_; clear hK9 K8
  refine cond_f ha rfl ?_
  refine wp_skip ?_
  refine hK7 _ _ ?_; clear hK7 K6
  refine wp_seq_k fun K10 hK11 => ?_
  refine wp_seq_k fun K12 hK13 => ?_
  refine region ?_
  refine sv ha (r_move ha rfl) rfl rfl rfl ?_; clear ha a; intro a ha
  refine sv ha (r_lenS ha Tryd.runUnderlying22 (hs.below hB) rfl (by rw [List.length_map])) rfl rfl rfl ?_; clear ha a; intro a ha
  refine sv ha (r_gtr ha ((secret.length : Nat) : Int) 300 (decide (secret.length > 300)) rfl rfl (decide_eq_decide.2 (by omega))) rfl rfl rfl ?_; clear ha a; intro a ha
  refine sv ha (r_move ha rfl) rfl rfl rfl ?_; clear ha a; intro a ha
  cases hq14 : (decide (secret.length > 300))
  all_goals rw [hq14] at ha
  case false =>
    replace hq14 := of_decide_eq_false hq14
    refine svg ha (r_move ha rfl) rfl rfl rfl rfl rfl ?_; clear ha a; intro a ha
    refine svg ha (r_lenStr ha src Tryd.runUnderlying9 rfl) rfl rfl rfl rfl rfl ?_; clear ha a; intro a ha
    refine svg ha (r_gtr ha ((src.length : Nat) : Int) 300 (decide (src.length > 300)) rfl rfl (decide_eq_decide.2 (by omega))) rfl rfl rfl rfl rfl ?_; clear ha a; intro a ha
    refine sv ha (r_pick ha false rfl rfl) rfl rfl rfl ?_; clear ha a; intro a ha
    refine sv ha (r_move ha rfl) rfl rfl rfl ?_; clear ha a; intro a ha
    cases hq15 : (decide (src.length > 300))
    all_goals rw [hq15] at ha
    case false =>
      replace hq15 := of_decide_eq_false hq15
      refine svg ha (r_move ha rfl) rfl rfl rfl rfl rfl ?_; clear ha a; intro a ha
      refine svg ha (r_lenS ha Tryd.runUnderlying22 (hsu.below hB) rfl (by rw [List.length_map])) rfl rfl rfl rfl rfl ?_; clear ha a; intro a ha
      refine svg ha (r_gtr ha ((signed.length : Nat) : Int) 2000 (decide (signed.length > 2000)) rfl rfl (decide_eq_decide.2 (by omega))) rfl rfl rfl rfl rfl ?_; clear ha a; intro a ha
      refine sv ha (r_pick ha false rfl rfl) rfl rfl rfl ?_; clear ha a; intro a ha
      refine hK13 _ _ ?_; clear hK13 K12
      refine cond_if ha rfl (fun hc16 => ?_) (fun hc16 => ?_)
      · skip
        replace hc16 := of_decide_eq_true hc16
        refine wp_seq_k fun K17 hK18 => ?_
        refine region ?_
        refine sv ha (r_assign ha rfl) rfl rfl rfl ?_; clear ha a; intro a ha
        refine hK18 _ _ ?_; clear hK18 K17
        refine wp_ret ?_
        repeat (first | (with_reducible refine t_ret ?_) | (with_reducible refine x_ret ?_))
        exact ret1 ha Tryd.results15 rfl ⟨rfl, hB⟩
      · skip
        replace hc16 := of_decide_eq_false hc16
        refine wp_skip ?_
        refine hK11 _ _ ?_; clear hK11 K10
        refine wp_seq_k fun K19 hK20 => ?_
        refine region ?_
        refine sv ha (r_move ha rfl) rfl rfl rfl ?_; clear ha a; intro a ha
        refine sv ha (ru_and ha per (65535 : UInt64) rfl rfl) rfl rfl rfl ?_; clear ha a; intro a ha
        refine sv ha (v_of (ru_add ha (per &&& (65535 : UInt64)) (1 : UInt64) rfl rfl) (congrArg e64 (rfl : (per &&& (65535 : UInt64)) + (1 : UInt64) = lP per))) rfl rfl rfl ?_; clear ha a; intro a ha
        refine sv ha (r_assign ha rfl) rfl rfl rfl ?_; clear ha a; intro a ha
        refine hK20 _ _ ?_; clear hK20 K19
        refine wp_seq_k fun K21 hK22 => ?_
        refine region ?_
        refine sv ha (r_move ha rfl) rfl rfl rfl ?_; clear ha a; intro a ha
        refine sv ha (v_of (ru_and ha now (281474976710655 : UInt64) rfl rfl) (congrArg e64 (rfl : now &&& (281474976710655 : UInt64) = lT now))) rfl rfl rfl ?_; clear ha a; intro a ha
        refine sv ha (r_assign ha rfl) rfl rfl rfl ?_; clear ha a; intro a ha
        refine hK22 _ _ ?_; clear hK22 K21
        refine wp_seq_k fun K23 hK24 => ?_
        refine region ?_
        refine sv ha (r_move ha rfl) rfl rfl rfl ?_; clear ha a; intro a ha
        refine sv ha (r_move ha rfl) rfl rfl rfl ?_; clear ha a; intro a ha
        refine sv ha (r_move ha rfl) rfl rfl rfl ?_; clear ha a; intro a ha
        refine sc ha (r_call ha [e64 (lT now), e64 (lP per)] rfl Tryd.call37) rfl rfl rfl (c_epoch (lT now) (lP per) _ ) ?_
        clear ha a
        rintro e w25 ⟨rfl, hBc⟩
        have hg := grown_call hBc; clear hBc
        replace hB := keepB0 hg hB
        clear hg
        refine ⟨_, rfl, ?_⟩; intro a ha
        refine sv ha (r_move ha rfl) rfl rfl rfl ?_; clear ha a; intro a ha
        refine sc ha (r_call ha [v, e64 (epo (lT now) (lP per)), .string (strOf src)] rfl Tryd.call38) rfl rfl rfl (c_make v secret (epo (lT now) (lP per)) src _ (hs.below hB) (by first | omega | (rw [mk_len]; omega) | (rw [sg_len]; omega) | decide) (by first | omega | (rw [mk_len]; omega) | (rw [sg_len]; omega) | decide) (glob_keep hG hB)) ?_
        clear ha a
        rintro e w26 ⟨u27, rfl, hBc, hs27, hd27⟩
        have hg := grown_call hBc; clear hBc
        replace hd27 : ∀ j, u27.ownBlock = some j → w0.heap.size ≤ j := fun j hj => Nat.le_trans hB.size (hd27 j hj)
        replace hB := keepB0 hg hB
        clear hg
        refine ⟨_, rfl, ?_⟩; intro a ha
        refine sv ha (r_move ha rfl) rfl rfl rfl ?_; clear ha a; intro a ha
        refine sc ha (r_call ha [u27, u] rfl Tryd.call41) rfl rfl rfl (c_sign u27 (mk secret (epo (lT now) (lP per)) src) u signed _ hs27 (hsu.below hB) (by first | omega | (rw [mk_len]; omega) | (rw [sg_len]; omega) | decide) (glob_keep hG hB)) ?_
        clear ha a
        rintro e w28 ⟨u29, rfl, hBc, hs29, hd29⟩
        have hg := grown_call hBc; clear hBc
        have hds_hs29_hs27 : ∀ j, u29.ownBlock = some j → u27.ownBlock ≠ some j := fun j h1 h2 => by have h3 := hd29 j h1; have h4 := (fun j hj => hs27.lt j hj) j h2; omega
        replace hd29 : ∀ j, u29.ownBlock = some j → w0.heap.size ≤ j := fun j hj => Nat.le_trans hB.size (hd29 j hj)
        replace hB := keepB0 hg hB
        replace hs27 := keepS0 hg hs27
        clear hg
        refine ⟨_, rfl, ?_⟩; intro a ha
        refine sv ha (r_assign ha rfl) rfl rfl rfl ?_; clear ha a; intro a ha
        refine hK24 _ _ ?_; clear hK24 K23
        refine wp_seq_k fun K30 hK31 => ?_
        refine region ?_
        refine sv ha (r_move ha rfl) rfl rfl rfl ?_; clear ha a; intro a ha
        refine sv ha (r_move ha rfl) rfl rfl rfl ?_; clear ha a; intro a ha
        refine sv ha (ru_quo ha (lT now) (lP per) rfl rfl (lP_pos per)) rfl rfl rfl ?_; clear ha a; intro a ha
        refine sv ha (ru_add ha ((lT now) / (lP per)) (2 : UInt64) rfl rfl) rfl rfl rfl ?_; clear ha a; intro a ha
        refine sv ha (r_move ha rfl) rfl rfl rfl ?_; clear ha a; intro a ha
        refine sv ha (ru_mul ha (((lT now) / (lP per)) + (2 : UInt64)) (lP per) rfl rfl) rfl rfl rfl ?_; clear ha a; intro a ha
        refine sv ha (r_assign ha rfl) rfl rfl rfl ?_; clear ha a; intro a ha
        refine hK31 _ _ ?_; clear hK31 K30
        refine wp_seq_k fun K32 hK33 => ?_
        refine region ?_
        refine sv ha (r_move ha rfl) rfl rfl rfl ?_; clear ha a; intro a ha
        refine sv ha (r_move ha rfl) rfl rfl rfl ?_; clear ha a; intro a ha
        refine sv ha (r_move ha rfl) rfl rfl rfl ?_; clear ha a; intro a ha
        refine sv ha (r_move ha rfl) rfl rfl rfl ?_; clear ha a; intro a ha
        refine sv ha (r_move ha rfl) rfl rfl rfl ?_; clear ha a; intro a ha
        refine sv ha (ru_sub ha ((((lT now) / (lP per)) + (2 : UInt64)) * (lP per)) (lT now) rfl rfl) rfl rfl rfl ?_; clear ha a; intro a ha
        refine sv ha (ru_rem ha later (((((lT now) / (lP per)) + (2 : UInt64)) * (lP per)) - (lT now)) rfl rfl (lgap now per).1) rfl rfl rfl ?_; clear ha a; intro a ha
        refine sv ha (ru_add ha (lT now) (later % (((((lT now) / (lP per)) + (2 : UInt64)) * (lP per)) - (lT now))) rfl rfl) rfl rfl rfl ?_; clear ha a; intro a ha
        refine sv ha (r_move ha rfl) rfl rfl rfl ?_; clear ha a; intro a ha
        refine sv ha (r_move ha rfl) rfl rfl rfl ?_; clear ha a; intro a ha
        refine sv ha (r_move ha rfl) rfl rfl rfl ?_; clear ha a; intro a ha
        refine sv ha (r_move ha rfl) rfl rfl rfl ?_; clear ha a; intro a ha
        refine sc ha (r_call ha [v, e64 ((lT now) + (later % (((((lT now) / (lP per)) + (2 : UInt64)) * (lP per)) - (lT now)))), e64 (lP per), .string (strOf src), u, u29] rfl Tryd.call43) rfl rfl rfl (c_valid v secret ((lT now) + (later % (((((lT now) / (lP per)) + (2 : UInt64)) * (lP per)) - (lT now)))) (lP per) src u signed u29 (sg (mk secret (epo (lT now) (lP per)) src) signed) _ (hs.below hB) (hsu.below hB) hs29 (by first | omega | (rw [mk_len]; omega) | (rw [sg_len]; omega) | decide) (by first | omega | (rw [mk_len]; omega) | (rw [sg_len]; omega) | decide) (by first | omega | (rw [mk_len]; omega) | (rw [sg_len]; omega) | decide) (glob_keep hG hB)) ?_
        clear ha a
        rintro e w34 ⟨rfl, hBc⟩
        have hg := grown_call hBc; clear hBc
        replace hB := keepB0 hg hB
        replace hs27 := keepS0 hg hs27
        replace hs29 := keepS0 hg hs29
        clear hg
        refine ⟨_, rfl, ?_⟩; intro a ha
        rw [show (cval secret (epo ((lT now) + (later % (((((lT now) / (lP per)) + (2 : UInt64)) * (lP per)) - (lT now)))) (lP per)) src signed (sg (mk secret (epo (lT now) (lP per)) src) signed)) = true from (cval_d _ _ _ _ _ (lasts now per later))] at ha
        refine sv ha (r_assign ha rfl) rfl rfl rfl ?_; clear ha a; intro a ha
        refine hK33 _ _ ?_; clear hK33 K32
        refine wp_ret ?_
        repeat (first | (with_reducible refine t_ret ?_) | (with_reducible refine x_ret ?_))
        exact ret1 ha Tryd.results15 rfl ⟨rfl, hB⟩
    case true =>
      replace hq15 := of_decide_eq_true hq15
      refine sno ha rfl rfl rfl rfl rfl rfl ?_; clear ha a; intro a ha
      refine sno ha rfl rfl rfl rfl rfl rfl ?_; clear ha a; intro a ha
      refine sno ha rfl rfl rfl rfl rfl rfl ?_; clear ha a; intro a ha
      refine sv ha (r_pick ha true rfl rfl) rfl rfl rfl ?_; clear ha a; intro a ha
      refine hK13 _ _ ?_; clear hK13 K12
      refine cond_t ha rfl ?_
      refine wp_seq_k fun K35 hK36 => ?_
      refine region ?_
      refine sv ha (r_assign ha rfl) rfl rfl rfl ?_; clear ha a; intro a ha
      refine hK36 _ _ ?_; clear hK36 K35
      refine wp_ret ?_
      repeat (first | (with_reducible refine t_ret ?_) | (with_reducible refine x_ret ?_))
      exact ret1 ha Tryd.results15 rfl ⟨rfl, hB⟩
  case true =>
    replace hq14 := of_decide_eq_true hq14
    refine sno ha rfl rfl rfl rfl rfl rfl ?_; clear ha a; intro a ha
    refine sno ha rfl rfl rfl rfl rfl rfl ?_; clear ha a; intro a ha
    refine sno ha rfl rfl rfl rfl rfl rfl ?_; clear ha a; intro a ha
    refine sv ha (r_pick ha true rfl rfl) rfl rfl rfl ?_; clear ha a; intro a ha
    refine sv ha (r_move ha rfl) rfl rfl rfl ?_; clear ha a; intro a ha
    refine sno ha rfl rfl rfl rfl rfl rfl ?_; clear ha a; intro a ha
    refine sno ha rfl rfl rfl rfl rfl rfl ?_; clear ha a; intro a ha
    refine sno ha rfl rfl rfl rfl rfl rfl ?_; clear ha a; intro a ha
    refine sv ha (r_pick ha true rfl rfl) rfl rfl rfl ?_; clear ha a; intro a ha
    refine hK13 _ _ ?_; clear hK13 K12
    refine cond_t ha rfl ?_
    refine wp_seq_k fun K37 hK38 => ?_
    refine region ?_
    refine sv ha (r_assign ha rfl) rfl rfl rfl ?_; clear ha a; intro a ha
    refine hK38 _ _ ?_; clear hK38 K37
    refine wp_ret ?_
    repeat (first | (with_reducible refine t_ret ?_) | (with_reducible refine x_ret ?_))
    exact ret1 ha Tryd.results15 rfl ⟨rfl, hB⟩

theorem law_CookieEpochs (now per : UInt64) (w0 : World) (hG : Glob w0) :
    Calls Tryd.prog 16 #[e64 now, e64 per] w0 fun e w' => e = .returned (.bool true) ∧ Below w0.heap.size w0 w' := by
  refine enter (args := [_, _]) Tryd.func16 rfl Tryd.ntmps16 rfl ?_
  intro a ha
  have hB := Below.refl w0.heap.size w0
  refine wp_seq_k fun K1 hK2 => ?_
  refine region ?_
  refine sv ha (r_assign ha rfl) rfl rfl rfl ?_; clear ha a; intro a ha
  refine hK2 _ _ ?_; clear hK2 K1
  refine wp_seq_k fun K3 hK4 => ?_
  refine region ?_
  refine sc ha (r_call ha [] rfl Tryd.call36) rfl rfl rfl (c_awake21  _ (glob_keep hG hB)) ?_
  clear ha a
  rintro e w5 ⟨rfl, hBc⟩
  have hg := grown_call hBc; clear hBc
  replace hB := keepB0 hg hB
  clear hg
  refine ⟨_, rfl, ?_⟩; intro a ha
  refine sv ha (r_assign ha rfl) rfl rfl rfl ?_; clear ha a; intro a ha
  refine hK4 _ _ ?_; clear hK4 K3
  refine wp_seq_k fun K6 hK7 => ?_
  refine wp_seq_k fun K8 hK9 => ?_
  refine region ?_
  refine sv ha (r_move ha rfl) rfl rfl rfl ?_; clear ha a; intro a ha
  refine sv ha (r_not ha true false rfl rfl) rfl rfl rfl ?_; clear ha a; intro a ha
  refine hK9 _ _ ?_; clear hK9 K8
  refine cond_f ha rfl ?_
  refine wp_skip ?_
  refine hK7 _ _ ?_; clear hK7 K6
  refine wp_seq_k fun K10 hK11 => ?_
  refine region ?_
  refine sv ha (r_move ha rfl) rfl rfl rfl ?_; clear ha a; intro a ha
  refine sv ha (r_move ha rfl) rfl rfl rfl ?_; clear ha a; intro a ha
  refine sc ha (r_call ha [e64 now, e64 per] rfl Tryd.call37) rfl rfl rfl (c_epoch now per _ ) ?_
  clear ha a
  rintro e w12 ⟨rfl, hBc⟩
  have hg := grown_call hBc; clear hBc
  replace hB := keepB0 hg hB
  clear hg
  refine ⟨_, rfl, ?_⟩; intro a ha
  refine sv ha (r_assign ha rfl) rfl rfl rfl ?_; clear ha a; intro a ha
  refine hK11 _ _ ?_; clear hK11 K10
  refine wp_seq_k fun K13 hK14 => ?_
  refine region ?_
  refine sv ha (r_move ha rfl) rfl rfl rfl ?_; clear ha a; intro a ha
  refine sv ha (r_assign ha rfl) rfl rfl rfl ?_; clear ha a; intro a ha
  refine hK14 _ _ ?_; clear hK14 K13
  refine wp_seq_k fun K15 hK16 => ?_
  refine wp_seq_k fun K17 hK18 => ?_
  refine region ?_
  refine sv ha (r_move ha rfl) rfl rfl rfl ?_; clear ha a; intro a ha
  refine sv ha (r_eql ha ((per).toNat : Int) (((0 : UInt64)).toNat : Int) (decide (per = (0 : UInt64))) rfl rfl (eql_u64 _ _)) rfl rfl rfl ?_; clear ha a; intro a ha
  refine hK18 _ _ ?_; clear hK18 K17
  refine cond_if ha rfl (fun hc19 => ?_) (fun hc19 => ?_)
  · skip
    replace hc19 := of_decide_eq_true hc19
    refine region ?_
    refine sv ha (r_assign ha rfl) rfl rfl rfl ?_; clear ha a; intro a ha
    refine hK16 _ _ ?_; clear hK16 K15
    refine wp_seq_k fun K20 hK21 => ?_
    refine region ?_
    refine sv ha (r_move ha rfl) rfl rfl rfl ?_; clear ha a; intro a ha
    refine sv ha (r_move ha rfl) rfl rfl rfl ?_; clear ha a; intro a ha
    refine sv ha (ru_mul ha (epo now per) (1 : UInt64) rfl rfl) rfl rfl rfl ?_; clear ha a; intro a ha
    refine sv ha (r_assign ha rfl) rfl rfl rfl ?_; clear ha a; intro a ha
    refine hK21 _ _ ?_; clear hK21 K20
    refine wp_seq_k fun K22 hK23 => ?_
    refine wp_seq_k fun K24 hK25 => ?_
    refine region ?_
    refine sv ha (r_move ha rfl) rfl rfl rfl ?_; clear ha a; intro a ha
    refine sv ha (r_move ha rfl) rfl rfl rfl ?_; clear ha a; intro a ha
    refine sv ha (r_gtr ha (((epo now per) * (1 : UInt64)).toNat : Int) (now.toNat : Int) false rfl rfl (decide_eq_false (ep_le now per _ (one_max per (by assumption))))) rfl rfl rfl ?_; clear ha a; intro a ha
    refine sv ha (r_move ha rfl) rfl rfl rfl ?_; clear ha a; intro a ha
    refine svg ha (r_move ha rfl) rfl rfl rfl rfl rfl ?_; clear ha a; intro a ha
    refine svg ha (r_move ha rfl) rfl rfl rfl rfl rfl ?_; clear ha a; intro a ha
    refine svg ha (ru_sub ha now ((epo now per) * (1 : UInt64)) rfl rfl) rfl rfl rfl rfl rfl ?_; clear ha a; intro a ha
    refine svg ha (r_move ha rfl) rfl rfl rfl rfl rfl ?_; clear ha a; intro a ha
    refine svg ha (r_geq ha ((now - ((epo now per) * (1 : UInt64))).toNat : Int) 1 false rfl rfl (decide_eq_false (ep_lt now per _ (one_max per (by assumption))))) rfl rfl rfl rfl rfl ?_; clear ha a; intro a ha
    refine sv ha (r_pick ha false rfl rfl) rfl rfl rfl ?_; clear ha a; intro a ha
    refine hK25 _ _ ?_; clear hK25 K24
    refine cond_f ha rfl ?_
    refine wp_skip ?_
    refine hK23 _ _ ?_; clear hK23 K22
    refine wp_seq_k fun K26 hK27 => ?_
    refine region ?_
    refine sv ha (r_move ha rfl) rfl rfl rfl ?_; clear ha a; intro a ha
    refine sv ha (r_move ha rfl) rfl rfl rfl ?_; clear ha a; intro a ha
    refine sc ha (r_call ha [e64 ((epo now per) * (1 : UInt64)), e64 per] rfl Tryd.call37) rfl rfl rfl (c_epoch ((epo now per) * (1 : UInt64)) per _ ) ?_
    clear ha a
    rintro e w28 ⟨rfl, hBc⟩
    have hg := grown_call hBc; clear hBc
    replace hB := keepB0 hg hB
    clear hg
    refine ⟨_, rfl, ?_⟩; intro a ha
    refine sv ha (r_move ha rfl) rfl rfl rfl ?_; clear ha a; intro a ha
    refine sv ha (r_eql ha ((epo ((epo now per) * (1 : UInt64)) per).toNat : Int) ((epo now per).toNat : Int) true rfl rfl (decide_eq_true (by rw [ep_first now per _ (one_max per (by assumption))]))) rfl rfl rfl ?_; clear ha a; intro a ha
    refine sv ha (r_move ha rfl) rfl rfl rfl ?_; clear ha a; intro a ha
    refine svg ha (r_move ha rfl) rfl rfl rfl rfl rfl ?_; clear ha a; intro a ha
    refine svg ha (r_eql ha (((epo now per) * (1 : UInt64)).toNat : Int) (((0 : UInt64)).toNat : Int) (decide ((epo now per) * (1 : UInt64) = (0 : UInt64))) rfl rfl (eql_u64 _ _)) rfl rfl rfl rfl rfl ?_; clear ha a; intro a ha
    refine svg ha (r_move ha rfl) rfl rfl rfl rfl rfl ?_; clear ha a; intro a ha
    cases hq29 : (decide ((epo now per) * (1 : UInt64) = (0 : UInt64)))
    all_goals rw [hq29] at ha
    case false =>
      replace hq29 := of_decide_eq_false hq29
      refine svg ha (r_move ha rfl) rfl rfl rfl rfl rfl ?_; clear ha a; intro a ha
      refine svg ha (ru_sub ha ((epo now per) * (1 : UInt64)) (1 : UInt64) rfl rfl) rfl rfl rfl rfl rfl ?_; clear ha a; intro a ha
      refine svg ha (r_move ha rfl) rfl rfl rfl rfl rfl ?_; clear ha a; intro a ha
      refine scg ha (r_call ha [e64 (((epo now per) * (1 : UInt64)) - (1 : UInt64)), e64 per] rfl Tryd.call37) rfl rfl rfl rfl rfl (c_epoch (((epo now per) * (1 : UInt64)) - (1 : UInt64)) per _ ) ?_
      clear ha a
      rintro e w30 ⟨rfl, hBc⟩
      have hg := grown_call hBc; clear hBc
      replace hB := keepB0 hg hB
      clear hg
      refine ⟨_, rfl, ?_⟩; intro a ha
      refine svg ha (r_move ha rfl) rfl rfl rfl rfl rfl ?_; clear ha a; intro a ha
      refine svg ha (ru_sub ha (epo now per) (1 : UInt64) rfl rfl) rfl rfl rfl rfl rfl ?_; clear ha a; intro a ha
      refine svg ha (r_eql ha ((epo (((epo now per) * (1 : UInt64)) - (1 : UInt64)) per).toNat : Int) (((epo now per) - (1 : UInt64)).toNat : Int) true rfl rfl (decide_eq_true (by rw [ep_before now per _ (one_max per (by assumption)) (by assumption)]))) rfl rfl rfl rfl rfl ?_; clear ha a; intro a ha
      refine svg ha (r_pick ha false rfl rfl) rfl rfl rfl rfl rfl ?_; clear ha a; intro a ha
      refine sv ha (r_pick ha true rfl rfl) rfl rfl rfl ?_; clear ha a; intro a ha
      refine sv ha (r_assign ha rfl) rfl rfl rfl ?_; clear ha a; intro a ha
      refine hK27 _ _ ?_; clear hK27 K26
      refine wp_ret ?_
      repeat (first | (with_reducible refine t_ret ?_) | (with_reducible refine x_ret ?_))
      exact ret1 ha Tryd.results16 rfl ⟨rfl, hB⟩
    case true =>
      replace hq29 := of_decide_eq_true hq29
      refine sno ha rfl rfl rfl rfl rfl rfl ?_; clear ha a; intro a ha
      refine sno ha rfl rfl rfl rfl rfl rfl ?_; clear ha a; intro a ha
      refine sno ha rfl rfl rfl rfl rfl rfl ?_; clear ha a; intro a ha
      refine sno ha rfl rfl rfl rfl rfl rfl ?_; clear ha a; intro a ha
      refine sno ha rfl rfl rfl rfl rfl rfl ?_; clear ha a; intro a ha
      refine sno ha rfl rfl rfl rfl rfl rfl ?_; clear ha a; intro a ha
      refine sno ha rfl rfl rfl rfl rfl rfl ?_; clear ha a; intro a ha
      refine svg ha (r_pick ha true rfl rfl) rfl rfl rfl rfl rfl ?_; clear ha a; intro a ha
      refine sv ha (r_pick ha true rfl rfl) rfl rfl rfl ?_; clear ha a; intro a ha
      refine sv ha (r_assign ha rfl) rfl rfl rfl ?_; clear ha a; intro a ha
      refine hK27 _ _ ?_; clear hK27 K26
      refine wp_ret ?_
      repeat (first | (with_reducible refine t_ret ?_) | (with_reducible refine x_ret ?_))
      exact ret1 ha Tryd.results16 rfl ⟨rfl, hB⟩
  · skip
    replace hc19 := of_decide_eq_false hc19
    refine wp_skip ?_
    refine hK16 _ _ ?_; clear hK16 K15
    refine wp_seq_k fun K31 hK32 => ?_
    refine region ?_
    refine sv ha (r_move ha rfl) rfl rfl rfl ?_; clear ha a; intro a ha
    refine sv ha (r_move ha rfl) rfl rfl rfl ?_; clear ha a; intro a ha
    refine sv ha (ru_mul ha (epo now per) per rfl rfl) rfl rfl rfl ?_; clear ha a; intro a ha
    refine sv ha (r_assign ha rfl) rfl rfl rfl ?_; clear ha a; intro a ha
    refine hK32 _ _ ?_; clear hK32 K31
    refine wp_seq_k fun K33 hK34 => ?_
    refine wp_seq_k fun K35 hK36 => ?_
    refine region ?_
    refine sv ha (r_move ha rfl) rfl rfl rfl ?_; clear ha a; intro a ha
    refine sv ha (r_move ha rfl) rfl rfl rfl ?_; clear ha a; intro a ha
    refine sv ha (r_gtr ha (((epo now per) * per).toNat : Int) (now.toNat : Int) false rfl rfl (decide_eq_false (ep_le now per _ (per_max per (by assumption))))) rfl rfl rfl ?_; clear ha a; intro a ha
    refine sv ha (r_move ha rfl) rfl rfl rfl ?_; clear ha a; intro a ha
    refine svg ha (r_move ha rfl) rfl rfl rfl rfl rfl ?_; clear ha a; intro a ha
    refine svg ha (r_move ha rfl) rfl rfl rfl rfl rfl ?_; clear ha a; intro a ha
    refine svg ha (ru_sub ha now ((epo now per) * per) rfl rfl) rfl rfl rfl rfl rfl ?_; clear ha a; intro a ha
    refine svg ha (r_move ha rfl) rfl rfl rfl rfl rfl ?_; clear ha a; intro a ha
    refine svg ha (r_geq ha ((now - ((epo now per) * per)).toNat : Int) (per.toNat : Int) false rfl rfl (decide_eq_false (ep_lt now per _ (per_max per (by assumption))))) rfl rfl rfl rfl rfl ?_; clear ha a; intro a ha
    refine sv ha (r_pick ha false rfl rfl) rfl rfl rfl ?_; clear ha a; intro a ha
    refine hK36 _ _ ?_; clear hK36 K35
    refine cond_f ha rfl ?_
    refine wp_skip ?_
    refine hK34 _ _ ?_; clear hK34 K33
    refine wp_seq_k fun K37 hK38 => ?_
    refine region ?_
    refine sv ha (r_move ha rfl) rfl rfl rfl ?_; clear ha a; intro a ha
    refine sv ha (r_move ha rfl) rfl rfl rfl ?_; clear ha a; intro a ha
    refine sc ha (r_call ha [e64 ((epo now per) * per), e64 per] rfl Tryd.call37) rfl rfl rfl (c_epoch ((epo now per) * per) per _ ) ?_
    clear ha a
    rintro e w39 ⟨rfl, hBc⟩
    have hg := grown_call hBc; clear hBc
    replace hB := keepB0 hg hB
    clear hg
    refine ⟨_, rfl, ?_⟩; intro a ha
    refine sv ha (r_move ha rfl) rfl rfl rfl ?_; clear ha a; intro a ha
    refine sv ha (r_eql ha ((epo ((epo now per) * per) per).toNat : Int) ((epo now per).toNat : Int) true rfl rfl (decide_eq_true (by rw [ep_first now per _ (per_max per (by assumption))]))) rfl rfl rfl ?_; clear ha a; intro a ha
    refine sv ha (r_move ha rfl) rfl rfl rfl ?_; clear ha a; intro a ha
    refine svg ha (r_move ha rfl) rfl rfl rfl rfl rfl ?_; clear ha a; intro a ha
    refine svg ha (r_eql ha (((epo now per) * per).toNat : Int) (((0 : UInt64)).toNat : Int) (decide ((epo now per) * per = (0 : UInt64))) rfl rfl (eql_u64 _ _)) rfl rfl rfl rfl rfl ?_; clear ha a; intro a ha
    refine svg ha (r_move ha rfl) rfl rfl rfl rfl rfl ?_; clear ha a; intro a ha
    cases hq40 : (decide ((epo now per) * per = (0 : UInt64)))
    all_goals rw [hq40] at ha
    case false =>
      replace hq40 := of_decide_eq_false hq40
      refine svg ha (r_move ha rfl) rfl rfl rfl rfl rfl ?_; clear ha a; intro a ha
      refine svg ha (ru_sub ha ((epo now per) * per) (1 : UInt64) rfl rfl) rfl rfl rfl rfl rfl ?_; clear ha a; intro a ha
      refine svg ha (r_move ha rfl) rfl rfl rfl rfl rfl ?_; clear ha a; intro a ha
      refine scg ha (r_call ha [e64 (((epo now per) * per) - (1 : UInt64)), e64 per] rfl Tryd.call37) rfl rfl rfl rfl rfl (c_epoch (((epo now per) * per) - (1 : UInt64)) per _ ) ?_
      clear ha a
      rintro e w41 ⟨rfl, hBc⟩
      have hg := grown_call hBc; clear hBc
      replace hB := keepB0 hg hB
      clear hg
      refine ⟨_, rfl, ?_⟩; intro a ha
      refine svg ha (r_move ha rfl) rfl rfl rfl rfl rfl ?_; clear ha a; intro a ha
      refine svg ha (ru_sub ha (epo now per) (1 : UInt64) rfl rfl) rfl rfl rfl rfl rfl ?_; clear ha a; intro a ha
      refine svg ha (r_eql ha ((epo (((epo now per) * per) - (1 : UInt64)) per).toNat : Int) (((epo now per) - (1 : UInt64)).toNat : Int) true rfl rfl (decide_eq_true (by rw [ep_before now per _ (per_max per (by assumption)) (by assumption)]))) rfl rfl rfl rfl rfl ?_; clear ha a; intro a ha
      refine svg ha (r_pick ha false rfl rfl) rfl rfl rfl rfl rfl ?_; clear ha a; intro a ha
      refine sv ha (r_pick ha true rfl rfl) rfl rfl rfl ?_; clear ha a; intro a ha
      refine sv ha (r_assign ha rfl) rfl rfl rfl ?_; clear ha a; intro a ha
      refine hK38 _ _ ?_; clear hK38 K37
      refine wp_ret ?_
      repeat (first | (with_reducible refine t_ret ?_) | (with_reducible refine x_ret ?_))
      exact ret1 ha Tryd.results16 rfl ⟨rfl, hB⟩
    case true =>
      replace hq40 := of_decide_eq_true hq40
      refine sno ha rfl rfl rfl rfl rfl rfl ?_; clear ha a; intro a ha
      refine sno ha rfl rfl rfl rfl rfl rfl ?_; clear ha a; intro a ha
      refine sno ha rfl rfl rfl rfl rfl rfl ?_; clear ha a; intro a ha
      refine sno ha rfl rfl rfl rfl rfl rfl ?_; clear ha a; intro a ha
      refine sno ha rfl rfl rfl rfl rfl rfl ?_; clear ha a; intro a ha
      refine sno ha rfl rfl rfl rfl rfl rfl ?_; clear ha a; intro a ha
      refine sno ha rfl rfl rfl rfl rfl rfl ?_; clear ha a; intro a ha
      refine svg ha (r_pick ha true rfl rfl) rfl rfl rfl rfl rfl ?_; clear ha a; intro a ha
      refine sv ha (r_pick ha true rfl rfl) rfl rfl rfl ?_; clear ha a; intro a ha
      refine sv ha (r_assign ha rfl) rfl rfl rfl ?_; clear ha a; intro a ha
      refine hK38 _ _ ?_; clear hK38 K37
      refine wp_ret ?_
      repeat (first | (with_reducible refine t_ret ?_) | (with_reducible refine x_ret ?_))
      exact ret1 ha Tryd.results16 rfl ⟨rfl, hB⟩
end Go.Proofs.YtdhgkfmniebghaaDoor
