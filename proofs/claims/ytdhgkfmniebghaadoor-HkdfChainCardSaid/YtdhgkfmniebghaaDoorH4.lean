/- WALKS written by gen.py (own program) out of specs. -/
import Derived.Test.YtdhgkfmniebghaaDoorH3
namespace Go.Proofs.YtdhgkfmniebghaaDoor
open Go.RowKit Go.Rx
set_option maxRecDepth 100000
set_option maxHeartbeats 4000000
set_option linter.unusedVariables false
set_option linter.unusedSimpArgs false

theorem law_HkdfChain (v : Value) (ck : List UInt8) (u : Value) (i : List UInt8) (w0 : World) (hs : Sl w0 v (ck.map e8)) (hsu : Sl w0 u (i.map e8)) (hG : Glob w0) :
    Calls Tryd.prog 12 #[v, u] w0 fun e w' => e = .returned (.bool true) ∧ Below w0.heap.size w0 w' := by
  refine enter (args := [_, _]) Tryd.func12 rfl Tryd.ntmps12 rfl ?_
  intro a ha
  have hB := Below.refl w0.heap.size w0
  refine wp_seq_k fun K1 hK2 => ?_
  refine region ?_
  refine sv ha (r_assign ha rfl) rfl rfl rfl ?_; clear ha a; intro a ha
  refine hK2 _ _ ?_; clear hK2 K1
  refine wp_seq_k fun K3 hK4 => ?_
  refine region ?_
  refine sc ha (r_call ha [] rfl Tryd.call30) rfl rfl rfl (c_awake04  _ (glob_keep hG hB)) ?_
  clear ha a
  rintro e w5 ⟨rfl, hBc⟩
  have hg := grown_call hBc; clear hBc
  replace hB := keepB0 hg hB
  clear hg
  refine ⟨_, rfl, ?_⟩; intro a ha
  refine sv ha (r_assign ha rfl) rfl rfl rfl ?_; clear ha a; intro a ha
  refine hK4 _ _ ?_; clear hK4 K3
  refine wp_seq_k fun K6 hK7 => ?_
  refine wp_seq_k fun K8 hK9 => ?_
  refine region ?_
  refine sv ha (r_move ha rfl) rfl rfl rfl ?_; clear ha a; intro a ha
  refine sv ha (r_not ha true false rfl rfl) rfl rfl rfl ?_; clear ha a; intro a ha
  refine hK9 _ _ ?_; clear hK9 K8
  refine cond_f ha rfl ?_
  refine wp_skip ?_
  refine hK7 _ _ ?_; clear hK7 K6
  refine wp_seq_k fun K10 hK11 => ?_
  refine wp_seq_k fun K12 hK13 => ?_
  refine region ?_
  refine sv ha (r_move ha rfl) rfl rfl rfl ?_; clear ha a; intro a ha
  refine sv ha (r_lenS ha Tryd.runUnderlying22 (hs.below hB) rfl (by rw [List.length_map])) rfl rfl rfl ?_; clear ha a; intro a ha
  refine sv ha (r_gtr ha ((ck.length : Nat) : Int) 500 (decide (ck.length > 500)) rfl rfl (decide_eq_decide.2 (by omega))) rfl rfl rfl ?_; clear ha a; intro a ha
  refine sv ha (r_move ha rfl) rfl rfl rfl ?_; clear ha a; intro a ha
  cases hq14 : (decide (ck.length > 500))
  all_goals rw [hq14] at ha
  case false =>
    replace hq14 := of_decide_eq_false hq14
    refine svg ha (r_move ha rfl) rfl rfl rfl rfl rfl ?_; clear ha a; intro a ha
    refine svg ha (r_lenS ha Tryd.runUnderlying22 (hsu.below hB) rfl (by rw [List.length_map])) rfl rfl rfl rfl rfl ?_; clear ha a; intro a ha
    refine svg ha (r_gtr ha ((i.length : Nat) : Int) 500 (decide (i.length > 500)) rfl rfl (decide_eq_decide.2 (by omega))) rfl rfl rfl rfl rfl ?_; clear ha a; intro a ha
    refine sv ha (r_pick ha false rfl rfl) rfl rfl rfl ?_; clear ha a; intro a ha
    refine hK13 _ _ ?_; clear hK13 K12
    refine cond_if ha rfl (fun hc15 => ?_) (fun hc15 => ?_)
    · skip
      replace hc15 := of_decide_eq_true hc15
      refine wp_seq_k fun K16 hK17 => ?_
      refine region ?_
      refine sv ha (r_assign ha rfl) rfl rfl rfl ?_; clear ha a; intro a ha
      refine hK17 _ _ ?_; clear hK17 K16
      refine wp_ret ?_
      repeat (first | (with_reducible refine t_ret ?_) | (with_reducible refine x_ret ?_))
      exact ret1 ha Tryd.results12 rfl ⟨rfl, hB⟩
    · skip
      replace hc15 := of_decide_eq_false hc15
      refine wp_skip ?_
      refine hK11 _ _ ?_; clear hK11 K10
      refine wp_seq_k fun K18 hK19 => ?_
      refine region ?_
      refine sv ha (r_move ha rfl) rfl rfl rfl ?_; clear ha a; intro a ha
      refine sv ha (r_move ha rfl) rfl rfl rfl ?_; clear ha a; intro a ha
      refine sc ha (r_call ha [v, u] rfl Tryd.call31) rfl rfl rfl (c_mac v ck u i _ (hs.below hB) (hsu.below hB) (by omega) (glob_keep hG hB)) ?_
      clear ha a
      rintro e w20 ⟨u21, rfl, hBc, hs21, hd21⟩
      have hg := grown_call hBc; clear hBc
      replace hd21 : ∀ j, u21.ownBlock = some j → w0.heap.size ≤ j := fun j hj => Nat.le_trans hB.size (hd21 j hj)
      replace hB := keepB0 hg hB
      clear hg
      refine ⟨_, rfl, ?_⟩; intro a ha
      refine sv ha (r_assign ha rfl) rfl rfl rfl ?_; clear ha a; intro a ha
      refine hK19 _ _ ?_; clear hK19 K18
      refine wp_seq_k fun K22 hK23 => ?_
      refine region ?_
      refine sv ha (r_move ha rfl) rfl rfl rfl ?_; clear ha a; intro a ha
      refine sv ha (r_move ha rfl) rfl rfl rfl ?_; clear ha a; intro a ha
      refine sc ha (r_call ha [v, u] rfl Tryd.call34) rfl rfl rfl (c_three v ck u i _ (hs.below hB) (hsu.below hB) (by omega) (glob_keep hG hB)) ?_
      clear ha a
      rintro e w24 ⟨u25, u26, u27, rfl, hBc, hs25, hd25, hs26, hd26, hs27, hd27⟩
      have hg := grown_call hBc; clear hBc
      have hds_hs25_hs21 : ∀ j, u25.ownBlock = some j → u21.ownBlock ≠ some j := fun j h1 h2 => by have h3 := hd25 j h1; have h4 := (fun j hj => hs21.lt j hj) j h2; omega
      replace hd25 : ∀ j, u25.ownBlock = some j → w0.heap.size ≤ j := fun j hj => Nat.le_trans hB.size (hd25 j hj)
      have hds_hs26_hs21 : ∀ j, u26.ownBlock = some j → u21.ownBlock ≠ some j := fun j h1 h2 => by have h3 := hd26 j h1; have h4 := (fun j hj => hs21.lt j hj) j h2; omega
      replace hd26 : ∀ j, u26.ownBlock = some j → w0.heap.size ≤ j := fun j hj => Nat.le_trans hB.size (hd26 j hj)
      have hds_hs27_hs21 : ∀ j, u27.ownBlock = some j → u21.ownBlock ≠ some j := fun j h1 h2 => by have h3 := hd27 j h1; have h4 := (fun j hj => hs21.lt j hj) j h2; omega
      replace hd27 : ∀ j, u27.ownBlock = some j → w0.heap.size ≤ j := fun j hj => Nat.le_trans hB.size (hd27 j hj)
      replace hB := keepB0 hg hB
      replace hs21 := keepS0 hg hs21
      clear hg
      refine ⟨_, rfl, ?_⟩; intro a ha
      refine sv ha (r_move ha rfl) rfl rfl rfl ?_; clear ha a; intro a ha
      refine sv ha (r_extract ha (vs := #[u25, u26, u27]) rfl rfl) rfl rfl rfl ?_; clear ha a; intro a ha
      refine sv ha (r_extract ha (vs := #[u25, u26, u27]) rfl rfl) rfl rfl rfl ?_; clear ha a; intro a ha
      refine sv ha (r_extract ha (vs := #[u25, u26, u27]) rfl rfl) rfl rfl rfl ?_; clear ha a; intro a ha
      refine sv ha (r_assign ha rfl) rfl rfl rfl ?_; clear ha a; intro a ha
      refine sv ha (r_assign ha rfl) rfl rfl rfl ?_; clear ha a; intro a ha
      refine sv ha (r_assign ha rfl) rfl rfl rfl ?_; clear ha a; intro a ha
      refine hK23 _ _ ?_; clear hK23 K22
      refine wp_seq_k fun K28 hK29 => ?_
      refine region ?_
      refine sv ha (r_assign ha rfl) rfl rfl rfl ?_; clear ha a; intro a ha
      refine hK29 _ _ ?_; clear hK29 K28
      refine wp_seq_k fun K30 hK31 => ?_
      refine region ?_
      refine sv ha (r_assign ha rfl) rfl rfl rfl ?_; clear ha a; intro a ha
      refine hK31 _ _ ?_; clear hK31 K30
      refine wp_seq_k fun K32 hK33 => ?_
      refine region ?_
      refine sv ha (r_move ha rfl) rfl rfl rfl ?_; clear ha a; intro a ha
      refine sv ha (r_move ha rfl) rfl rfl rfl ?_; clear ha a; intro a ha
      refine sapp (C := (([] : List UInt8)).map e8) (D := (th1 ck i).map e8) ha rfl rfl Tryd.underlying22 rfl rfl rfl rfl (World.ownsRow_nil w24 w0.heap.size 5 1) hs25 (one_e8 _) (by simp only [List.length_map, List.length_append, List.length_replicate, List.length_cons, List.length_nil, inA_len, sum256_len, th1_len, th2_len, mac_len]; show _ * 1 ≤ _; omega) (by simp only [List.length_map, List.length_append, List.length_replicate, List.length_cons, List.length_nil, inA_len, sum256_len, th1_len, th2_len, mac_len]; omega) hB.size rfl ?_
      clear ha a; intro a w35 v34 ha hg ho34 hnl34 hpl34
      rw [← List.map_append, List.length_map, th1_len] at ho34
      rw [List.length_map, th1_len] at hnl34
      rw [List.nil_append, Nat.zero_add] at ho34
      have hds_ho34_hs21 : ∀ j, v34.ownBlock = some j → u21.ownBlock ≠ some j := fun j h1 h2 => (hpl34 j h1).elim (fun h => (nil_own j h).elim) (fun h => by have h4 := (fun j hj => hs21.lt j hj) j h2; omega)
      have hds_ho34_hs25 : ∀ j, v34.ownBlock = some j → u25.ownBlock ≠ some j := fun j h1 h2 => (hpl34 j h1).elim (fun h => (nil_own j h).elim) (fun h => by have h4 := (fun j hj => hs25.lt j hj) j h2; omega)
      have hds_ho34_hs26 : ∀ j, v34.ownBlock = some j → u26.ownBlock ≠ some j := fun j h1 h2 => (hpl34 j h1).elim (fun h => (nil_own j h).elim) (fun h => by have h4 := (fun j hj => hs26.lt j hj) j h2; omega)
      have hds_ho34_hs27 : ∀ j, v34.ownBlock = some j → u27.ownBlock ≠ some j := fun j h1 h2 => (hpl34 j h1).elim (fun h => (nil_own j h).elim) (fun h => by have h4 := (fun j hj => hs27.lt j hj) j h2; omega)
      have hg : World.grownBy w24 w35 none := hg
      replace hB := keepB0 hg hB
      replace hs21 := keepS0 hg hs21
      replace hs25 := keepS0 hg hs25
      replace hs26 := keepS0 hg hs26
      replace hs27 := keepS0 hg hs27
      clear hg
      refine sv ha (r_assign ha rfl) rfl rfl rfl ?_; clear ha a; intro a ha
      refine hK33 _ _ ?_; clear hK33 K32
      refine wp_seq_k fun K36 hK37 => ?_
      refine region ?_
      refine sv ha (r_move ha rfl) rfl rfl rfl ?_; clear ha a; intro a ha
      refine sv ha (r_move ha rfl) rfl rfl rfl ?_; clear ha a; intro a ha
      refine sapp (C := (([] : List UInt8)).map e8) (D := (th2 ck i).map e8) ha rfl rfl Tryd.underlying22 rfl rfl rfl rfl (World.ownsRow_nil w35 w0.heap.size 5 1) hs26 (one_e8 _) (by simp only [List.length_map, List.length_append, List.length_replicate, List.length_cons, List.length_nil, inA_len, sum256_len, th1_len, th2_len, mac_len]; show _ * 1 ≤ _; omega) (by simp only [List.length_map, List.length_append, List.length_replicate, List.length_cons, List.length_nil, inA_len, sum256_len, th1_len, th2_len, mac_len]; omega) hB.size rfl ?_
      clear ha a; intro a w39 v38 ha hg ho38 hnl38 hpl38
      rw [← List.map_append, List.length_map, th2_len] at ho38
      rw [List.length_map, th2_len] at hnl38
      rw [List.nil_append, Nat.zero_add] at ho38
      have hds_ho38_hs21 : ∀ j, v38.ownBlock = some j → u21.ownBlock ≠ some j := fun j h1 h2 => (hpl38 j h1).elim (fun h => (nil_own j h).elim) (fun h => by have h4 := (fun j hj => hs21.lt j hj) j h2; omega)
      have hds_ho38_hs25 : ∀ j, v38.ownBlock = some j → u25.ownBlock ≠ some j := fun j h1 h2 => (hpl38 j h1).elim (fun h => (nil_own j h).elim) (fun h => by have h4 := (fun j hj => hs25.lt j hj) j h2; omega)
      have hds_ho38_hs26 : ∀ j, v38.ownBlock = some j → u26.ownBlock ≠ some j := fun j h1 h2 => (hpl38 j h1).elim (fun h => (nil_own j h).elim) (fun h => by have h4 := (fun j hj => hs26.lt j hj) j h2; omega)
      have hds_ho38_hs27 : ∀ j, v38.ownBlock = some j → u27.ownBlock ≠ some j := fun j h1 h2 => (hpl38 j h1).elim (fun h => (nil_own j h).elim) (fun h => by have h4 := (fun j hj => hs27.lt j hj) j h2; omega)
      have hds_ho38_ho34 : ∀ j, v38.ownBlock = some j → v34.ownBlock ≠ some j := fun j h1 h2 => (hpl38 j h1).elim (fun h => (nil_own j h).elim) (fun h => by have h4 := (fun j hj => (ho34.lt j hj).2) j h2; omega)
      have hg : World.grownBy w35 w39 none := hg
      replace hB := keepB0 hg hB
      replace hs21 := keepS0 hg hs21
      replace hs25 := keepS0 hg hs25
      replace hs26 := keepS0 hg hs26
      replace hs27 := keepS0 hg hs27
      replace ho34 := keepW0 hg ho34
      clear hg
      refine sv ha (r_assign ha rfl) rfl rfl rfl ?_; clear ha a; intro a ha
      refine hK37 _ _ ?_; clear hK37 K36
      refine wp_seq_k fun K40 hK41 => ?_
      refine regionD (S := fun w => Below w0.heap.size w0 w ∧ Sl w u21 ((mac ck i).map e8) ∧ Sl w u25 ((th1 ck i).map e8) ∧ Sl w u26 ((th2 ck i).map e8) ∧ Sl w u27 ((th3 ck i).map e8) ∧ True) [] [0, 1, 2, 5, 6, 7, 8, 9, 10, 11, 15, 16, 17, 18, 19, 20, 21, 22, 26, 27, 28, 29] [0, 1, 2, 3, 4, 5, 6, 7, 8, 9, 10, 11, 12, 13, 14, 15, 16, 17, 18, 19, 20, 21, 22, 23, 24, 25, 26, 27, 28, 29] mixed (by kernel_rfl) (fun w hg => ⟨keepB0 hg hB, keepS0 hg hs21, keepS0 hg hs25, keepS0 hg hs26, keepS0 hg hs27, trivial⟩) ?_
      intro w42 hg
      replace hB := keepB0 hg hB
      replace hs21 := keepS0 hg hs21
      replace hs25 := keepS0 hg hs25
      replace hs26 := keepS0 hg hs26
      replace hs27 := keepS0 hg hs27
      replace ho34 := keepW0 hg ho34
      replace ho38 := keepW0 hg ho38
      clear hg
      refine cv ha rfl rfl (fun w _ => r_move ha rfl) rfl rfl rfl ?_; clear ha a; intro a ha
      refine cv ha rfl rfl (fun w ⟨hB, hs21, hs25, hs26, hs27, _⟩ => r_str (l := th1 ck i) ha Tryd.underlying22 Tryd.underlying5 Tryd.underlying9 rfl hs25) rfl rfl rfl ?_; clear ha a; intro a ha
      refine cv ha rfl rfl (fun w _ => r_move ha rfl) rfl rfl rfl ?_; clear ha a; intro a ha
      obtain ⟨b43, w44, hr43, hg, hb43, hge43, hlt43⟩ := r_buildS (w := w42) (dst := some 42) (ty := 22) (pos := "law.go:100") (af := #[]) (g := none) (t := 22) (k := 1) (parts := [(0, .const (.int .u8 1))]) ha [(0, .int .u8 1)] (([(1 : UInt8)] : List UInt8).map e8) rfl Tryd.runUnderlying22 Tryd.sizeOf5 Tryd.zeroValue5 rfl rfl rfl rfl
      have hz43 : w0.heap.size ≤ b43 := Nat.le_trans hB.size hge43
      have hne_hs21_b43 : ∀ j, Value.ownBlock u21 = some j → j ≠ b43 := fun j hj => by have := hs21.lt j hj; omega
      have hne_hs25_b43 : ∀ j, Value.ownBlock u25 = some j → j ≠ b43 := fun j hj => by have := hs25.lt j hj; omega
      have hne_hs26_b43 : ∀ j, Value.ownBlock u26 = some j → j ≠ b43 := fun j hj => by have := hs26.lt j hj; omega
      have hne_hs27_b43 : ∀ j, Value.ownBlock u27 = some j → j ≠ b43 := fun j hj => by have := hs27.lt j hj; omega
      have hne_ho34_b43 : ∀ j, Value.ownBlock v34 = some j → j ≠ b43 := fun j hj => by have := (ho34.lt j hj).2; omega
      have hne_ho38_b43 : ∀ j, Value.ownBlock v38 = some j → j ≠ b43 := fun j hj => by have := (ho38.lt j hj).2; omega
      replace hB := keepB0 hg hB
      replace hs21 := keepS0 hg hs21
      replace hs25 := keepS0 hg hs25
      replace hs26 := keepS0 hg hs26
      replace hs27 := keepS0 hg hs27
      replace ho34 := keepW0 hg ho34
      replace ho38 := keepW0 hg ho38
      refine cwx ha rfl rfl hr43 rfl rfl rfl ⟨fun w => (w.heap[b43]? = some (.cells ((([(1 : UInt8)] : List UInt8)).map e8).toArray 5 (0, 0))) ∧ Below w0.heap.size w0 w ∧ Sl w u21 ((mac ck i).map e8) ∧ Sl w u25 ((th1 ck i).map e8) ∧ Sl w u26 ((th2 ck i).map e8) ∧ Sl w u27 ((th3 ck i).map e8) ∧ True, fun w h => h.2, fun _ => ⟨hb43, hB, hs21, hs25, hs26, hs27, trivial⟩, ?_⟩; clear hr43 ha a; intro a ha
      clear hg hge43 hlt43
      refine ccx ha rfl rfl (r_call ha [u21, (.slice (some ⟨b43, 0, none⟩) 1 1)] rfl Tryd.call31) rfl rfl rfl (c_mac u21 (mac ck i) (.slice (some ⟨b43, 0, none⟩) 1 1) ([(1 : UInt8)] : List UInt8) _ hs21 (Sl.ofBlockM hb43 (by rw [show ([(1 : UInt8)] : List UInt8).length = 1 from rfl]) (Nat.le_refl _)) (by first | (simp only [List.length_append, th1_len, th2_len, mac_len, List.length_cons, List.length_nil]; omega) | (show 1 ≤ 50000; omega)) (glob_keep hG hB)) ?_
      clear ha a
      rintro e w45 ⟨u46, rfl, hBc, hs46, hd46⟩
      have hg := grown_call hBc; clear hBc
      have hnb_hs46_b43 : ∀ j, u46.ownBlock = some j → j ≠ b43 := fun j hj => by have h1 := hd46 j hj; have h2 := lt_of_block hb43; omega
      have hds_hs46_hs21 : ∀ j, u46.ownBlock = some j → u21.ownBlock ≠ some j := fun j h1 h2 => by have h3 := hd46 j h1; have h4 := (fun j hj => hs21.lt j hj) j h2; omega
      have hds_hs46_hs25 : ∀ j, u46.ownBlock = some j → u25.ownBlock ≠ some j := fun j h1 h2 => by have h3 := hd46 j h1; have h4 := (fun j hj => hs25.lt j hj) j h2; omega
      have hds_hs46_hs26 : ∀ j, u46.ownBlock = some j → u26.ownBlock ≠ some j := fun j h1 h2 => by have h3 := hd46 j h1; have h4 := (fun j hj => hs26.lt j hj) j h2; omega
      have hds_hs46_hs27 : ∀ j, u46.ownBlock = some j → u27.ownBlock ≠ some j := fun j h1 h2 => by have h3 := hd46 j h1; have h4 := (fun j hj => hs27.lt j hj) j h2; omega
      have hds_hs46_ho34 : ∀ j, u46.ownBlock = some j → v34.ownBlock ≠ some j := fun j h1 h2 => by have h3 := hd46 j h1; have h4 := (fun j hj => (ho34.lt j hj).2) j h2; omega
      have hds_hs46_ho38 : ∀ j, u46.ownBlock = some j → v38.ownBlock ≠ some j := fun j h1 h2 => by have h3 := hd46 j h1; have h4 := (fun j hj => (ho38.lt j hj).2) j h2; omega
      replace hd46 : ∀ j, u46.ownBlock = some j → w0.heap.size ≤ j := fun j hj => Nat.le_trans hB.size (hd46 j hj)
      replace hB := keepB0 hg hB
      replace hb43 := keepO0 hg hb43
      replace hs21 := keepS0 hg hs21
      replace hs25 := keepS0 hg hs25
      replace hs26 := keepS0 hg hs26
      replace hs27 := keepS0 hg hs27
      replace ho34 := keepW0 hg ho34
      replace ho38 := keepW0 hg ho38
      clear hg
      refine ⟨fun w => (Sl w u46 ((mac (mac ck i) ([(1 : UInt8)] : List UInt8)).map e8)) ∧ (w.heap[b43]? = some (.cells ((([(1 : UInt8)] : List UInt8)).map e8).toArray 5 (0, 0))) ∧ Below w0.heap.size w0 w ∧ Sl w u21 ((mac ck i).map e8) ∧ Sl w u25 ((th1 ck i).map e8) ∧ Sl w u26 ((th2 ck i).map e8) ∧ Sl w u27 ((th3 ck i).map e8) ∧ True, fun w h => h.2, fun _ => ⟨hs46, hb43, hB, hs21, hs25, hs26, hs27, trivial⟩, _, rfl, ?_⟩; intro a ha
      refine cv ha rfl rfl (fun w ⟨hs46, hb43, hB, hs21, hs25, hs26, hs27, _⟩ => r_str (l := mac (mac ck i) ([(1 : UInt8)] : List UInt8)) ha Tryd.underlying22 Tryd.underlying5 Tryd.underlying9 rfl hs46) rfl rfl rfl ?_; clear ha a; intro a ha
      refine cv ha rfl rfl (fun w _ => r_eqlS ha (th1 ck i) (mac (mac ck i) ([(1 : UInt8)] : List UInt8)) true rfl rfl (decide_eq_true rfl)) rfl rfl rfl ?_; clear ha a; intro a ha
      refine cv ha rfl rfl (fun w _ => r_move ha rfl) rfl rfl rfl ?_; clear ha a; intro a ha
      refine cvg ha rfl rfl (fun w _ => r_move ha rfl) rfl rfl rfl rfl rfl ?_; clear ha a; intro a ha
      refine cvg ha rfl rfl (fun w ⟨hs46, hb43, hB, hs21, hs25, hs26, hs27, _⟩ => r_str (l := th2 ck i) ha Tryd.underlying22 Tryd.underlying5 Tryd.underlying9 rfl hs26) rfl rfl rfl rfl rfl ?_; clear ha a; intro a ha
      refine cvg ha rfl rfl (fun w _ => r_move ha rfl) rfl rfl rfl rfl rfl ?_; clear ha a; intro a ha
      refine cvg ha rfl rfl (fun w _ => r_move ha rfl) rfl rfl rfl rfl rfl ?_; clear ha a; intro a ha
      obtain ⟨b47, w48, hr47, hg, hb47, hge47, hlt47⟩ := r_buildS (w := w45) (dst := some 51) (ty := 22) (pos := "law.go:100") (af := #[⟨7, .guard⟩]) (g := some (7, true)) (t := 22) (k := 1) (parts := [(0, .const (.int .u8 2))]) ha [(0, .int .u8 2)] (([(2 : UInt8)] : List UInt8).map e8) rfl Tryd.runUnderlying22 Tryd.sizeOf5 Tryd.zeroValue5 rfl rfl rfl rfl
      have hz47 : w0.heap.size ≤ b47 := Nat.le_trans hB.size hge47
      have hne_hs21_b47 : ∀ j, Value.ownBlock u21 = some j → j ≠ b47 := fun j hj => by have := hs21.lt j hj; omega
      have hne_hs25_b47 : ∀ j, Value.ownBlock u25 = some j → j ≠ b47 := fun j hj => by have := hs25.lt j hj; omega
      have hne_hs26_b47 : ∀ j, Value.ownBlock u26 = some j → j ≠ b47 := fun j hj => by have := hs26.lt j hj; omega
      have hne_hs27_b47 : ∀ j, Value.ownBlock u27 = some j → j ≠ b47 := fun j hj => by have := hs27.lt j hj; omega
      have hne_ho34_b47 : ∀ j, Value.ownBlock v34 = some j → j ≠ b47 := fun j hj => by have := (ho34.lt j hj).2; omega
      have hne_ho38_b47 : ∀ j, Value.ownBlock v38 = some j → j ≠ b47 := fun j hj => by have := (ho38.lt j hj).2; omega
      have hne_hs46_b47 : ∀ j, Value.ownBlock u46 = some j → j ≠ b47 := fun j hj => by have := hs46.lt j hj; omega
      have hq43_47 : b43 < b47 := Nat.lt_of_lt_of_le (lt_of_block hb43) hge47
      replace hB := keepB0 hg hB
      replace hb43 := keepO0 hg hb43
      replace hs21 := keepS0 hg hs21
      replace hs25 := keepS0 hg hs25
      replace hs26 := keepS0 hg hs26
      replace hs27 := keepS0 hg hs27
      replace ho34 := keepW0 hg ho34
      replace ho38 := keepW0 hg ho38
      replace hs46 := keepS0 hg hs46
      refine cwgx ha rfl rfl hr47 rfl rfl rfl rfl rfl ⟨fun w => (w.heap[b47]? = some (.cells ((([(2 : UInt8)] : List UInt8)).map e8).toArray 5 (0, 0))) ∧ (Sl w u46 ((mac (mac ck i) ([(1 : UInt8)] : List UInt8)).map e8)) ∧ (w.heap[b43]? = some (.cells ((([(1 : UInt8)] : List UInt8)).map e8).toArray 5 (0, 0))) ∧ Below w0.heap.size w0 w ∧ Sl w u21 ((mac ck i).map e8) ∧ Sl w u25 ((th1 ck i).map e8) ∧ Sl w u26 ((th2 ck i).map e8) ∧ Sl w u27 ((th3 ck i).map e8) ∧ True, fun w h => h.2, fun _ => ⟨hb47, hs46, hb43, hB, hs21, hs25, hs26, hs27, trivial⟩, ?_⟩; clear hr47 ha a; intro a ha
      clear hg hge47 hlt47
      obtain ⟨v49, w50, hr49, ho49, hg, hnl49, hpl49⟩ := r_app (w := w48) (dst := some 52) (ty := 22) (pos := "law.go:100") (af := #[⟨11, .data⟩, ⟨12, .data⟩, ⟨7, .chain⟩, ⟨7, .guard⟩]) (g := some (7, true)) (x := .tmp 50) (y := .tmp 51) (t := 22) (C := ((th1 ck i)).map e8) (D := (([(2 : UInt8)] : List UInt8)).map e8) ha rfl rfl Tryd.underlying22 rfl rfl rfl rfl ho34 (Sl.ofBlockM hb47 (by rw [show ([(2 : UInt8)] : List UInt8).length = 1 from rfl]) (by omega)) (one_e8 _) (by simp only [List.length_map, List.length_append, List.length_replicate, List.length_cons, List.length_nil, inA_len, sum256_len, th1_len, th2_len, mac_len]; show _ * 1 ≤ _; omega) (by simp only [List.length_map, List.length_append, List.length_replicate, List.length_cons, List.length_nil, inA_len, sum256_len, th1_len, th2_len, mac_len]; omega) hB.size
      rw [← List.map_append, List.length_map, show ([(2 : UInt8)] : List UInt8).length = 1 from rfl] at ho49
      rw [List.length_map, show ([(2 : UInt8)] : List UInt8).length = 1 from rfl] at hnl49
      have hds_ho49_hs21 : ∀ j, v49.ownBlock = some j → u21.ownBlock ≠ some j := fun j h1 h2 => (hpl49 j h1).elim (fun h => hds_ho34_hs21 j h h2) (fun h => by have h4 := (fun j hj => hs21.lt j hj) j h2; omega)
      have hds_ho49_hs25 : ∀ j, v49.ownBlock = some j → u25.ownBlock ≠ some j := fun j h1 h2 => (hpl49 j h1).elim (fun h => hds_ho34_hs25 j h h2) (fun h => by have h4 := (fun j hj => hs25.lt j hj) j h2; omega)
      have hds_ho49_hs26 : ∀ j, v49.ownBlock = some j → u26.ownBlock ≠ some j := fun j h1 h2 => (hpl49 j h1).elim (fun h => hds_ho34_hs26 j h h2) (fun h => by have h4 := (fun j hj => hs26.lt j hj) j h2; omega)
      have hds_ho49_hs27 : ∀ j, v49.ownBlock = some j → u27.ownBlock ≠ some j := fun j h1 h2 => (hpl49 j h1).elim (fun h => hds_ho34_hs27 j h h2) (fun h => by have h4 := (fun j hj => hs27.lt j hj) j h2; omega)
      have hds_ho49_ho38 : ∀ j, v49.ownBlock = some j → v38.ownBlock ≠ some j := fun j h1 h2 => (hpl49 j h1).elim (fun h => (fun j h1 h2 => hds_ho38_ho34 j h2 h1) j h h2) (fun h => by have h4 := (fun j hj => (ho38.lt j hj).2) j h2; omega)
      have hds_ho49_hs46 : ∀ j, v49.ownBlock = some j → u46.ownBlock ≠ some j := fun j h1 h2 => (hpl49 j h1).elim (fun h => (fun j h1 h2 => hds_hs46_ho34 j h2 h1) j h h2) (fun h => by have h4 := (fun j hj => hs46.lt j hj) j h2; omega)
      have hne_49_b43 : ∀ j, v49.ownBlock = some j → j ≠ b43 := fun j hj => (hpl49 j hj).elim (fun h => hne_ho34_b43 j h) (fun h => by have := lt_of_block hb43; omega)
      have hne_49_b47 : ∀ j, v49.ownBlock = some j → j ≠ b47 := fun j hj => (hpl49 j hj).elim (fun h => hne_ho34_b47 j h) (fun h => by have := lt_of_block hb47; omega)
      replace hB := keepBR hg (own_row ho34) hB
      replace hb43 := keepOR hg (ne_of_ap hne_ho34_b43) hb43
      replace hb47 := keepOR hg (ne_of_ap hne_ho34_b47) hb47
      replace hs21 := keepSR hg hds_ho34_hs21 hs21
      replace hs25 := keepSR hg hds_ho34_hs25 hs25
      replace hs26 := keepSR hg hds_ho34_hs26 hs26
      replace hs27 := keepSR hg hds_ho34_hs27 hs27
      replace ho38 := keepWR hg (fun j h1 h2 => hds_ho38_ho34 j h2 h1) ho38
      replace hs46 := keepSR hg (fun j h1 h2 => hds_hs46_ho34 j h2 h1) hs46
      clear hg
      refine cwgx ha rfl rfl hr49 rfl rfl rfl rfl rfl ⟨fun w => (w.ownsRow w0.heap.size 5 1 v49 (33) (((th1 ck i) ++ ([(2 : UInt8)] : List UInt8)).map e8)) ∧ (w.heap[b47]? = some (.cells ((([(2 : UInt8)] : List UInt8)).map e8).toArray 5 (0, 0))) ∧ (Sl w u46 ((mac (mac ck i) ([(1 : UInt8)] : List UInt8)).map e8)) ∧ (w.heap[b43]? = some (.cells ((([(1 : UInt8)] : List UInt8)).map e8).toArray 5 (0, 0))) ∧ Below w0.heap.size w0 w ∧ Sl w u21 ((mac ck i).map e8) ∧ Sl w u25 ((th1 ck i).map e8) ∧ Sl w u26 ((th2 ck i).map e8) ∧ Sl w u27 ((th3 ck i).map e8) ∧ True, fun w h => h.2, fun _ => ⟨ho49, hb47, hs46, hb43, hB, hs21, hs25, hs26, hs27, trivial⟩, ?_⟩; clear hr49 ha a; intro a ha
      refine ccgx ha rfl rfl (r_call ha [u21, v49] rfl Tryd.call31) rfl rfl rfl rfl rfl (c_mac u21 (mac ck i) v49 ((th1 ck i) ++ ([(2 : UInt8)] : List UInt8)) _ hs21 (Sl.ofOwns ho49) (by first | (simp only [List.length_append, th1_len, th2_len, mac_len, List.length_cons, List.length_nil]; omega) | (show 1 ≤ 50000; omega)) (glob_keep hG hB)) ?_
      clear ha a
      rintro e w51 ⟨u52, rfl, hBc, hs52, hd52⟩
      have hg := grown_call hBc; clear hBc
      have hnb_hs52_b43 : ∀ j, u52.ownBlock = some j → j ≠ b43 := fun j hj => by have h1 := hd52 j hj; have h2 := lt_of_block hb43; omega
      have hnb_hs52_b47 : ∀ j, u52.ownBlock = some j → j ≠ b47 := fun j hj => by have h1 := hd52 j hj; have h2 := lt_of_block hb47; omega
      have hds_hs52_hs21 : ∀ j, u52.ownBlock = some j → u21.ownBlock ≠ some j := fun j h1 h2 => by have h3 := hd52 j h1; have h4 := (fun j hj => hs21.lt j hj) j h2; omega
      have hds_hs52_hs25 : ∀ j, u52.ownBlock = some j → u25.ownBlock ≠ some j := fun j h1 h2 => by have h3 := hd52 j h1; have h4 := (fun j hj => hs25.lt j hj) j h2; omega
      have hds_hs52_hs26 : ∀ j, u52.ownBlock = some j → u26.ownBlock ≠ some j := fun j h1 h2 => by have h3 := hd52 j h1; have h4 := (fun j hj => hs26.lt j hj) j h2; omega
      have hds_hs52_hs27 : ∀ j, u52.ownBlock = some j → u27.ownBlock ≠ some j := fun j h1 h2 => by have h3 := hd52 j h1; have h4 := (fun j hj => hs27.lt j hj) j h2; omega
      have hds_hs52_ho38 : ∀ j, u52.ownBlock = some j → v38.ownBlock ≠ some j := fun j h1 h2 => by have h3 := hd52 j h1; have h4 := (fun j hj => (ho38.lt j hj).2) j h2; omega
      have hds_hs52_hs46 : ∀ j, u52.ownBlock = some j → u46.ownBlock ≠ some j := fun j h1 h2 => by have h3 := hd52 j h1; have h4 := (fun j hj => hs46.lt j hj) j h2; omega
      have hds_hs52_ho49 : ∀ j, u52.ownBlock = some j → v49.ownBlock ≠ some j := fun j h1 h2 => by have h3 := hd52 j h1; have h4 := (fun j hj => (ho49.lt j hj).2) j h2; omega
      replace hd52 : ∀ j, u52.ownBlock = some j → w0.heap.size ≤ j := fun j hj => Nat.le_trans hB.size (hd52 j hj)
      replace hB := keepB0 hg hB
      replace hb43 := keepO0 hg hb43
      replace hb47 := keepO0 hg hb47
      replace hs21 := keepS0 hg hs21
      replace hs25 := keepS0 hg hs25
      replace hs26 := keepS0 hg hs26
      replace hs27 := keepS0 hg hs27
      replace ho38 := keepW0 hg ho38
      replace hs46 := keepS0 hg hs46
      replace ho49 := keepW0 hg ho49
      clear hg
      refine ⟨fun w => (Sl w u52 ((mac (mac ck i) ((th1 ck i) ++ ([(2 : UInt8)] : List UInt8))).map e8)) ∧ (w.ownsRow w0.heap.size 5 1 v49 (33) (((th1 ck i) ++ ([(2 : UInt8)] : List UInt8)).map e8)) ∧ (w.heap[b47]? = some (.cells ((([(2 : UInt8)] : List UInt8)).map e8).toArray 5 (0, 0))) ∧ (Sl w u46 ((mac (mac ck i) ([(1 : UInt8)] : List UInt8)).map e8)) ∧ (w.heap[b43]? = some (.cells ((([(1 : UInt8)] : List UInt8)).map e8).toArray 5 (0, 0))) ∧ Below w0.heap.size w0 w ∧ Sl w u21 ((mac ck i).map e8) ∧ Sl w u25 ((th1 ck i).map e8) ∧ Sl w u26 ((th2 ck i).map e8) ∧ Sl w u27 ((th3 ck i).map e8) ∧ True, fun w h => h.2, fun _ => ⟨hs52, ho49, hb47, hs46, hb43, hB, hs21, hs25, hs26, hs27, trivial⟩, _, rfl, ?_⟩; intro a ha
      refine cvg ha rfl rfl (fun w ⟨hs52, ho49, hb47, hs46, hb43, hB, hs21, hs25, hs26, hs27, _⟩ => r_str (l := mac (mac ck i) ((th1 ck i) ++ ([(2 : UInt8)] : List UInt8))) ha Tryd.underlying22 Tryd.underlying5 Tryd.underlying9 rfl hs52) rfl rfl rfl rfl rfl ?_; clear ha a; intro a ha
      refine cvg ha rfl rfl (fun w _ => r_eqlS ha (th2 ck i) (mac (mac ck i) ((th1 ck i) ++ ([(2 : UInt8)] : List UInt8))) true rfl rfl (decide_eq_true (by rw [th2]; first | rfl | simp only [List.flatten_cons, List.flatten_nil, List.append_nil]))) rfl rfl rfl rfl rfl ?_; clear ha a; intro a ha
      refine cv ha rfl rfl (fun w _ => r_pick ha true rfl rfl) rfl rfl rfl ?_; clear ha a; intro a ha
      refine cv ha rfl rfl (fun w _ => r_move ha rfl) rfl rfl rfl ?_; clear ha a; intro a ha
      refine cvg ha rfl rfl (fun w _ => r_move ha rfl) rfl rfl rfl rfl rfl ?_; clear ha a; intro a ha
      refine cvg ha rfl rfl (fun w ⟨hs52, ho49, hb47, hs46, hb43, hB, hs21, hs25, hs26, hs27, _⟩ => r_str (l := th3 ck i) ha Tryd.underlying22 Tryd.underlying5 Tryd.underlying9 rfl hs27) rfl rfl rfl rfl rfl ?_; clear ha a; intro a ha
      refine cvg ha rfl rfl (fun w _ => r_move ha rfl) rfl rfl rfl rfl rfl ?_; clear ha a; intro a ha
      refine cvg ha rfl rfl (fun w _ => r_move ha rfl) rfl rfl rfl rfl rfl ?_; clear ha a; intro a ha
      obtain ⟨b53, w54, hr53, hg, hb53, hge53, hlt53⟩ := r_buildS (w := w51) (dst := some 62) (ty := 22) (pos := "law.go:100") (af := #[⟨18, .guard⟩]) (g := some (18, true)) (t := 22) (k := 1) (parts := [(0, .const (.int .u8 3))]) ha [(0, .int .u8 3)] (([(3 : UInt8)] : List UInt8).map e8) rfl Tryd.runUnderlying22 Tryd.sizeOf5 Tryd.zeroValue5 rfl rfl rfl rfl
      have hz53 : w0.heap.size ≤ b53 := Nat.le_trans hB.size hge53
      have hne_hs21_b53 : ∀ j, Value.ownBlock u21 = some j → j ≠ b53 := fun j hj => by have := hs21.lt j hj; omega
      have hne_hs25_b53 : ∀ j, Value.ownBlock u25 = some j → j ≠ b53 := fun j hj => by have := hs25.lt j hj; omega
      have hne_hs26_b53 : ∀ j, Value.ownBlock u26 = some j → j ≠ b53 := fun j hj => by have := hs26.lt j hj; omega
      have hne_hs27_b53 : ∀ j, Value.ownBlock u27 = some j → j ≠ b53 := fun j hj => by have := hs27.lt j hj; omega
      have hne_ho38_b53 : ∀ j, Value.ownBlock v38 = some j → j ≠ b53 := fun j hj => by have := (ho38.lt j hj).2; omega
      have hne_hs46_b53 : ∀ j, Value.ownBlock u46 = some j → j ≠ b53 := fun j hj => by have := hs46.lt j hj; omega
      have hne_ho49_b53 : ∀ j, Value.ownBlock v49 = some j → j ≠ b53 := fun j hj => by have := (ho49.lt j hj).2; omega
      have hne_hs52_b53 : ∀ j, Value.ownBlock u52 = some j → j ≠ b53 := fun j hj => by have := hs52.lt j hj; omega
      have hq43_53 : b43 < b53 := Nat.lt_of_lt_of_le (lt_of_block hb43) hge53
      have hq47_53 : b47 < b53 := Nat.lt_of_lt_of_le (lt_of_block hb47) hge53
      replace hB := keepB0 hg hB
      replace hb43 := keepO0 hg hb43
      replace hb47 := keepO0 hg hb47
      replace hs21 := keepS0 hg hs21
      replace hs25 := keepS0 hg hs25
      replace hs26 := keepS0 hg hs26
      replace hs27 := keepS0 hg hs27
      replace ho38 := keepW0 hg ho38
      replace hs46 := keepS0 hg hs46
      replace ho49 := keepW0 hg ho49
      replace hs52 := keepS0 hg hs52
      refine cwgx ha rfl rfl hr53 rfl rfl rfl rfl rfl ⟨fun w => (w.heap[b53]? = some (.cells ((([(3 : UInt8)] : List UInt8)).map e8).toArray 5 (0, 0))) ∧ (Sl w u52 ((mac (mac ck i) ((th1 ck i) ++ ([(2 : UInt8)] : List UInt8))).map e8)) ∧ (w.ownsRow w0.heap.size 5 1 v49 (33) (((th1 ck i) ++ ([(2 : UInt8)] : List UInt8)).map e8)) ∧ (w.heap[b47]? = some (.cells ((([(2 : UInt8)] : List UInt8)).map e8).toArray 5 (0, 0))) ∧ (Sl w u46 ((mac (mac ck i) ([(1 : UInt8)] : List UInt8)).map e8)) ∧ (w.heap[b43]? = some (.cells ((([(1 : UInt8)] : List UInt8)).map e8).toArray 5 (0, 0))) ∧ Below w0.heap.size w0 w ∧ Sl w u21 ((mac ck i).map e8) ∧ Sl w u25 ((th1 ck i).map e8) ∧ Sl w u26 ((th2 ck i).map e8) ∧ Sl w u27 ((th3 ck i).map e8) ∧ True, fun w h => h.2, fun _ => ⟨hb53, hs52, ho49, hb47, hs46, hb43, hB, hs21, hs25, hs26, hs27, trivial⟩, ?_⟩; clear hr53 ha a; intro a ha
      clear hg hge53 hlt53
      obtain ⟨v55, w56, hr55, ho55, hg, hnl55, hpl55⟩ := r_app (w := w54) (dst := some 63) (ty := 22) (pos := "law.go:100") (af := #[⟨22, .data⟩, ⟨23, .data⟩, ⟨18, .chain⟩, ⟨18, .guard⟩]) (g := some (18, true)) (x := .tmp 61) (y := .tmp 62) (t := 22) (C := ((th2 ck i)).map e8) (D := (([(3 : UInt8)] : List UInt8)).map e8) ha rfl rfl Tryd.underlying22 rfl rfl rfl rfl ho38 (Sl.ofBlockM hb53 (by rw [show ([(3 : UInt8)] : List UInt8).length = 1 from rfl]) (by omega)) (one_e8 _) (by simp only [List.length_map, List.length_append, List.length_replicate, List.length_cons, List.length_nil, inA_len, sum256_len, th1_len, th2_len, mac_len]; show _ * 1 ≤ _; omega) (by simp only [List.length_map, List.length_append, List.length_replicate, List.length_cons, List.length_nil, inA_len, sum256_len, th1_len, th2_len, mac_len]; omega) hB.size
      rw [← List.map_append, List.length_map, show ([(3 : UInt8)] : List UInt8).length = 1 from rfl] at ho55
      rw [List.length_map, show ([(3 : UInt8)] : List UInt8).length = 1 from rfl] at hnl55
      have hds_ho55_hs21 : ∀ j, v55.ownBlock = some j → u21.ownBlock ≠ some j := fun j h1 h2 => (hpl55 j h1).elim (fun h => hds_ho38_hs21 j h h2) (fun h => by have h4 := (fun j hj => hs21.lt j hj) j h2; omega)
      have hds_ho55_hs25 : ∀ j, v55.ownBlock = some j → u25.ownBlock ≠ some j := fun j h1 h2 => (hpl55 j h1).elim (fun h => hds_ho38_hs25 j h h2) (fun h => by have h4 := (fun j hj => hs25.lt j hj) j h2; omega)
      have hds_ho55_hs26 : ∀ j, v55.ownBlock = some j → u26.ownBlock ≠ some j := fun j h1 h2 => (hpl55 j h1).elim (fun h => hds_ho38_hs26 j h h2) (fun h => by have h4 := (fun j hj => hs26.lt j hj) j h2; omega)
      have hds_ho55_hs27 : ∀ j, v55.ownBlock = some j → u27.ownBlock ≠ some j := fun j h1 h2 => (hpl55 j h1).elim (fun h => hds_ho38_hs27 j h h2) (fun h => by have h4 := (fun j hj => hs27.lt j hj) j h2; omega)
      have hds_ho55_hs46 : ∀ j, v55.ownBlock = some j → u46.ownBlock ≠ some j := fun j h1 h2 => (hpl55 j h1).elim (fun h => (fun j h1 h2 => hds_hs46_ho38 j h2 h1) j h h2) (fun h => by have h4 := (fun j hj => hs46.lt j hj) j h2; omega)
      have hds_ho55_ho49 : ∀ j, v55.ownBlock = some j → v49.ownBlock ≠ some j := fun j h1 h2 => (hpl55 j h1).elim (fun h => (fun j h1 h2 => hds_ho49_ho38 j h2 h1) j h h2) (fun h => by have h4 := (fun j hj => (ho49.lt j hj).2) j h2; omega)
      have hds_ho55_hs52 : ∀ j, v55.ownBlock = some j → u52.ownBlock ≠ some j := fun j h1 h2 => (hpl55 j h1).elim (fun h => (fun j h1 h2 => hds_hs52_ho38 j h2 h1) j h h2) (fun h => by have h4 := (fun j hj => hs52.lt j hj) j h2; omega)
      have hne_55_b43 : ∀ j, v55.ownBlock = some j → j ≠ b43 := fun j hj => (hpl55 j hj).elim (fun h => hne_ho38_b43 j h) (fun h => by have := lt_of_block hb43; omega)
      have hne_55_b47 : ∀ j, v55.ownBlock = some j → j ≠ b47 := fun j hj => (hpl55 j hj).elim (fun h => hne_ho38_b47 j h) (fun h => by have := lt_of_block hb47; omega)
      have hne_55_b53 : ∀ j, v55.ownBlock = some j → j ≠ b53 := fun j hj => (hpl55 j hj).elim (fun h => hne_ho38_b53 j h) (fun h => by have := lt_of_block hb53; omega)
      replace hB := keepBR hg (own_row ho38) hB
      replace hb43 := keepOR hg (ne_of_ap hne_ho38_b43) hb43
      replace hb47 := keepOR hg (ne_of_ap hne_ho38_b47) hb47
      replace hb53 := keepOR hg (ne_of_ap hne_ho38_b53) hb53
      replace hs21 := keepSR hg hds_ho38_hs21 hs21
      replace hs25 := keepSR hg hds_ho38_hs25 hs25
      replace hs26 := keepSR hg hds_ho38_hs26 hs26
      replace hs27 := keepSR hg hds_ho38_hs27 hs27
      replace hs46 := keepSR hg (fun j h1 h2 => hds_hs46_ho38 j h2 h1) hs46
      replace ho49 := keepWR hg (fun j h1 h2 => hds_ho49_ho38 j h2 h1) ho49
      replace hs52 := keepSR hg (fun j h1 h2 => hds_hs52_ho38 j h2 h1) hs52
      clear hg
      refine cwgx ha rfl rfl hr55 rfl rfl rfl rfl rfl ⟨fun w => (w.ownsRow w0.heap.size 5 1 v55 (33) (((th2 ck i) ++ ([(3 : UInt8)] : List UInt8)).map e8)) ∧ (w.heap[b53]? = some (.cells ((([(3 : UInt8)] : List UInt8)).map e8).toArray 5 (0, 0))) ∧ (Sl w u52 ((mac (mac ck i) ((th1 ck i) ++ ([(2 : UInt8)] : List UInt8))).map e8)) ∧ (w.ownsRow w0.heap.size 5 1 v49 (33) (((th1 ck i) ++ ([(2 : UInt8)] : List UInt8)).map e8)) ∧ (w.heap[b47]? = some (.cells ((([(2 : UInt8)] : List UInt8)).map e8).toArray 5 (0, 0))) ∧ (Sl w u46 ((mac (mac ck i) ([(1 : UInt8)] : List UInt8)).map e8)) ∧ (w.heap[b43]? = some (.cells ((([(1 : UInt8)] : List UInt8)).map e8).toArray 5 (0, 0))) ∧ Below w0.heap.size w0 w ∧ Sl w u21 ((mac ck i).map e8) ∧ Sl w u25 ((th1 ck i).map e8) ∧ Sl w u26 ((th2 ck i).map e8) ∧ Sl w u27 ((th3 ck i).map e8) ∧ True, fun w h => h.2, fun _ => ⟨ho55, hb53, hs52, ho49, hb47, hs46, hb43, hB, hs21, hs25, hs26, hs27, trivial⟩, ?_⟩; clear hr55 ha a; intro a ha
      refine ccgx ha rfl rfl (r_call ha [u21, v55] rfl Tryd.call31) rfl rfl rfl rfl rfl (c_mac u21 (mac ck i) v55 ((th2 ck i) ++ ([(3 : UInt8)] : List UInt8)) _ hs21 (Sl.ofOwns ho55) (by first | (simp only [List.length_append, th1_len, th2_len, mac_len, List.length_cons, List.length_nil]; omega) | (show 1 ≤ 50000; omega)) (glob_keep hG hB)) ?_
      clear ha a
      rintro e w57 ⟨u58, rfl, hBc, hs58, hd58⟩
      have hg := grown_call hBc; clear hBc
      have hnb_hs58_b43 : ∀ j, u58.ownBlock = some j → j ≠ b43 := fun j hj => by have h1 := hd58 j hj; have h2 := lt_of_block hb43; omega
      have hnb_hs58_b47 : ∀ j, u58.ownBlock = some j → j ≠ b47 := fun j hj => by have h1 := hd58 j hj; have h2 := lt_of_block hb47; omega
      have hnb_hs58_b53 : ∀ j, u58.ownBlock = some j → j ≠ b53 := fun j hj => by have h1 := hd58 j hj; have h2 := lt_of_block hb53; omega
      have hds_hs58_hs21 : ∀ j, u58.ownBlock = some j → u21.ownBlock ≠ some j := fun j h1 h2 => by have h3 := hd58 j h1; have h4 := (fun j hj => hs21.lt j hj) j h2; omega
      have hds_hs58_hs25 : ∀ j, u58.ownBlock = some j → u25.ownBlock ≠ some j := fun j h1 h2 => by have h3 := hd58 j h1; have h4 := (fun j hj => hs25.lt j hj) j h2; omega
      have hds_hs58_hs26 : ∀ j, u58.ownBlock = some j → u26.ownBlock ≠ some j := fun j h1 h2 => by have h3 := hd58 j h1; have h4 := (fun j hj => hs26.lt j hj) j h2; omega
      have hds_hs58_hs27 : ∀ j, u58.ownBlock = some j → u27.ownBlock ≠ some j := fun j h1 h2 => by have h3 := hd58 j h1; have h4 := (fun j hj => hs27.lt j hj) j h2; omega
      have hds_hs58_hs46 : ∀ j, u58.ownBlock = some j → u46.ownBlock ≠ some j := fun j h1 h2 => by have h3 := hd58 j h1; have h4 := (fun j hj => hs46.lt j hj) j h2; omega
      have hds_hs58_ho49 : ∀ j, u58.ownBlock = some j → v49.ownBlock ≠ some j := fun j h1 h2 => by have h3 := hd58 j h1; have h4 := (fun j hj => (ho49.lt j hj).2) j h2; omega
      have hds_hs58_hs52 : ∀ j, u58.ownBlock = some j → u52.ownBlock ≠ some j := fun j h1 h2 => by have h3 := hd58 j h1; have h4 := (fun j hj => hs52.lt j hj) j h2; omega
      have hds_hs58_ho55 : ∀ j, u58.ownBlock = some j → v55.ownBlock ≠ some j := fun j h1 h2 => by have h3 := hd58 j h1; have h4 := (fun j hj => (ho55.lt j hj).2) j h2; omega
      replace hd58 : ∀ j, u58.ownBlock = some j → w0.heap.size ≤ j := fun j hj => Nat.le_trans hB.size (hd58 j hj)
      replace hB := keepB0 hg hB
      replace hb43 := keepO0 hg hb43
      replace hb47 := keepO0 hg hb47
      replace hb53 := keepO0 hg hb53
      replace hs21 := keepS0 hg hs21
      replace hs25 := keepS0 hg hs25
      replace hs26 := keepS0 hg hs26
      replace hs27 := keepS0 hg hs27
      replace hs46 := keepS0 hg hs46
      replace ho49 := keepW0 hg ho49
      replace hs52 := keepS0 hg hs52
      replace ho55 := keepW0 hg ho55
      clear hg
      refine ⟨fun w => (Sl w u58 ((mac (mac ck i) ((th2 ck i) ++ ([(3 : UInt8)] : List UInt8))).map e8)) ∧ (w.ownsRow w0.heap.size 5 1 v55 (33) (((th2 ck i) ++ ([(3 : UInt8)] : List UInt8)).map e8)) ∧ (w.heap[b53]? = some (.cells ((([(3 : UInt8)] : List UInt8)).map e8).toArray 5 (0, 0))) ∧ (Sl w u52 ((mac (mac ck i) ((th1 ck i) ++ ([(2 : UInt8)] : List UInt8))).map e8)) ∧ (w.ownsRow w0.heap.size 5 1 v49 (33) (((th1 ck i) ++ ([(2 : UInt8)] : List UInt8)).map e8)) ∧ (w.heap[b47]? = some (.cells ((([(2 : UInt8)] : List UInt8)).map e8).toArray 5 (0, 0))) ∧ (Sl w u46 ((mac (mac ck i) ([(1 : UInt8)] : List UInt8)).map e8)) ∧ (w.heap[b43]? = some (.cells ((([(1 : UInt8)] : List UInt8)).map e8).toArray 5 (0, 0))) ∧ Below w0.heap.size w0 w ∧ Sl w u21 ((mac ck i).map e8) ∧ Sl w u25 ((th1 ck i).map e8) ∧ Sl w u26 ((th2 ck i).map e8) ∧ Sl w u27 ((th3 ck i).map e8) ∧ True, fun w h => h.2, fun _ => ⟨hs58, ho55, hb53, hs52, ho49, hb47, hs46, hb43, hB, hs21, hs25, hs26, hs27, trivial⟩, _, rfl, ?_⟩; intro a ha
      refine cvg ha rfl rfl (fun w ⟨hs58, ho55, hb53, hs52, ho49, hb47, hs46, hb43, hB, hs21, hs25, hs26, hs27, _⟩ => r_str (l := mac (mac ck i) ((th2 ck i) ++ ([(3 : UInt8)] : List UInt8))) ha Tryd.underlying22 Tryd.underlying5 Tryd.underlying9 rfl hs58) rfl rfl rfl rfl rfl ?_; clear ha a; intro a ha
      refine cvg ha rfl rfl (fun w _ => r_eqlS ha (th3 ck i) (mac (mac ck i) ((th2 ck i) ++ ([(3 : UInt8)] : List UInt8))) true rfl rfl (decide_eq_true (by rw [th3]; first | rfl | simp only [List.flatten_cons, List.flatten_nil, List.append_nil]))) rfl rfl rfl rfl rfl ?_; clear ha a; intro a ha
      refine cv ha rfl rfl (fun w _ => r_pick ha true rfl rfl) rfl rfl rfl ?_; clear ha a; intro a ha
      refine cv ha rfl rfl (fun w _ => r_assign ha rfl) rfl rfl rfl ?_; clear ha a; intro a ha
      refine cfin (hK41 _ _ ?_); clear hK41 K40
      refine wp_ret ?_
      repeat (first | (with_reducible refine t_ret ?_) | (with_reducible refine x_ret ?_))
      exact ret1 ha Tryd.results12 rfl ⟨rfl, hB⟩
  case true =>
    replace hq14 := of_decide_eq_true hq14
    refine sno ha rfl rfl rfl rfl rfl rfl ?_; clear ha a; intro a ha
    refine sno ha rfl rfl rfl rfl rfl rfl ?_; clear ha a; intro a ha
    refine sno ha rfl rfl rfl rfl rfl rfl ?_; clear ha a; intro a ha
    refine sv ha (r_pick ha true rfl rfl) rfl rfl rfl ?_; clear ha a; intro a ha
    refine hK13 _ _ ?_; clear hK13 K12
    refine cond_t ha rfl ?_
    refine wp_seq_k fun K59 hK60 => ?_
    refine region ?_
    refine sv ha (r_assign ha rfl) rfl rfl rfl ?_; clear ha a; intro a ha
    refine hK60 _ _ ?_; clear hK60 K59
    refine wp_ret ?_
    repeat (first | (with_reducible refine t_ret ?_) | (with_reducible refine x_ret ?_))
    exact ret1 ha Tryd.results12 rfl ⟨rfl, hB⟩
end Go.Proofs.YtdhgkfmniebghaaDoor
