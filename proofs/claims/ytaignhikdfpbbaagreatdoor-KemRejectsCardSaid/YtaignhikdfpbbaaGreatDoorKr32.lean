/- Texts of this claim, one behind the other: Q1, Q2, RxJ, RxK, RxL, RxU, Sr, Se, Sx, Sm, Un, Rp, RxM, RxN, Na, Nk, Nl, Nm, Nw, Nv, Kp, Kn, Aw, Lw, Lx, Kq, Kr, Kz, Km. -/
import Derived.Test.YtaignhikdfpbbaaGreatDoorKr31
import Derived.Laws.ResultCell
import Derived.Great.BuildSlice
import Derived.KernelRfl
set_option linter.unusedVariables false
set_option linter.unusedSimpArgs false
/- WALKS written by gen.py (own program) out of specs. -/
namespace Go.Proofs.YtaignhikdfpbbaaGreatDoor
open Go.RowKit Go.Rx
set_option maxRecDepth 100000
set_option maxHeartbeats 4000000
set_option linter.unusedVariables false
set_option linter.unusedSimpArgs false

theorem c_load (v:Value) (b:List UInt8) (w0:World) (hs:Sl w0 v (b.map e8)):
    Calls Tryz.prog 129 #[v] w0 fun e w'=>e=.returned (e64 (ld8 b))∧Below w0.heap.size w0 w':=by
 refine enter (args:=[_]) Tryz.func129 rfl Tryz.ntmps129 rfl ?_;intro a ha;have hB:=Below.refl w0.heap.size w0;refine qr fun K1 k2=>?_;refine s1 ha rfl (av rfl) ?_;intro a ha;refine k2 _ _ ?_;refine qr fun K3 k4=>?_;refine s1 ha rfl (av rfl) ?_;intro a ha;refine k4 _ _ ?_;refine wp_seq_k fun K5 k6=>?_;refine qr fun K7 k8=>?_;refine s4 ha rfl (mv rfl) (fun _ ha=>r_lenS ha Tryz.runUnderlying22 (hs.below hB) rfl (by rw[lM])) (fun _ ha=>rn_min ha b.length 8 rfl rfl) (mv rfl) ?_;intro a ha;refine k8 _ _ ?_;refine wp_block ?_;refine loopG (fun(k:Nat) a w=>(k≤(min b.length 8))∧Has 24 [(0,v),(7,en (min b.length 8)),(3,e64 (ldA b k)),(8,en k)] a∧Below w0.heap.size w0 w) (fun k=>(min b.length 8) - k) 0 ⟨(by omega),ha.to [0,7,3,8] rfl,hB⟩ ?_;clear ha a hB;intro k a w9 ⟨hkk,ha,hB⟩;refine qr fun K10 k11=>?_;refine s1 ha rfl (fun _ ha=>r_lss ha ((k:Nat):Int) ((min b.length 8:Nat):Int) (decide (k<min b.length 8)) rfl rfl (dD (by omega))) ?_;intro a ha;refine k11 _ _ ?_;refine wp_seq_k fun K12 k13=>?_;refine cond_if ha rfl (fun hc14=>?_) (fun hc14=>?_)
 ·skip
  replace hc14:=dT hc14;refine wp_skip ?_;refine k13 _ _ ?_;refine wp_seq_k fun K15 k16=>?_;refine wp_block ?_;refine qr fun K17 k18=>?_;refine s2 ha rfl (mv rfl) (av rfl) ?_;intro a ha;refine k18 _ _ ?_;refine region ?_;refine s6 ha rfl (mv rfl) (mv rfl) (mv rfl) (fun _ ha=>r_indexS (i:=k) ha Tryz.runUnderlying22 Tryz.sizeOf5 (hs.below hB) (C:=(b).map e8) rfl rfl (by rw[lM];omega)) (fun _ ha=>r_loadS ha rfl Tryz.isAgg5 (hs.below hB) (get_map e8 b 0 k (by omega))) (fun _ ha=>r_conv_u8_u64 ha (b.getD k 0) Tryz.runUnderlying5 Tryz.runUnderlying98 rfl) ?_;intro a ha;refine s6 ha rfl (mv rfl) (fun _ ha=>rn_mul ha 8 k rfl rfl (by omega)) (fun _ ha=>r_conv_n_u64 ha (8*k) Tryz.runUnderlying3 Tryz.runUnderlying40 rfl (by omega)) (fun _ ha=>ru_shl ha ((b.getD k 0).toUInt64) (8*k) rfl rfl (by omega)) (fun _ ha=>ru_or ha (ldA b k) (((b.getD k 0).toUInt64) <<< UInt64.ofNat (8*k)) rfl rfl) (av rfl) ?_;intro a ha;refine k16 _ _ ?_;refine region ?_;refine s2 ha rfl (fun _ ha=>rn_add ha k 1 rfl rfl (by omega)) (mv rfl) ?_;intro a ha;exact⟨k+1,by omega,(by omega),ha.to [0,7,3,8] rfl,hB⟩
 ·skip
  replace hc14:=dF hc14;refine wp_exit ?_;obtain rfl:k=(min b.length 8):=by omega
  refine k6 _ _ ?_;refine qr fun K19 k20=>?_;refine s2 ha rfl (mv rfl) (av rfl) ?_;intro a ha;refine k20 _ _ ?_;refine wp_ret ?_;exact ret1 ha Tryz.results129 rfl ⟨rfl,hB⟩

theorem c_store (x:UInt64) (w0:World):
    Calls Tryz.prog 120 #[e64 x,en 8] w0 fun e w'=>∃ b,e=.returned (.slice (some ⟨b,0,none⟩) 8 8)∧Below w0.heap.size w0 w'∧w'.heap[b]?=some (.cells ((st8 x).map e8).toArray 5 (0,0))∧w0.heap.size≤b:=by
 refine enter (args:=[_,_]) Tryz.func120 rfl Tryz.ntmps120 rfl ?_;intro a ha;have hB:=Below.refl w0.heap.size w0;refine qr fun K1 k2=>?_;refine s1 ha rfl (av rfl) ?_;intro a ha;refine k2 _ _ ?_;refine qr fun K3 k4=>?_;refine s3 ha rfl (mv rfl) (fun _ ha=>rn_max ha 8 0 rfl rfl) (fun _ ha=>v_of (rn_min ha (max 8 0) 8 rfl rfl) (congrArg en (rfl:min (max 8 0) 8=8))) ?_;intro a ha;refine smake (k:=8) ha rfl rfl Tryz.underlying22 rfl rfl rfl rfl (show 1*_≤_ by omega) (by omega) rfl ?_;intro a w5 b6 ha hg hb6 hge6 hlt6;have hz6:=bz hB hge6;have hB:=keepB0 hg hB;rw[show(List.replicate 8 (Value.int .u8 0))=(List.replicate 8 (0:UInt8)).map e8 by rw[List.map_replicate];rfl] at hb6;refine s1 ha rfl (av rfl) ?_;intro a ha;refine k4 _ _ ?_;refine wp_seq_k fun K7 k8=>?_;refine qr fun K9 k10=>?_;refine s3 ha rfl (mv rfl) (fun _ ha=>r_lenB ha Tryz.runUnderlying22 rfl) (mv rfl) ?_;intro a ha;refine k10 _ _ ?_;refine wp_block ?_;refine loopG (fun(k:Nat) a w=>(k≤8)∧Has 27 [(0,e64 x),(5,.slice (some ⟨b6,0,none⟩) 8 8),(12,en 8),(13,en k)] a∧Below w0.heap.size w0 w∧w.heap[b6]?=some (.cells ((stA x k).map e8).toArray 5 (0,0))) (fun k=>8 - k) 0 ⟨(by omega),ha.to [0,5,12,13] rfl,hB,hb6⟩ ?_;clear ha a hB hb6;intro k a w11 ⟨hkk,ha,hB,hb6⟩;refine qr fun K12 k13=>?_;refine s1 ha rfl (fun _ ha=>r_lss ha ((k:Nat):Int) ((8:Nat):Int) (decide (k<8)) rfl rfl (dD (by omega))) ?_;intro a ha;refine k13 _ _ ?_;refine wp_seq_k fun K14 k15=>?_;refine cond_if ha rfl (fun hc16=>?_) (fun hc16=>?_)
 ·skip
  replace hc16:=dT hc16;refine wp_skip ?_;refine k15 _ _ ?_;refine wp_seq_k fun K17 k18=>?_;refine wp_block ?_;refine qr fun K19 k20=>?_;refine s2 ha rfl (mv rfl) (av rfl) ?_;intro a ha;refine k20 _ _ ?_;refine region ?_;refine s6 ha rfl (mv rfl) (mv rfl) (mv rfl) (mv rfl) (fun _ ha=>rn_mul ha 8 k rfl rfl (by omega)) (fun _ ha=>r_conv_n_u64 ha (8*k) Tryz.runUnderlying3 Tryz.runUnderlying40 rfl (by omega)) ?_;intro a ha;refine s3 ha rfl (fun _ ha=>ru_shr ha x (8*k) rfl rfl (by omega)) (fun _ ha=>r_conv_u64_u8 ha (x >>> UInt64.ofNat (8*k)) Tryz.runUnderlying98 Tryz.runUnderlying5 rfl) (fun _ ha=>r_indexB ha k Tryz.runUnderlying22 Tryz.sizeOf5 rfl rfl (by omega)) ?_;intro a ha;refine sstore ha (v:=e8 ((x >>> UInt64.ofNat (8*k)).toUInt8)) rfl rfl rfl rfl Tryz.sizeOf5 hb6 (by rw[lM,stA_len];omega) ?_;intro a w21 ha hg hb6';rw[set_map] at hb6';have hb6:=hb6';have hB:=keepB1 hg (by omega) hB;refine k18 _ _ ?_;refine region ?_;refine s2 ha rfl (fun _ ha=>rn_add ha k 1 rfl rfl (by omega)) (mv rfl) ?_;intro a ha;exact⟨k+1,by omega,(by omega),ha.to [0,5,12,13] rfl,hB,hb6⟩
 ·skip
  replace hc16:=dF hc16;refine wp_exit ?_;obtain rfl:k=8:=by omega
  refine k8 _ _ ?_;refine qr fun K22 k23=>?_;refine s2 ha rfl (mv rfl) (av rfl) ?_;intro a ha;refine k23 _ _ ?_;refine wp_ret ?_;exact ret1 ha Tryz.results120 rfl ⟨_,rfl,hB,hb6,hz6⟩

theorem c_join (v:Value) (vs:List Value) (ls:List (List UInt8)) (w0:World) (hjv:Sl w0 v vs) (hsv:Rows8 w0 vs ls) (hb:ls.flatten.length≤140737488355328) (hc:ls.length≤1000):
    Calls Tryz.prog 52 #[v] w0 fun e w'=>∃ u0:Value,e=.returned (u0)∧Below w0.heap.size w0 w'∧Sl w' u0 ((ls.flatten).map e8)∧(∀ j,u0.ownBlock=some j→w0.heap.size≤j):=by
 refine enter (args:=[_]) Tryz.func52 rfl Tryz.ntmps52 rfl ?_;intro a ha;have hB:=Below.refl w0.heap.size w0;refine qr fun K1 k2=>?_;refine s1 ha rfl (av rfl) ?_;intro a ha;refine k2 _ _ ?_;refine qr fun K3 k4=>?_;refine s1 ha rfl (av rfl) ?_;intro a ha;refine k4 _ _ ?_;refine wp_seq_k fun K5 k6=>?_;refine qr fun K7 k8=>?_;refine s3 ha rfl (mv rfl) (fun _ ha=>r_lenS ha Tryz.runUnderlying96 (hjv.below hB) rfl hsv.len) (mv rfl) ?_;intro a ha;refine k8 _ _ ?_;refine wp_block ?_;refine loopG (fun(k:Nat) a w=>∃ vo:Value,(k≤ls.length)∧Has 17 [(6,v),(7,en ls.length),(8,en k),(3,vo)] a∧Below w0.heap.size w0 w∧w.ownsRow w0.heap.size 5 1 vo ((ls.take k).flatten).length (((ls.take k).flatten).map e8)) (fun k=>ls.length - k) 0 ⟨.slice none 0 0,(by omega),ha.to [6,7,8,3] rfl,hB,(own_castl (l:=([]:List UInt8)) (World.ownsRow_nil _ _ _ _) (by rw[List.take_zero];rfl))⟩ ?_;clear ha a hB;intro k a w9 ⟨vo,hkk,ha,hB,hovo⟩;refine qr fun K10 k11=>?_;refine s1 ha rfl (fun _ ha=>r_lss ha ((k:Nat):Int) ((ls.length:Nat):Int) (decide (k<ls.length)) rfl rfl (dD (by omega))) ?_;intro a ha;refine k11 _ _ ?_;refine wp_seq_k fun K12 k13=>?_;refine cond_if ha rfl (fun hc14=>?_) (fun hc14=>?_)
 ·skip
  replace hc14:=dT hc14;refine wp_skip ?_;refine k13 _ _ ?_;refine wp_seq_k fun K15 k16=>?_;refine wp_block ?_;refine qr fun K17 k18=>?_;refine s1 ha rfl (fun _ ha=>r_indexS (i:=k) ha Tryz.runUnderlying96 Tryz.sizeOf22 (hjv.below hB) (C:=vs) rfl rfl (by rw[hsv.len];omega)) ?_;intro a ha;obtain⟨x19,hx19,hs19⟩:=hsv.get k (by omega);refine s2 ha rfl (fun _ ha=>r_loadS ha rfl Tryz.isAgg22 (hjv.below hB) hx19) (av rfl) ?_;intro a ha;refine k18 _ _ ?_;refine region ?_;refine s2 ha rfl (mv rfl) (mv rfl) ?_;intro a ha;refine sapp (C:=(((ls.take k).flatten)).map e8) (D:=(ls.getD k []).map e8) ha rfl rfl Tryz.underlying22 rfl rfl rfl rfl hovo (hs19.below hB) (one_e8 _) (by have:=flat_le ls k (by omega);simp only[lM];show _*1≤_;omega) (by have:=flat_le ls k (by omega);simp only[lM];omega) hB.size rfl ?_;intro a w21 v20 ha hg ho20 hnl20 hpl20;rw[← List.map_append,lM] at ho20;have hB:=keepBR hg (own_row hovo) hB;refine s1 ha rfl (av rfl) ?_;intro a ha;refine k16 _ _ ?_;refine region ?_;refine s2 ha rfl (fun _ ha=>rn_add ha k 1 rfl rfl (by omega)) (mv rfl) ?_;intro a ha;exact⟨k+1,by omega,v20,(by omega),ha.to [6,7,8,3] rfl,hB,(own_castl (own_len ho20) (flat_take ls k (by omega)).symm)⟩
 ·skip
  replace hc14:=dF hc14;refine wp_exit ?_;obtain rfl:k=ls.length:=by omega
  refine k6 _ _ ?_;refine qr fun K22 k23=>?_;refine s2 ha rfl (mv rfl) (av rfl) ?_;intro a ha;refine k23 _ _ ?_;refine wp_ret ?_;exact ret1 ha Tryz.results52 rfl ⟨_,rfl,hB,(Sl.castM (l:=(ls.take ls.length).flatten) (Sl.ofOwns hovo) (by rw[List.take_length])),(own_row hovo)⟩
end Go.Proofs.YtaignhikdfpbbaaGreatDoor

/- WALKS written by gen.py (own program) out of specs. -/
namespace Go.Proofs.YtaignhikdfpbbaaGreatDoor
open Go.RowKit Go.Rx
set_option maxRecDepth 100000
set_option maxHeartbeats 4000000
set_option linter.unusedVariables false
set_option linter.unusedSimpArgs false

theorem zero_99Q2:∀ w,(zeroValue 99).run Tryz.prog w=.ok (.agg ((List.replicate 25 (0:UInt64)).map e64).toArray) w:=fun _=>by kernel_rfl
theorem c_lay (p:List UInt64) (v:Value) (b:List UInt8) (w0:World) (hl:p.length=25) (hs:Sl w0 v (b.map e8)) (hb:b.length≤200):
    Calls Tryz.prog 121 #[.agg ((p).map e64).toArray,v] w0 fun e w'=>e=.returned (.agg ((lay p b).map e64).toArray)∧Below w0.heap.size w0 w':=by
 refine enter (args:=[_,_]) Tryz.func121 rfl Tryz.ntmps121 rfl ?_;intro a ha;have hB:=Below.refl w0.heap.size w0;refine qr fun K1 k2=>?_;refine sbox ha rfl rfl ?_;intro a w3 b4 ha hg hb4 hge4 hlt4;have hz4:=bz hB hge4;have hB:=keepB0 hg hB;refine salloc ha zero_99Q2 rfl ?_;intro a w5 b6 ha hg hb6 hge6 hlt6;have hz6:=bz hB hge6;have hq4_6:=bl hb4 hge6;have⟨hB,hb4⟩:=kB1 hg hB hb4;refine k2 _ _ ?_;refine wp_seq_k fun K7 k8=>?_;refine qr fun K9 k10=>?_;refine s5 ha rfl (mv rfl) (fun _ ha=>r_lenS ha Tryz.runUnderlying22 (hs.below hB) rfl (by rw[lM])) (fun _ ha=>rn_add ha b.length 7 rfl rfl (by omega)) (fun _ ha=>rn_quo ha (b.length+7) 8 rfl rfl (by omega) (by omega)) (mv rfl) ?_;intro a ha;refine k10 _ _ ?_;refine wp_block ?_;refine loopG (fun(k:Nat) a w=>(k≤((b.length+7) / 8))∧Has 31 [(1,v),(2,.pointer (some ⟨b4,0,none⟩)),(4,.pointer (some ⟨b6,0,none⟩)),(9,en ((b.length+7) / 8)),(10,en k)] a∧Below w0.heap.size w0 w∧w.heap[b4]?=some (.cells ((layA p b k).map e64).toArray 99 (0,0))∧w.heap[b6]?=some (.cells ((List.replicate 25 (0:UInt64)).map e64).toArray 99 (0,0))) (fun k=>((b.length+7) / 8) - k) 0 ⟨(by omega),ha.to [1,2,4,9,10] rfl,hB,hb4,hb6⟩ ?_;clear ha a hB hb4 hb6;intro k a w11 ⟨hkk,ha,hB,hb4,hb6⟩;refine qr fun K12 k13=>?_;refine s1 ha rfl (fun _ ha=>r_lss ha ((k:Nat):Int) (((b.length+7) / 8:Nat):Int) (decide (k<(b.length+7) / 8)) rfl rfl (dD (by omega))) ?_;intro a ha;refine k13 _ _ ?_;refine wp_seq_k fun K14 k15=>?_;refine cond_if ha rfl (fun hc16=>?_) (fun hc16=>?_)
 ·skip
  replace hc16:=dT hc16;refine wp_skip ?_;refine k15 _ _ ?_;refine wp_seq_k fun K17 k18=>?_;refine wp_block ?_;refine qr fun K19 k20=>?_;refine s2 ha rfl (mv rfl) (av rfl) ?_;intro a ha;refine k20 _ _ ?_;refine regionD (S:=fun w=>Below w0.heap.size w0 w∧w.heap[b4]?=some (.cells ((layA p b k).map e64).toArray 99 (0,0))∧w.heap[b6]?=some (.cells ((List.replicate 25 (0:UInt64)).map e64).toArray 99 (0,0))∧True) [16] [0,1,2,3,4,5,6,7,8,9,10,11,12,14,15] [0,1,2,3,4,5,6,7,8,9,10,11,12,13,14,15,16] mixed (by kernel_rfl) (fun w hg=>⟨keepB0 hg hB,keepO0 hg hb4,keepO0 hg hb6,trivial⟩) ?_;intro w21 hg;have⟨hB,hb4,hb6⟩:=kB2 hg hB hb4 hb6;refine c6 ha rfl (cmv rfl) (fun w _ _ ha=>r_indexArr (i:=k) ha k Tryz.runUnderlying99 Tryz.sizeOf98 rfl rfl (by omega) (by omega)) (fun w ⟨_,hb4,_⟩ _ ha=>r_load ha rfl Tryz.isAgg98 (cell_of hb4 (get_map e64 (layA p b k) 0 k (by rw[layA_len,hl];omega)))) (cmv rfl) (cmv rfl) (fun w _ _ ha=>rn_mul ha 8 k rfl rfl (by omega)) ?_;intro a ha;refine c6 ha rfl (cmv rfl) (fun w _ _ ha=>rn_mul ha 8 k rfl rfl (by omega)) (fun w _ _ ha=>rn_add ha (8*k) 8 rfl rfl (by omega)) (cmv rfl) (fun w ⟨hB,_⟩ _ ha=>r_lenS ha Tryz.runUnderlying22 (hs.below hB) rfl (by rw[lM])) (fun w _ _ ha=>rn_min ha ((8*k)+8) b.length rfl rfl) ?_;intro a ha;refine c1 ha rfl (fun w ⟨hB,_⟩ _ ha=>r_resl (C:=(b).map e8) ha (8*k) (min ((8*k)+8) b.length) Tryz.runUnderlying22 Tryz.sizeOf5 (hs.below hB) rfl rfl rfl (by omega) (by rw[lM];exact(by omega))) ?_;intro a ha;refine cc ha rfl rfl (r_call ha [(rsl v (8*k) (min ((8*k)+8) b.length))] rfl Tryz.call129) rfl rfl rfl (c_load (rsl v (8*k) (min ((8*k)+8) b.length)) ((b.drop (8*k)).take ((min ((8*k)+8) b.length) - (8*k))) _ (Sl.cutM (lo:=8*k) (hi:=min ((8*k)+8) b.length) (hs.below hB) (by omega) (by omega))) ?_;rintro e w22 ⟨rfl,hBc⟩;have hg:=grown_call hBc;have⟨hB,hb4,hb6⟩:=kB2 hg hB hb4 hb6;refine⟨fun _=>⟨hB,hb4,hb6,trivial⟩,_,rfl,?_⟩;intro a ha;refine c2 ha rfl (fun w _ _ ha=>ru_xor ha ((layA p b k).getD k 0) (ld8 ((b.drop (8*k)).take ((min ((8*k)+8) b.length) - (8*k)))) rfl rfl) (fun w _ _ ha=>r_indexArr (i:=k) ha k Tryz.runUnderlying99 Tryz.sizeOf98 rfl rfl (by omega) (by omega)) ?_;intro a ha;refine cstore ha rfl rfl (v:=e64 (((layA p b k).getD k 0)^^^(ld8 ((b.drop (8*k)).take ((min ((8*k)+8) b.length) - (8*k)))))) rfl rfl rfl rfl Tryz.sizeOf98 hb4 (by rw[lM,layA_len,hl];omega) rfl ?_;intro a w23 ha hg hb4';rw[set_map] at hb4';have hb4:=hb4';have hB:=keepB1 hg (by omega) hB;have hb6:=keepO1 hg (by omega) hb6;refine cfin (k18 _ _ ?_);refine region ?_;refine s2 ha rfl (fun _ ha=>rn_add ha k 1 rfl rfl (by omega)) (mv rfl) ?_;intro a ha;exact⟨k+1,by omega,(by omega),ha.to [1,2,4,9,10] rfl,hB,hb4,hb6⟩
 ·skip
  replace hc16:=dF hc16;refine wp_exit ?_;obtain rfl:k=((b.length+7) / 8):=by omega
  refine k8 _ _ ?_;refine qr fun K24 k25=>?_;refine s1 ha rfl (fun _ ha=>r_loadR ha rfl Tryz.isAgg99 Tryz.sizeOf99 (C:=(layA p b ((b.length+7) / 8)).map e64) (by rw[lM,layA_len,hl]) (cells_all hb4)) ?_;intro a ha;refine sstoreW ha rfl rfl (one_e64 _) Tryz.sizeOf99 (by rw[lM,layA_len,hl]) hb6 (by rw[lM,lR]) ?_;intro a w26 ha hg hb6';have hb6:=hb6';have hB:=keepB1 hg (by omega) hB;have hb4:=keepO1 hg (by omega) hb4;refine k25 _ _ ?_;refine wp_ret ?_;exact retC _ ha Tryz.results121 rfl hb6 Tryz.underlying99 rfl (by rw[lM,layA_len,hl];kernel_rfl) ⟨rfl,hB⟩

theorem c_take (p:List UInt64) (n:Nat) (w0:World) (hl:p.length=25) (hn:n≤200):
    Calls Tryz.prog 104 #[.agg ((p).map e64).toArray,en n] w0 fun e w'=>∃ u0:Value,e=.returned (u0)∧Below w0.heap.size w0 w'∧Sl w' u0 ((tk p n).map e8)∧(∀ j,u0.ownBlock=some j→w0.heap.size≤j):=by
 refine enter (args:=[_,_]) Tryz.func104 rfl Tryz.ntmps104 rfl ?_;intro a ha;have hB:=Below.refl w0.heap.size w0;refine qr fun K1 k2=>?_;refine sbox ha rfl rfl ?_;intro a w3 b4 ha hg hb4 hge4 hlt4;have hz4:=bz hB hge4;have hB:=keepB0 hg hB;refine s1 ha rfl (av rfl) ?_;intro a ha;refine k2 _ _ ?_;refine qr fun K5 k6=>?_;refine s1 ha rfl (av rfl) ?_;intro a ha;refine k6 _ _ ?_;refine wp_seq_k fun K7 k8=>?_;refine qr fun K9 k10=>?_;refine s2 ha rfl (fun _ ha=>r_loadR ha rfl Tryz.isAgg99 Tryz.sizeOf99 (C:=(p).map e64) (by rw[lM,hl]) (cells_all hb4)) (mv rfl) ?_;intro a ha;refine k10 _ _ ?_;refine wp_block ?_;refine loopG (fun(k:Nat) a w=>∃ vo:Value,(k≤25)∧Has 20 [(1,en n),(8,.agg ((p).map e64).toArray),(9,en k),(5,vo)] a∧Below w0.heap.size w0 w∧w.ownsRow w0.heap.size 5 1 vo (tkA p k).length ((tkA p k).map e8)) (fun k=>25 - k) 0 ⟨.slice none 0 0,(by omega),ha.to [1,8,9,5] rfl,hB,(own_castl (l:=([]:List UInt8)) (World.ownsRow_nil _ _ _ _) rfl)⟩ ?_;clear ha a hB;intro k a w11 ⟨vo,hkk,ha,hB,hovo⟩;have htk:=tkA_len p k;refine qr fun K12 k13=>?_;refine s1 ha rfl (fun _ ha=>r_lss ha ((k:Nat):Int) 25 (decide (k<25)) rfl rfl (dD (by omega))) ?_;intro a ha;refine k13 _ _ ?_;refine wp_seq_k fun K14 k15=>?_;refine cond_if ha rfl (fun hc16=>?_) (fun hc16=>?_)
 ·skip
  replace hc16:=dT hc16;refine wp_skip ?_;refine k15 _ _ ?_;refine wp_seq_k fun K17 k18=>?_;refine wp_block ?_;refine qr fun K19 k20=>?_;refine s2 ha rfl (fun _ ha=>r_index (C:=(p).map e64) ha k rfl rfl Tryz.runUnderlying99 Tryz.sizeOf98 Tryz.isAgg98 (by omega) (get_map e64 p 0 k (by rw[hl];omega))) (av rfl) ?_;intro a ha;refine k20 _ _ ?_;refine region ?_;refine s2 ha rfl (mv rfl) (mv rfl) ?_;intro a ha;refine sc ha (r_call ha [e64 (p.getD k 0),en 8] rfl Tryz.call120) rfl rfl rfl (c_store (p.getD k 0) _) ?_;rintro e w21 ⟨b22,rfl,hBc,hb22,hge22⟩;have hg:=grown_call hBc;have hz22:=bz hB hge22;have hne_hovo_b22:∀ j,Value.ownBlock vo=some j→j≠b22:=fun j hj=>by have:=(hovo.lt j hj).2;omega
  have hB:=keepB0 hg hB;have hovo:=keepW0 hg hovo;refine⟨_,rfl,?_⟩;intro a ha;refine sapp (C:=((tkA p k)).map e8) (D:=(st8 (p.getD k 0)).map e8) ha rfl rfl Tryz.underlying22 rfl rfl rfl rfl hovo (Sl.ofBlockM hb22 (by rw[st8_len]) (by omega)) (one_e8 _) (by simp only[lM,st8_len];show _*1≤_;omega) (by simp only[lM,st8_len];omega) hB.size rfl ?_;intro a w24 v23 ha hg ho23 hnl23 hpl23;rw[← List.map_append,lM,st8_len] at ho23;rw[lM,st8_len] at hnl23;have hne_23_b22:∀ j,v23.ownBlock=some j→j≠b22:=fun j hj=>(hpl23 j hj).elim (fun h=>hne_hovo_b22 j h) (fun h=>by have:=lt_of_block hb22;omega);have hB:=keepBR hg (own_row hovo) hB;have hb22:=keepOR hg (ne_of_ap hne_hovo_b22) hb22;refine s1 ha rfl (av rfl) ?_;intro a ha;refine k18 _ _ ?_;refine region ?_;refine s2 ha rfl (fun _ ha=>rn_add ha k 1 rfl rfl (by omega)) (mv rfl) ?_;intro a ha;exact⟨k+1,by omega,v23,(by omega),ha.to [1,8,9,5] rfl,hB,(own_castl (own_len ho23) rfl)⟩
 ·skip
  replace hc16:=dF hc16;refine wp_exit ?_;obtain rfl:k=25:=by omega
  refine k8 _ _ ?_;refine qr fun K25 k26=>?_;refine s4 ha rfl (mv rfl) (mv rfl) (fun _ ha=>r_resl (C:=(tkA p 25).map e8) ha 0 n Tryz.runUnderlying22 Tryz.sizeOf5 (Sl.ofOwns hovo) rfl rfl rfl (by omega) (by rw[lM];exact(by have:=tkA_len p 25;omega))) (av rfl) ?_;intro a ha;refine k26 _ _ ?_;refine wp_ret ?_;exact ret1 ha Tryz.results104 rfl ⟨_,rfl,hB,(Sl.castM (l:=((tkA p 25).drop 0).take (n - 0)) (Sl.cutM (lo:=0) (hi:=n) (Sl.ofOwns hovo) (by omega) (by have:=tkA_len p 25;omega)) rfl),(fun j hj=>(own_row hovo) j (own_rsl _ _ j hj))⟩

theorem c_absN (r:Nat) (s:UInt8) (v:Value) (b:List UInt8) (w0:World) (hr:1≤r∧r≤200) (hs:Sl w0 v (b.map e8)) (hG:Glob w0):
    Calls Tryz.prog 105 #[en r,e8 s,v] w0 fun e w'=>e=.returned (.agg ((absR r s noughts b).map e64).toArray)∧Below w0.heap.size w0 w':=by
 refine enter (args:=[_,_,_]) Tryz.func105 rfl Tryz.ntmps105 rfl ?_;intro a ha;have hB:=Below.refl w0.heap.size w0;refine qr fun K1 k2=>?_;refine salloc ha zero_99Q2 rfl ?_;intro a w3 b4 ha hg hb4 hge4 hlt4;have hz4:=bz hB hge4;have hB:=keepB0 hg hB;refine k2 _ _ ?_;refine qr fun K5 k6=>?_;refine salloc ha zero_99Q2 rfl ?_;intro a w7 b8 ha hg hb8 hge8 hlt8;have hz8:=bz hB hge8;have hq4_8:=bl hb4 hge8;have⟨hB,hb4⟩:=kB1 hg hB hb4;refine k6 _ _ ?_;refine wp_seq_k fun K9 k10=>?_;refine qr fun K11 k12=>?_;refine s3 ha rfl (mv rfl) (fun _ ha=>r_lss ha ((r:Nat):Int) 1 false rfl rfl (decide_eq_false (by omega))) (mv rfl) ?_;intro a ha;refine svg ha (r_move ha rfl) rfl rfl rfl rfl rfl ?_;intro a ha;refine svg ha (r_gtr ha ((r:Nat):Int) 200 false rfl rfl (decide_eq_false (by omega))) rfl rfl rfl rfl rfl ?_;intro a ha;refine s1 ha rfl (fun _ ha=>r_pick ha false rfl rfl) ?_;intro a ha;refine k12 _ _ ?_;refine cond_f ha rfl ?_;refine wp_skip ?_;refine k10 _ _ ?_;refine wp_seq_k fun K13 k14=>?_;refine wp_block ?_;refine loopG (fun(g:List UInt64 × List UInt8) a w=>∃ vb:Value,(g.1.length=25)∧(absR r s noughts b=absR r s g.1 g.2)∧(∀ j,vb.ownBlock=some j→j<w0.heap.size)∧Has 53 [(0,en r),(1,e8 s),(6,.pointer (some ⟨b4,0,none⟩)),(7,.pointer (some ⟨b8,0,none⟩)),(2,vb)] a∧Below w0.heap.size w0 w∧w.heap[b4]?=some (.cells ((List.replicate 25 (0:UInt64)).map e64).toArray 99 (0,0))∧w.heap[b8]?=some (.cells ((g.1).map e64).toArray 99 (0,0))∧Sl w vb ((g.2).map e8)) (fun g=>g.2.length) (noughts,b) ⟨v,lR,rfl,(fun j hj=>hs.lt j hj),ha.to [0,1,6,7,2] rfl,hB,hb4,hb8,(Sl.castM (l:=b) (hs.below hB) rfl)⟩ ?_;clear ha a hB hb4 hb8;intro g a w15 ⟨vb,hga,hgb,hal_vb,ha,hB,hb4,hb8,hsb⟩;refine wp_seq_k fun K16 k17=>?_;refine qr fun K18 k19=>?_;refine s4 ha rfl (mv rfl) (fun _ ha=>r_lenS ha Tryz.runUnderlying22 hsb rfl (by rw[lM])) (mv rfl) (fun _ ha=>r_geq ha ((g.2.length:Nat):Int) ((r:Nat):Int) (decide (g.2.length≥r)) rfl rfl (dD (by omega))) ?_;intro a ha;refine k19 _ _ ?_;refine cond_if ha rfl (fun hc20=>?_) (fun hc20=>?_)
 ·skip
  replace hc20:=dT hc20;refine wp_skip ?_;refine k17 _ _ ?_;refine wp_block ?_;refine wp_seq_k fun K21 k22=>?_;refine regionD (S:=fun w=>Below w0.heap.size w0 w∧w.heap[b4]?=some (.cells ((List.replicate 25 (0:UInt64)).map e64).toArray 99 (0,0))∧w.heap[b8]?=some (.cells ((g.1).map e64).toArray 99 (0,0))∧Sl w vb ((g.2).map e8)∧True) [6] [0,1,2,3] [0,1,2,3,4,5,6] mixed (by kernel_rfl) (fun w hg=>⟨keepB0 hg hB,keepO0 hg hb4,keepO0 hg hb8,keepS0 hg hsb,trivial⟩) ?_;intro w23 hg;have⟨hB,hb4,hb8⟩:=kB2 hg hB hb4 hb8;have hsb:=keepS0 hg hsb;refine c4 ha rfl (fun w ⟨_,_,hb8,_⟩ _ ha=>r_loadR ha rfl Tryz.isAgg99 Tryz.sizeOf99 (C:=(g.1).map e64) (by rw[lM,hga]) (cells_all hb8)) (cmv rfl) (cmv rfl) (fun w ⟨_,_,_,hsb,_⟩ _ ha=>r_resl (C:=(g.2).map e8) ha 0 r Tryz.runUnderlying22 Tryz.sizeOf5 hsb rfl rfl rfl (by omega) (by rw[lM];exact(by omega))) ?_;intro a ha;refine cc ha rfl rfl (r_call ha [.agg ((g.1).map e64).toArray,(rsl vb 0 r)] rfl Tryz.call121) rfl rfl rfl (c_lay g.1 (rsl vb 0 r) (g.2.take r) _ (by rw[hga]) (Sl.castM (Sl.cutM (lo:=0) (hi:=r) hsb (by omega) (by omega)) rfl) (by rw[List.length_take];omega)) ?_;rintro e w24 ⟨rfl,hBc⟩;have hg:=grown_call hBc;have⟨hB,hb4,hb8⟩:=kB2 hg hB hb4 hb8;have hsb:=keepS0 hg hsb;refine⟨fun _=>⟨hB,hb4,hb8,hsb,trivial⟩,_,rfl,?_⟩;intro a ha;refine cc ha rfl rfl (r_call ha [.agg (((lay g.1 (g.2.take r))).map e64).toArray] rfl Tryz.call109) rfl rfl rfl (c_kf (lay g.1 (g.2.take r)) _ (by rw[lay_len,hga]) (glob_keep hG hB)) ?_;rintro e w25 ⟨rfl,hBc⟩;have hg:=grown_call hBc;have⟨hB,hb4,hb8⟩:=kB2 hg hB hb4 hb8;have hsb:=keepS0 hg hsb;refine⟨fun _=>⟨hB,hb4,hb8,hsb,trivial⟩,_,rfl,?_⟩;intro a ha;refine cstoreW ha rfl rfl rfl rfl (one_e64 _) Tryz.sizeOf99 (by rw[lM,kf_len _ (by rw[lay_len,hga])]) hb8 (by rw[lM,hga]) rfl ?_;intro a w26 ha hg hb8';have hb8:=hb8';have hB:=keepB1 hg (by omega) hB;have hb4:=keepO1 hg (by omega) hb4;have hsb:=keepS1 hg (ne_of_ap (fun j hj=>by have h1:=hal_vb j hj;have h2:=hz8;omega)) hsb;refine cfin (k22 _ _ ?_);refine region ?_;refine s4 ha rfl (mv rfl) (mv rfl) (fun _ ha=>r_resl (C:=(g.2).map e8) ha r g.2.length Tryz.runUnderlying22 Tryz.sizeOf5 hsb rfl rfl (show g.2.length=_ by rw[lM]) (by omega) (by rw[lM];exact(by omega))) (av rfl) ?_;intro a ha;have hkl:(kf (lay g.1 (g.2.take r))).length=25:=kf_len _ (by rw[lay_len,hga]);have hstep:=absR_step r s g.1 g.2 (by omega) (by omega);generalize kf (lay g.1 (g.2.take r))=a2 at*;exact⟨(a2,g.2.drop r),(by show(g.2.drop r).length<g.2.length;rw[List.length_drop];omega),rsl vb r g.2.length,hkl,(hgb.trans hstep),(fun j hj=>hal_vb j (own_rsl _ _ j hj)),ha.to [0,1,6,7,2] rfl,hB,hb4,hb8,(Sl.castM (l:=(g.2.drop r).take (g.2.length - r)) (Sl.cutM (lo:=r) (hi:=g.2.length) hsb (by omega) (by omega)) (List.take_of_length_le (by rw[List.length_drop];exact Nat.le_refl _)))⟩
 ·skip
  replace hc20:=dF hc20;refine wp_exit ?_;refine k14 _ _ ?_;refine qr fun K27 k28=>?_;refine s1 ha rfl (mv rfl) ?_;intro a ha;refine smake (k:=r) ha rfl rfl Tryz.underlying22 rfl rfl rfl rfl (show 1*_≤_ by omega) (by omega) rfl ?_;intro a w29 b30 ha hg hb30 hge30 hlt30;have hz30:=bz hB hge30;have hne_hsb_b30:∀ j,Value.ownBlock vb=some j→j≠b30:=fun j hj=>by have:=hsb.lt j hj;omega
  have hq4_30:=bl hb4 hge30;have hq8_30:=bl hb8 hge30;have⟨hB,hb4,hb8⟩:=kB2 hg hB hb4 hb8;have hsb:=keepS0 hg hsb;rw[show(List.replicate r (Value.int .u8 0))=(List.replicate r (0:UInt8)).map e8 by rw[List.map_replicate];rfl] at hb30;refine s1 ha rfl (av rfl) ?_;intro a ha;refine k28 _ _ ?_;refine qr fun K31 k32=>?_;refine s2 ha rfl (mv rfl) (mv rfl) ?_;intro a ha;refine scopy (d:=33) (C:=(g.2).map e8) (p:=(g.2.take r).map e8) ha rfl rfl hsb Tryz.underlying22 rfl hb30 (by rw[List.map_take]) (by simp only[lM,List.length_take,lR];omega) (one_e8 _) ?_ rfl rfl rfl;intro a w33 ha hg hb30';rw[copy_map] at hb30';clear hb30;have hb30:w33.heap[b30]?=some (.cells ((padB r g.2).map e8).toArray 5 (0,0)):=hb30';clear hb30';have hB:=keepB1 hg (by omega) hB;have hb4:=keepO1 hg (by omega) hb4;have hb8:=keepO1 hg (by omega) hb8;have hsb:=keepS1 hg (ne_of_ap hne_hsb_b30) hsb;refine k32 _ _ ?_;refine qr fun K34 k35=>?_;refine s6 ha rfl (mv rfl) (mv rfl) (fun _ ha=>r_lenS ha Tryz.runUnderlying22 hsb rfl (by rw[lM])) (fun _ ha=>r_indexB ha g.2.length Tryz.runUnderlying22 Tryz.sizeOf5 rfl rfl (by omega)) (fun _ ha=>r_load ha rfl Tryz.isAgg5 (cell_of hb30 (get_map e8 (padB r g.2) 0 g.2.length (by rw[padB_len];omega)))) (mv rfl) ?_;intro a ha;refine s2 ha rfl (fun _ ha=>rb_xor ha ((padB r g.2).getD g.2.length 0) s rfl rfl) (fun _ ha=>r_indexB ha g.2.length Tryz.runUnderlying22 Tryz.sizeOf5 rfl rfl (by omega)) ?_;intro a ha;refine sstore ha (v:=e8 (((padB r g.2).getD g.2.length 0)^^^s)) rfl rfl rfl rfl Tryz.sizeOf5 hb30 (by rw[lM,padB_len];omega) ?_;intro a w36 ha hg hb30';rw[set_map] at hb30';have hb30:=hb30';have hB:=keepB1 hg (by omega) hB;have hb4:=keepO1 hg (by omega) hb4;have hb8:=keepO1 hg (by omega) hb8;have hsb:=keepS1 hg (ne_of_ap hne_hsb_b30) hsb;refine k35 _ _ ?_;refine qr fun K37 k38=>?_;refine s6 ha rfl (mv rfl) (mv rfl) (fun _ ha=>rn_sub ha r 1 rfl rfl (by omega) (by omega)) (fun _ ha=>r_indexB ha (r - 1) Tryz.runUnderlying22 Tryz.sizeOf5 rfl rfl (by omega)) (fun _ ha=>r_load ha rfl Tryz.isAgg5 (cell_of hb30 (get_map e8 ((padB r g.2).set g.2.length (((padB r g.2).getD g.2.length 0)^^^s)) 0 (r - 1) (by rw[List.length_set,padB_len];omega)))) (fun _ ha=>rb_xor ha (((padB r g.2).set g.2.length (((padB r g.2).getD g.2.length 0)^^^s)).getD (r - 1) 0) (128:UInt8) rfl rfl) ?_;intro a ha;refine s1 ha rfl (fun _ ha=>r_indexB ha (r - 1) Tryz.runUnderlying22 Tryz.sizeOf5 rfl rfl (by omega)) ?_;intro a ha;refine sstore ha (v:=e8 ((((padB r g.2).set g.2.length (((padB r g.2).getD g.2.length 0)^^^s)).getD (r - 1) 0)^^^(128:UInt8))) rfl rfl rfl rfl Tryz.sizeOf5 hb30 (by rw[lM,List.length_set,padB_len];omega) ?_;intro a w39 ha hg hb30';rw[set_map] at hb30';have hb30:=hb30';have hb30:w39.heap[b30]?=some (.cells ((lastB r s g.2).map e8).toArray 5 (0,0)):=hb30;have hB:=keepB1 hg (by omega) hB;have hb4:=keepO1 hg (by omega) hb4;have hb8:=keepO1 hg (by omega) hb8;refine k38 _ _ ?_;refine qr fun K40 k41=>?_;refine s2 ha rfl (fun _ ha=>r_loadR ha rfl Tryz.isAgg99 Tryz.sizeOf99 (C:=(g.1).map e64) (by rw[lM,hga]) (cells_all hb8)) (mv rfl) ?_;intro a ha;refine scp ha (r_call ha [.agg ((g.1).map e64).toArray,(.slice (some ⟨b30,0,none⟩) r r)] rfl Tryz.call121) rfl rfl rfl (c_lay g.1 (.slice (some ⟨b30,0,none⟩) r r) (lastB r s g.2) _ (by rw[hga]) (Sl.ofBlockM hb30 (by rw[lastB_len]) (Nat.le_refl _)) (by rw[lastB_len];omega)) ?_;intro w42 hg a ha;have⟨hB,hb4⟩:=kB1 hg hB hb4;refine scp ha (r_call ha [.agg (((lay g.1 (lastB r s g.2))).map e64).toArray] rfl Tryz.call109) rfl rfl rfl (c_kf (lay g.1 (lastB r s g.2)) _ (by rw[lay_len,hga]) (glob_keep hG hB)) ?_;intro w43 hg a ha;have⟨hB,hb4⟩:=kB1 hg hB hb4;refine sstoreW ha rfl rfl (one_e64 _) Tryz.sizeOf99 (by rw[lM,kf_len _ (by rw[lay_len,hga])]) hb4 (by rw[lM,lR]) ?_;intro a w44 ha hg hb4';have hb4:=hb4';have hB:=keepB1 hg (by omega) hB;refine k41 _ _ ?_;refine wp_ret ?_;exact retC _ ha Tryz.results105 rfl hb4 Tryz.underlying99 rfl (by rw[lM,kf_len _ (by rw[lay_len,hga])];kernel_rfl) ⟨(by rw[hgb,absR_end _ _ _ _ (by omega) (by omega)]),hB⟩

theorem c_sum256 (v:Value) (b:List UInt8) (w0:World) (hs:Sl w0 v (b.map e8)) (hG:Glob w0):
    Calls Tryz.prog 64 #[v] w0 fun e w'=>∃ u0:Value,e=.returned (u0)∧Below w0.heap.size w0 w'∧Sl w' u0 ((sum256 b).map e8)∧(∀ j,u0.ownBlock=some j→w0.heap.size≤j):=by
 refine enter (args:=[_]) Tryz.func64 rfl Tryz.ntmps64 rfl ?_;intro a ha;have hB:=Below.refl w0.heap.size w0;refine qr fun K1 k2=>?_;refine s1 ha rfl (av rfl) ?_;intro a ha;refine k2 _ _ ?_;refine qr fun K3 k4=>?_;refine s1 ha rfl (mv rfl) ?_;intro a ha;refine scp ha (r_call ha [en 136,e8 (6:UInt8),v] rfl Tryz.call105) rfl rfl rfl (c_absN 136 (6:UInt8) v b _ (by omega) (hs.below hB) (glob_keep hG hB)) ?_;intro w5 hg a ha;have hB:=keepB0 hg hB;refine sc ha (r_call ha [.agg (((absR 136 (6:UInt8) noughts b)).map e64).toArray,en 32] rfl Tryz.call104) rfl rfl rfl (c_take (absR 136 (6:UInt8) noughts b) 32 _ (by rw[absR_len]) (by omega)) ?_;rintro e w6 ⟨u7,rfl,hBc,hs7,hd7⟩;have hg:=grown_call hBc;replace hd7:∀ j,u7.ownBlock=some j→w0.heap.size≤j:=fun j hj=>Nat.le_trans hB.size (hd7 j hj);have hB:=keepB0 hg hB;refine⟨_,rfl,?_⟩;intro a ha;refine s1 ha rfl (av rfl) ?_;intro a ha;refine k4 _ _ ?_;refine wp_ret ?_;exact ret1 ha Tryz.results64 rfl ⟨_,rfl,hB,(Sl.castM (l:=tk (absR 136 (6:UInt8) noughts b) 32) hs7 rfl),hd7⟩

theorem c_sum512 (v:Value) (b:List UInt8) (w0:World) (hs:Sl w0 v (b.map e8)) (hG:Glob w0):
    Calls Tryz.prog 75 #[v] w0 fun e w'=>∃ u0:Value,e=.returned (u0)∧Below w0.heap.size w0 w'∧Sl w' u0 ((sum512 b).map e8)∧(∀ j,u0.ownBlock=some j→w0.heap.size≤j):=by
 refine enter (args:=[_]) Tryz.func75 rfl Tryz.ntmps75 rfl ?_;intro a ha;have hB:=Below.refl w0.heap.size w0;refine qr fun K1 k2=>?_;refine s1 ha rfl (av rfl) ?_;intro a ha;refine k2 _ _ ?_;refine qr fun K3 k4=>?_;refine s1 ha rfl (mv rfl) ?_;intro a ha;refine scp ha (r_call ha [en 72,e8 (6:UInt8),v] rfl Tryz.call105) rfl rfl rfl (c_absN 72 (6:UInt8) v b _ (by omega) (hs.below hB) (glob_keep hG hB)) ?_;intro w5 hg a ha;have hB:=keepB0 hg hB;refine sc ha (r_call ha [.agg (((absR 72 (6:UInt8) noughts b)).map e64).toArray,en 64] rfl Tryz.call104) rfl rfl rfl (c_take (absR 72 (6:UInt8) noughts b) 64 _ (by rw[absR_len]) (by omega)) ?_;rintro e w6 ⟨u7,rfl,hBc,hs7,hd7⟩;have hg:=grown_call hBc;replace hd7:∀ j,u7.ownBlock=some j→w0.heap.size≤j:=fun j hj=>Nat.le_trans hB.size (hd7 j hj);have hB:=keepB0 hg hB;refine⟨_,rfl,?_⟩;intro a ha;refine s1 ha rfl (av rfl) ?_;intro a ha;refine k4 _ _ ?_;refine wp_ret ?_;exact ret1 ha Tryz.results75 rfl ⟨_,rfl,hB,(Sl.castM (l:=tk (absR 72 (6:UInt8) noughts b) 64) hs7 rfl),hd7⟩

theorem zero_104Q2:∀ w,(zeroValue 104).run Tryz.prog w=.ok (.agg ((List.replicate 25 (0:UInt64)).map e64++[en 0,.slice none 0 0]).toArray) w:=fun _=>by kernel_rfl
theorem c_start (r:Nat) (v:Value) (b:List UInt8) (w0:World) (hr:1≤r∧r≤200) (hs:Sl w0 v (b.map e8)) (hG:Glob w0):
    Calls Tryz.prog 108 #[en r,v] w0 fun e w'=>∃ (bk:Nat) (uk:Value),e=.returned (.pointer (some ⟨bk,0,none⟩))∧Below w0.heap.size w0 w'∧w'.heap[bk]?=some (.cells ((absR r 31 noughts b).map e64++[en r,uk]).toArray 104 (0,0))∧w0.heap.size≤bk∧Sl w' uk ((tk (absR r 31 noughts b) r).map e8)∧(∀ j,uk.ownBlock=some j→w0.heap.size≤j)∧(∀ j,uk.ownBlock=some j→j≠bk):=by
 refine enter (args:=[_,_]) Tryz.func108 rfl Tryz.ntmps108 rfl ?_;intro a ha;have hB:=Below.refl w0.heap.size w0;refine qr fun K1 k2=>?_;refine s1 ha rfl (av rfl) ?_;intro a ha;refine k2 _ _ ?_;refine qr fun K3 k4=>?_;refine s2 ha rfl (mv rfl) (mv rfl) ?_;intro a ha;refine scp ha (r_call ha [en r,e8 (31:UInt8),v] rfl Tryz.call105) rfl rfl rfl (c_absN r (31:UInt8) v b _ (by omega) (hs.below hB) (glob_keep hG hB)) ?_;intro w5 hg a ha;have hB:=keepB0 hg hB;refine salloc ha zero_99Q2 rfl ?_;intro a w6 b7 ha hg hb7 hge7 hlt7;have hz7:=bz hB hge7;have hB:=keepB0 hg hB;refine sstoreW ha rfl rfl (one_e64 _) Tryz.sizeOf99 (by rw[lM,absR_len]) hb7 (by rw[lM,lR]) ?_;intro a w8 ha hg hb7';have hb7:=hb7';have hB:=keepB1 hg (by omega) hB;refine k4 _ _ ?_;refine wp_seq_k fun K9 k10=>?_;refine regionD (S:=fun w=>Below w0.heap.size w0 w∧w.heap[b7]?=some (.cells ((absR r (31:UInt8) noughts b).map e64).toArray 99 (0,0))∧True) [] [0,1,2,3,5,7] [0,1,2,3,4,5,6,7] mixed (by kernel_rfl) (fun w hg=>⟨keepB0 hg hB,keepO0 hg hb7,trivial⟩) ?_;intro w11 hg;have⟨hB,hb7⟩:=kB1 hg hB hb7;refine c4 ha rfl (fun w ⟨_,hb7,_⟩ _ ha=>r_loadR ha rfl Tryz.isAgg99 Tryz.sizeOf99 (C:=(absR r (31:UInt8) noughts b).map e64) (by rw[lM,absR_len]) (cells_all hb7)) (cmv rfl) (fun w ⟨_,hb7,_⟩ _ ha=>r_loadR ha rfl Tryz.isAgg99 Tryz.sizeOf99 (C:=(absR r (31:UInt8) noughts b).map e64) (by rw[lM,absR_len]) (cells_all hb7)) (cmv rfl) ?_;intro a ha;refine ccx ha rfl rfl (r_call ha [.agg (((absR r (31:UInt8) noughts b)).map e64).toArray,en r] rfl Tryz.call104) rfl rfl rfl (c_take (absR r (31:UInt8) noughts b) r _ (by rw[absR_len]) (by omega)) ?_;rintro e w12 ⟨u13,rfl,hBc,hs13,hd13⟩;have hg:=grown_call hBc;have hnb_hs13_b7:=nbn hd13 hb7;replace hd13:∀ j,u13.ownBlock=some j→w0.heap.size≤j:=fun j hj=>Nat.le_trans hB.size (hd13 j hj);have⟨hB,hb7⟩:=kB1 hg hB hb7;refine⟨fun w=>(Sl w u13 ((tk (absR r (31:UInt8) noughts b) r).map e8))∧Below w0.heap.size w0 w∧w.heap[b7]?=some (.cells ((absR r (31:UInt8) noughts b).map e64).toArray 99 (0,0))∧True,fun w h=>h.2,fun _=>⟨hs13,hB,hb7,trivial⟩,_,rfl,?_⟩;intro a ha;refine cv ha rfl rfl (fun w ⟨hs13,hB,hb7,_⟩=>r_buildSt (C:=(absR r (31:UInt8) noughts b).map e64++[en r,u13]) ha [(0,.tmp 9),(1,.tmp 10),(2,.tmp 13)] [(0,.agg ((absR r (31:UInt8) noughts b).map e64).toArray),(1,en r),(2,u13)] rfl zero_104Q2 Tryz.runUnderlying104 (places:= #[(0,25),(25,1),(26,1)]) (fun _=>by kernel_rfl) (fillX (absR r (31:UInt8) noughts b) (by rw[absR_len]) r hs13)) rfl rfl rfl ?_;intro a ha;refine cbox ha rfl rfl rfl rfl (fun w hg=>⟨keepS0 hg hs13,keepB0 hg hB,keepO0 hg hb7,trivial⟩) ?_;intro a w14 b15 ha hg hb15 hge15 hlt15;have hz15:=bz hB hge15;have hne_hs13_b15:∀ j,Value.ownBlock u13=some j→j≠b15:=fun j hj=>by have:=hs13.lt j hj;omega
 have hq7_15:=bl hb7 hge15;have⟨hB,hb7⟩:=kB1 hg hB hb7;have hs13:=keepS0 hg hs13;refine c1 ha rfl (cav rfl) ?_;intro a ha;refine cfin (k10 _ _ ?_);refine wp_ret ?_;exact ret1 ha Tryz.results108 rfl ⟨_,_,rfl,hB,hb15,hz15,hs13,hd13,hne_hs13_b15⟩

theorem c_shake128 (v:Value) (b:List UInt8) (w0:World) (hs:Sl w0 v (b.map e8)) (hG:Glob w0):
    Calls Tryz.prog 117 #[v] w0 fun e w'=>∃ (bk:Nat) (uk:Value),e=.returned (.pointer (some ⟨bk,0,none⟩))∧Below w0.heap.size w0 w'∧w'.heap[bk]?=some (.cells ((absR 168 31 noughts b).map e64++[en 168,uk]).toArray 104 (0,0))∧w0.heap.size≤bk∧Sl w' uk ((tk (absR 168 31 noughts b) 168).map e8)∧(∀ j,uk.ownBlock=some j→w0.heap.size≤j)∧(∀ j,uk.ownBlock=some j→j≠bk):=by
 refine enter (args:=[_]) Tryz.func117 rfl Tryz.ntmps117 rfl ?_;intro a ha;have hB:=Below.refl w0.heap.size w0;refine qr fun K1 k2=>?_;refine s1 ha rfl (av rfl) ?_;intro a ha;refine k2 _ _ ?_;refine qr fun K3 k4=>?_;refine s1 ha rfl (mv rfl) ?_;intro a ha;refine sc ha (r_call ha [en 168,v] rfl Tryz.call108) rfl rfl rfl (c_start 168 v b _ (by omega) (hs.below hB) (glob_keep hG hB)) ?_;rintro e w5 ⟨b6,u6,rfl,hBc,hb6,hge6,hs6,hd6,hnx6⟩;have hg:=grown_call hBc;have hz6:=bz hB hge6;replace hd6:∀ j,u6.ownBlock=some j→w0.heap.size≤j:=fun j hj=>Nat.le_trans hB.size (hd6 j hj);have hB:=keepB0 hg hB;refine⟨_,rfl,?_⟩;intro a ha;refine s1 ha rfl (av rfl) ?_;intro a ha;refine k4 _ _ ?_;refine wp_ret ?_;exact ret1 ha Tryz.results117 rfl ⟨_,_,rfl,hB,hb6,hz6,hs6,hd6,hnx6⟩

theorem c_shake256 (v:Value) (b:List UInt8) (w0:World) (hs:Sl w0 v (b.map e8)) (hG:Glob w0):
    Calls Tryz.prog 71 #[v] w0 fun e w'=>∃ (bk:Nat) (uk:Value),e=.returned (.pointer (some ⟨bk,0,none⟩))∧Below w0.heap.size w0 w'∧w'.heap[bk]?=some (.cells ((absR 136 31 noughts b).map e64++[en 136,uk]).toArray 104 (0,0))∧w0.heap.size≤bk∧Sl w' uk ((tk (absR 136 31 noughts b) 136).map e8)∧(∀ j,uk.ownBlock=some j→w0.heap.size≤j)∧(∀ j,uk.ownBlock=some j→j≠bk):=by
 refine enter (args:=[_]) Tryz.func71 rfl Tryz.ntmps71 rfl ?_;intro a ha;have hB:=Below.refl w0.heap.size w0;refine qr fun K1 k2=>?_;refine s1 ha rfl (av rfl) ?_;intro a ha;refine k2 _ _ ?_;refine qr fun K3 k4=>?_;refine s1 ha rfl (mv rfl) ?_;intro a ha;refine sc ha (r_call ha [en 136,v] rfl Tryz.call108) rfl rfl rfl (c_start 136 v b _ (by omega) (hs.below hB) (glob_keep hG hB)) ?_;rintro e w5 ⟨b6,u6,rfl,hBc,hb6,hge6,hs6,hd6,hnx6⟩;have hg:=grown_call hBc;have hz6:=bz hB hge6;replace hd6:∀ j,u6.ownBlock=some j→w0.heap.size≤j:=fun j hj=>Nat.le_trans hB.size (hd6 j hj);have hB:=keepB0 hg hB;refine⟨_,rfl,?_⟩;intro a ha;refine s1 ha rfl (av rfl) ?_;intro a ha;refine k4 _ _ ?_;refine wp_ret ?_;exact ret1 ha Tryz.results71 rfl ⟨_,_,rfl,hB,hb6,hz6,hs6,hd6,hnx6⟩

end Go.Proofs.YtaignhikdfpbbaaGreatDoor

/- More moves in a region that draws: what is not wanted, literals, appends. -/
namespace Go.Rx
open Go.RowKit
section
variable {P:Program} {ops:Array Oper} {Q:Exit→Act→World→Prop} {S:World→Prop} {T:List Nat}
variable {st:List Nat} {i:Nat} {r:List Nat} {a:Act} {w w':World} {o:Oper} {m:Nat} {env:Env} {v u:Value} {ty t:TypeId} {pos:String} {af:Array Edge} {x y:Operand} {dst:Option Tmp} {g:Option (Nat × Bool)}

/-- What a literal of a slice does. -/
theorem r_buildS (ha:Has m env a) {e k:Nat} {parts:List (Nat × Operand)} (vs:List (Nat × Value)) (C:List Value) (hp:evp env parts=some vs) (hT:∀ w,(underlying t).run P w=.ok (.slice e) w) (hsz:∀ w,(sizeOf e).run P w=.ok 1 w) {z:Value} (hz:∀ w,(zeroValue e).run P w=.ok z w) (hzc:z.cells= #[z]) (hk0:Nat.blt 0 k=true) (hk:Nat.ble k 16777216=true)
    (hf:Instr.fill (fun i=>some (i*1,1)) (List.replicate k z).toArray vs=some C.toArray):
    ∃ b w',(execOp a.eval ⟨dst,.buildSlice t k parts.toArray,ty,pos,af,g⟩).run P w=.ok (.value (.slice (some ⟨b,0,none⟩) k k)) w'∧w.grownBy w' none∧w'.heap[b]?=some (.cells C.toArray e (0,0))∧w.heap.size≤b∧b<w'.heap.size:=by
  have h:=ha.evp parts vs hp;have hr:=run_buildSlice (P:=P) (w:=w) (parts:=vs.toArray) (C:=C) hT hsz hz hzc (by simpa[Nat.blt_eq] using hk0) (by simpa[Nat.ble_eq] using hk) (by simpa using hf);have hrun:(execOp a.eval ⟨dst,.buildSlice t k parts.toArray,ty,pos,af,g⟩).run P w=.ok (.value (.slice (some ⟨w.heap.size,0,none⟩) k k)) (w.alloc (.cells C.toArray e)):=by
    have hm:(parts.toArray.map fun p=>(p.1,a.eval p.2))=vs.toArray:=by rw[List.map_toArray,h]
    simp only[execOp,hm,Sem.run_bind,hr,Result.andThen_ok];rfl
  exact⟨_,_,hrun,grown_alloc w _,heap_alloc_new w _,Nat.le_refl _,by simp⟩
end
end Go.Rx

/- A slice of bytes turned into its own type: the run-time's mark behind its row. -/
namespace Go.Rx
open Go.RowKit
section
variable {P:Program} {w w':World} {a:Act} {m:Nat} {env:Env} {v u:Value} {ty t:TypeId} {pos:String} {af:Array Edge} {x y:Operand} {dst:Option Tmp} {g:Option (Nat × Bool)}
end
end Go.Rx

/- More of the calculus: 'or' of ints, an array and a number handed back. -/
namespace Go.Rx
open Go.RowKit
section
variable {P:Program} {n:Nat} {env:Env} {a:Act} {w:World} {dst:Option Tmp} {ty t t':TypeId} {pos:String} {af:Array Edge} {g:Option (Nat × Bool)} {x y:Operand} {v:Value}
variable {ops:Array Oper} {Q:Exit→Act→World→Prop} {d:Nat} {S:World→Prop} {T:List Nat} {m i:Nat} {st r:List Nat}
/-- New memory in a region that draws. -/
theorem calloc (ha:Has m env a) {t:TypeId} {C:List Value} (hi:ops[i]?=some ⟨some d,.alloc t,ty,pos,af,none⟩) (hc:st.contains i=false) (hz:∀ w,(zeroValue t).run P w=.ok (.agg C.toArray) w) (hn:Nat.blt d m=true) (hS:∀ w',w.grownBy w' none→S w')
    (k:∀ a' w' b,Has m ((d,.pointer (some ⟨b,0,none⟩))::env) a'→w.grownBy w' none→w'.heap[b]?=some (.cells C.toArray t (0,0))→w.heap.size≤b→b<w'.heap.size→wpC P ops Q S T st r a' w'):
    wpC P ops Q S T st (i::r) a w:=
  cw ha hi hc (r_alloc hz) rfl rfl hn (fun _=>hS _ (grown_alloc w _)) fun _ ha'=>k _ _ _ ha' (grown_alloc w _) (heap_alloc_new w _) (Nat.le_refl _) (by simp)
theorem rn_or (ha:Has n env a) (p q:Nat) (hx:ev env x=some (en p)) (hy:ev env y=some (en q)) (hp:p≤9223372036854775807) (hq:q≤9223372036854775807):
    (execOp a.eval ⟨dst,.binOp .or t x y t',ty,pos,af,g⟩).run P w=.ok (.value (en (p|||q))) w:=by
  have hlt:p|||q<2 ^ 63:=Nat.or_lt_two_pow (by omega) (by omega);have e2:IntKind.i64.wrap ((p|||q:Nat):Int)=((p|||q:Nat):Int):=i64_in (by omega) (by omega);simp[execOp,ha.ev hx,ha.ev hy,eqGuard,binOp,Op.intBits,IntKind.bits];have e':(BitVec.ofNat 64 p|||BitVec.ofNat 64 q).toNat=p|||q:=by
    rw[BitVec.toNat_or,BitVec.toNat_ofNat,BitVec.toNat_ofNat,Nat.mod_eq_of_lt (by omega),Nat.mod_eq_of_lt (by omega)]
  show IntKind.i64.wrap (((BitVec.ofNat 64 p|||BitVec.ofNat 64 q).toNat:Nat):Int)=_;rw[e',e2]
theorem retCT {fn:Func} {R:Ending→World→Prop} {p q:Tmp} {ty gb ct:Nat} {C:List Value} (d:TypeDesc) (ha:Has n env a) (hr:fn.results= #[.cell p ty,.tmp q]) (hp:look env p=some (.pointer (some ⟨gb,0,none⟩))) (hq:look env q=some v)
    (hg:w.heap[gb]?=some (.cells C.toArray ct (0,0))) (hu:P.underlying ty=some d) (hd:(match d with | .struct _ | .array _ _=>true | _=>false)=true) (hi:(P.info? ty).map (·.size)=some C.length)
    (h:R (.returned (.tuple #[.agg C.toArray,v])) w):bodyPost P fn R .ret a w:=by
  refine⟨ha.defers,.tuple #[.agg C.toArray,v],?_,h⟩;have hpv:a.tmps.getD p undef=.pointer (some ⟨gb,0,none⟩):=by simp[Array.getD_eq_getD_getElem?,ha.has p _ hp]
  have hqv:a.tmps.getD q undef=v:=by simp[Array.getD_eq_getD_getElem?,ha.has q v hq]
  rw[results_cell_tmp hr,hpv];simp[asAddr,run_loadVar_row w gb ct ty C.toArray (0,0) d hg hu hd (by simpa using hi),hqv]
end
end Go.Rx

/- More of the calculus: operations on constants, told by what they yield. -/
namespace Go.Rx
open Go.RowKit
section
variable {P:Program} {n:Nat} {env:Env} {a:Act} {w:World} {dst:Option Tmp} {ty t t':TypeId} {pos:String} {af:Array Edge} {g:Option (Nat × Bool)} {x y:Operand}
theorem r_negK (ha:Has n env a) (p q:Int) (hx:ev env x=some (ei p)) (h:∀ w,(Op.unary .neg (ei p)).run P w=.ok (ei q) w):
    (execOp a.eval ⟨dst,.unOp .neg t x,ty,pos,af,g⟩).run P w=.ok (.value (ei q)) w:=by
  simp[execOp,ha.ev hx,h]
theorem r_bitK (ha:Has n env a) {o:BinOp} (p q r:Int) (hx:ev env x=some (ei p)) (hy:ev env y=some (ei q)) (he:∀ w,(eqGuard o t x y (ei p) (ei q)).run P w=.ok () w) (h:∀ w,(binOp o t (ei p) (ei q)).run P w=.ok (ei r) w):
    (execOp a.eval ⟨dst,.binOp o t x y t',ty,pos,af,g⟩).run P w=.ok (.value (ei r)) w:=by
  simp[execOp,ha.ev hx,ha.ev hy,he,h]
theorem run_results4 {fn:Func} {t u s r:Tmp} (h:fn.results= #[.tmp t,.tmp u,.tmp s,.tmp r]) (tmps:Array Value) (P:Program) (w:World):
    (results fn tmps).run P w=.ok (.tuple #[tmps.getD t undef,tmps.getD u undef,tmps.getD s undef,tmps.getD r undef]) w:=by
  simp[results,h]
theorem ret4 {fn:Func} {R:Ending→World→Prop} {t u s r:Tmp} {v x y z:Value} (ha:Has n env a) (hr:fn.results= #[.tmp t,.tmp u,.tmp s,.tmp r]) (hv:look env t=some v) (hx:look env u=some x) (hy:look env s=some y) (hz:look env r=some z) (h:R (.returned (.tuple #[v,x,y,z])) w):bodyPost P fn R .ret a w:=by
  refine⟨ha.defers,.tuple #[v,x,y,z],?_,h⟩;rw[run_results4 hr];simp[Array.getD_eq_getD_getElem?,ha.has t v hv,ha.has u x hx,ha.has s y hy,ha.has r z hz]
end
end Go.Rx

/- Plain functions: the document's words, bytes and sponge, as its functions reckon them. -/
namespace Go.Rx
def ldR:List UInt8→UInt64
  | []=>0
  | c::r=>ldR r*256+c.toUInt64
theorem ldR_step (b:List UInt8) (k:Nat) (h1:1≤k) (h2:k≤b.length):ldR (b.drop k)*256+(b.getD (k - 1) 0).toUInt64=ldR (b.drop (k - 1)):=by
  obtain⟨m,rfl⟩:∃ m,k=m+1:=⟨k - 1,by omega⟩;rw[Nat.add_sub_cancel,List.drop_eq_getElem_cons (show m<b.length by omega),ldR];simp[List.getD,List.getElem?_eq_getElem (show m<b.length by omega)]
def rsX (x:UInt64):Nat→UInt64
  | 0=>x
  | k+1=>rsX x k / 256
def rsA (x:UInt64):Nat→List UInt8
  | 0=>[]
  | k+1=>rsA x k++[(rsX x k % 256).toUInt8]
theorem rsA_len (x:UInt64):∀ k,(rsA x k).length=k
  | 0=>rfl
  | k+1=>by rw[rsA,lA,rsA_len x k];rfl
def rs8 (x:UInt64):List UInt8:=rsA x 8
theorem rs8_len (x:UInt64):(rs8 x).length=8:=rsA_len x 8
def rbA (p:List UInt64):Nat→List UInt8
  | 0=>[]
  | k+1=>rbA p k++rs8 (p.getD k 0)
theorem rbA_len (p:List UInt64):∀ k,(rbA p k).length=8*k
  | 0=>rfl
  | k+1=>by rw[rbA,lA,rbA_len p k,rs8_len];omega
def rby (p:List UInt64):List UInt8:=rbA p 25
theorem rby_len (p:List UInt64):(rby p).length=200:=rbA_len p 25
def rstA (b:List UInt8):Nat→List UInt64
  | 0=>[]
  | k+1=>rstA b k++[ldR ((b.drop (8*k)).take (8*k+8 - 8*k))]
theorem rstA_len (b:List UInt8):∀ k,(rstA b k).length=k
  | 0=>rfl
  | k+1=>by rw[rstA,lA,rstA_len b k];rfl
def rst (b:List UInt8):List UInt64:=rstA b 25
theorem rst_len (b:List UInt8):(rst b).length=25:=rstA_len b 25
def padN (L r:Nat):Nat:=(r - L % r) % r
theorem padN_iff (L r j:Nat) (hr:1≤r) (hj:j≤padN L r):(L+j) % r=0↔j=padN L r:=by
  unfold padN at*;have hm:=Nat.mod_lt L (show 0<r by omega);have hd:=Nat.div_add_mod L r;by_cases h0:L % r=0
  · rw[h0,Nat.sub_zero,Nat.mod_self] at hj
    rw[h0,Nat.sub_zero,Nat.mod_self];have:j=0:=by omega
    subst this;simpa using h0
  · rw[Nat.mod_eq_of_lt (show r - L % r<r by omega)] at hj
    rw[Nat.mod_eq_of_lt (show r - L % r<r by omega)];rw[Nat.add_mod,Nat.mod_eq_of_lt (show j<r by omega)];by_cases h1:L % r+j<r
    · rw[Nat.mod_eq_of_lt h1];omega
    · have:L % r+j=r:=by omega
      rw[this,Nat.mod_self];omega
theorem pre_len (b:List UInt8) (s:UInt8) (j:Nat):((b++[s])++List.replicate j (0:UInt8)).length=b.length+1+j:=by simp only[lA,List.length_cons,List.length_nil,lR]
theorem pre_step (b:List UInt8) (s:UInt8) (j:Nat):((b++[s])++List.replicate j (0:UInt8))++[0]=(b++[s])++List.replicate (j+1) (0:UInt8):=by rw[List.append_assoc,List.replicate_succ']
def rpad (r:Nat) (s:UInt8) (b:List UInt8):List UInt8:=
  ((b++[s])++List.replicate (padN (b.length+1) r) (0:UInt8)).set (b.length+1+padN (b.length+1) r - 1) (((b++[s])++List.replicate (padN (b.length+1) r) (0:UInt8)).getD (b.length+1+padN (b.length+1) r - 1) 0^^^128)
theorem rpad_len (r:Nat) (s:UInt8) (b:List UInt8):(rpad r s b).length=b.length+1+padN (b.length+1) r:=by rw[rpad,List.length_set,pre_len]
def nbk (b:List UInt8) (r:Nat):Nat:=(b.length+1+padN (b.length+1) r) / r
theorem rpad_nb (r:Nat) (s:UInt8) (b:List UInt8) (hr:1≤r):(rpad r s b).length=nbk b r*r:=by
  rw[rpad_len,nbk];have:=(padN_iff (b.length+1) r _ hr (Nat.le_refl _)).2 rfl;exact(Nat.div_mul_cancel (Nat.dvd_of_mod_eq_zero this)).symm
def rsx (p:List UInt64) (q:List UInt8) (i:Nat):Nat→List UInt8
  | 0=>rby p
  | k+1=>(rsx p q i k).set k ((rsx p q i k).getD k 0^^^q.getD (i+k) 0)
theorem rsx_len (p:List UInt64) (q:List UInt8) (i:Nat):∀ k,(rsx p q i k).length=200
  | 0=>rby_len p
  | k+1=>by rw[rsx,List.length_set];exact rsx_len p q i k
def rabA (r:Nat) (s:UInt8) (b:List UInt8):Nat→List UInt64
  | 0=>noughts
  | m+1=>fast (rst (rsx (rabA r s b m) (rpad r s b) (m*r) r))
theorem rabA_len (r:Nat) (s:UInt8) (b:List UInt8):∀ m,(rabA r s b m).length=25
  | 0=>lR
  | m+1=>by rw[rabA,fast_len,rst_len]
def fpow (p:List UInt64):Nat→List UInt64
  | 0=>p
  | k+1=>fast (fpow p k)
theorem fpow_len (p:List UInt64) (h:p.length=25):∀ k,(fpow p k).length=25
  | 0=>h
  | k+1=>by rw[fpow,fast_len,fpow_len p h k]
def roA (p:List UInt64) (r:Nat):Nat→List UInt8
  | 0=>[]
  | k+1=>roA p r k++(rby (fpow p k)).take r
theorem roA_len (p:List UInt64) (r:Nat) (h:r≤200):∀ k,(roA p r k).length=k*r
  | 0=>by simp[roA]
  | k+1=>by rw[roA,lA,roA_len p r h k,List.length_take,rby_len,Nat.succ_mul];omega
theorem roA_pre (p:List UInt64) (r:Nat) (k:Nat):∀ m,∃ t,roA p r (k+m)=roA p r k++t
  | 0=>⟨[],by simp⟩
  | m+1=>by
    obtain⟨t,ht⟩:=roA_pre p r k m;exact⟨t++(rby (fpow p (k+m))).take r,by rw[← Nat.add_assoc,roA,ht,List.append_assoc]⟩
theorem roA_take (p:List UInt64) (r n k:Nat) (hr:1≤r∧r≤200) (h:n≤(roA p r k).length):(roA p r k).take n=(roA p r n).take n:=by
  have h1:=roA_len p r hr.2 k;have h2:=roA_len p r hr.2 n;have h3:n≤n*r:=Nat.le_mul_of_pos_right n (by omega);rcases Nat.le_total k n with hk | hk
  · obtain⟨m,rfl⟩:=Nat.exists_eq_add_of_le hk
    obtain⟨t,ht⟩:=roA_pre p r k m;rw[ht,List.take_append_of_le_length h]
  · obtain⟨m,rfl⟩:=Nat.exists_eq_add_of_le hk
    obtain⟨t,ht⟩:=roA_pre p r n m;rw[ht,List.take_append_of_le_length (by omega)]
def sqz (p:List UInt64) (r n:Nat):List UInt8:=(roA p r n).take n
theorem sqz_len (p:List UInt64) (r n:Nat) (hr:1≤r∧r≤200):(sqz p r n).length=n:=by
  rw[sqz,List.length_take,roA_len p r hr.2 n];have:n≤n*r:=Nat.le_mul_of_pos_right n (by omega);omega

/-! ### The document's answers are the program's -/
def byt (x:UInt64) (k:Nat):UInt8:=(x >>> UInt64.ofNat (8*k)).toUInt8
theorem stA_get (x:UInt64):∀ (k i:Nat),k≤8→i<k→(stA x k).getD i 0=byt x i
  | 0,i,_,h=>by omega
  | k+1,i,hk,h=>by
    rw[stA];simp only[List.getD_eq_getElem?_getD,List.getElem?_set];by_cases e:k=i
    · subst e;rw[if_pos rfl,if_pos (by rw[stA_len];omega)];rfl
    · rw[if_neg e];have:=stA_get x k i (by omega) (by omega);simpa only[List.getD_eq_getElem?_getD] using this
theorem st8_get (x:UInt64) (i:Nat) (h:i<8):(st8 x).getD i 0=byt x i:=stA_get x 8 i (Nat.le_refl _) h
theorem rsX_eq (x:UInt64):∀ k,k≤8→(rsX x k).toNat=x.toNat / 256 ^ k
  | 0,_=>by simp[rsX]
  | k+1,h=>by
    rw[rsX,UInt64.toNat_div,rsX_eq x k (by omega)];show x.toNat / 256 ^ k / 256=_;rw[Nat.div_div_eq_div_mul,Nat.pow_succ]
theorem byt_toNat (x:UInt64) (k:Nat) (h:k<8):(byt x k).toNat=x.toNat / 256 ^ k % 256:=by
  unfold byt;rw[UInt64.toNat_toUInt8,UInt64.toNat_shiftRight];have e1:(UInt64.ofNat (8*k)).toNat % 64=8*k:=by rw[UInt64.toNat_ofNat'];omega
  rw[e1,Nat.shiftRight_eq_div_pow,Nat.pow_mul]
theorem rsA_get (x:UInt64):∀ (k i:Nat),k≤8→i<k→(rsA x k).getD i 0=byt x i
  | 0,i,_,h=>by omega
  | k+1,i,hk,h=>by
    rw[rsA];have hl:=rsA_len x k;rcases Nat.lt_or_ge i k with h1 | h1
    · rw[List.getD_eq_getElem?_getD,List.getElem?_append_left (by omega),← List.getD_eq_getElem?_getD];exact rsA_get x k i (by omega) h1
    · have:i=k:=by omega
      subst this;rw[List.getD_eq_getElem?_getD,List.getElem?_append_right (by omega),hl,Nat.sub_self];apply UInt8.toNat_inj.1;rw[byt_toNat x i (by omega)];show(rsX x i % 256).toUInt8.toNat=_;rw[UInt64.toNat_toUInt8,UInt64.toNat_mod,rsX_eq x i (by omega)];show x.toNat / 256 ^ i % 256 % 256=_;omega
theorem rs8_eq (x:UInt64):rs8 x=st8 x:=ext_getD 0 _ _ (by rw[rs8_len,st8_len]) fun i hi=>by
  rw[rs8_len] at hi;rw[st8_get x i hi];exact rsA_get x 8 i (Nat.le_refl _) hi
theorem rbA_eq (p:List UInt64):∀ k,rbA p k=tkA p k
  | 0=>rfl
  | k+1=>by rw[rbA,tkA,rbA_eq p k,rs8_eq]
end Go.Rx

/- The document's sponge is the program's. -/
namespace Go.Rx
set_option maxHeartbeats 400000
theorem rby_eq (p:List UInt64):rby p=tkA p 25:=rbA_eq p 25
theorem getD_map_oob {α:Type} (l:List α) (i:Nat) (d:α) (h:l.length≤i):l.getD i d=d:=by simp[List.getD,List.getElem?_eq_none h]
theorem tkA_get (p:List UInt64):∀ (k i:Nat),i<8*k→(tkA p k).getD i 0=byt (p.getD (i / 8) 0) (i % 8)
  | 0,i,h=>by omega
  | k+1,i,h=>by
    rw[tkA,List.getD_eq_getElem?_getD];have hl:=tkA_len p k;rcases Nat.lt_or_ge i (8*k) with h1 | h1
    · rw[List.getElem?_append_left (by omega),← List.getD_eq_getElem?_getD];exact tkA_get p k i h1
    · rw[List.getElem?_append_right (by omega),hl,← List.getD_eq_getElem?_getD,st8_get _ _ (by omega)]
      congr 1
      · congr 1;omega
      · omega
/-- A word's bits by its bytes. -/
theorem byt_bit (x:UInt64) (k j:Nat) (hk:k<8) (hj:j<8):(byt x k).toNat.testBit j=x.toNat.testBit (8*k+j):=by
  rw[byt_toNat x k hk,show(256:Nat)=2 ^ 8 from rfl,← Nat.pow_mul,Nat.testBit_mod_two_pow,Nat.testBit_div_two_pow];simp[hj,Nat.add_comm]
theorem word_ext (x y:UInt64) (h:∀ k,k<8→byt x k=byt y k):x=y:=by
  apply UInt64.toNat_inj.1;apply Nat.eq_of_testBit_eq;intro i;rcases Nat.lt_or_ge i 64 with hi | hi
  · have e:=congrArg (fun b:UInt8=>b.toNat.testBit (i % 8)) (h (i / 8) (by omega))
    rw[byt_bit x (i / 8) (i % 8) (by omega) (by omega),byt_bit y (i / 8) (i % 8) (by omega) (by omega),show 8*(i / 8)+i % 8=i by omega] at e;exact e
  · have p2:(2:Nat) ^ 64≤2 ^ i:=Nat.pow_le_pow_right (by omega) hi
    have hx:=x.toNat_lt;have hy:=y.toNat_lt;rw[Nat.testBit_lt_two_pow (by omega),Nat.testBit_lt_two_pow (by omega)]
theorem byt_xor (x y:UInt64) (k:Nat) (hk:k<8):byt (x^^^y) k=byt x k^^^byt y k:=by
  apply UInt8.toNat_inj.1;apply Nat.eq_of_testBit_eq;intro j;rcases Nat.lt_or_ge j 8 with hj | hj
  · rw[byt_bit _ k j hk hj,UInt64.toNat_xor,Nat.testBit_xor,UInt8.toNat_xor,Nat.testBit_xor,byt_bit _ k j hk hj,byt_bit _ k j hk hj]
  · have p2:(2:Nat) ^ 8≤2 ^ j:=Nat.pow_le_pow_right (by omega) hj
    have h1:=(byt (x^^^y) k).toNat_lt;have h2:=(byt x k^^^byt y k).toNat_lt;rw[Nat.testBit_lt_two_pow (by omega),Nat.testBit_lt_two_pow (by omega)]
/-- A number by its bytes, the lowest first. -/
def ldN:List UInt8→Nat
  | []=>0
  | c::r=>c.toNat+256*ldN r
theorem ldN_lt:∀ l:List UInt8,ldN l<256 ^ l.length
  | []=>by simp[ldN]
  | c::r=>by
    have h1:=c.toNat_lt;have h2:=ldN_lt r;rw[ldN,List.length_cons,Nat.pow_succ];omega
theorem pow_le8 (n:Nat) (h:n≤8):256 ^ n≤18446744073709551616:=by
  have:=Nat.pow_le_pow_right (n:=256) (by omega) h;simpa using this
theorem ldR_nat:∀ l:List UInt8,l.length≤8→(ldR l).toNat=ldN l
  | [],_=>rfl
  | c::r,h=>by
    rw[List.length_cons] at h;have h1:=c.toNat_lt;have h2:=ldN_lt r;have h3:=pow_le8 (r.length+1) h;rw[Nat.pow_succ] at h3;rw[ldR,ldN,UInt64.toNat_add,UInt64.toNat_mul,ldR_nat r (by omega)];show(ldN r*256 % 18446744073709551616+c.toUInt64.toNat) % 18446744073709551616=_;rw[UInt8.toNat_toUInt64];omega
theorem ldN_app:∀ (l:List UInt8) (c:UInt8),ldN (l++[c])=ldN l+256 ^ l.length*c.toNat
  | [],c=>by simp[ldN]
  | d::r,c=>by rw[List.cons_append,ldN,ldN_app r c,ldN,List.length_cons,Nat.pow_succ,Nat.mul_add,← Nat.mul_assoc,Nat.mul_comm 256 (256 ^ r.length)];omega
theorem ldA_nat (b:List UInt8):∀ k,k≤b.length→k≤8→(ldA b k).toNat=ldN (b.take k)
  | 0,_,_=>by simp[ldA,ldN]
  | k+1,h,h8=>by
    have hl:(b.take k).length=k:=by rw[List.length_take];omega
    have h1:=ldN_lt (b.take k);rw[hl] at h1;have hc:=(b.getD k 0).toNat_lt;have e:b.take (k+1)=b.take k++[b.getD k 0]:=by rw[List.take_succ_eq_append_getElem (show k<b.length by omega)];simp[List.getD,List.getElem?_eq_getElem (show k<b.length by omega)]
    rw[e,ldN_app,hl,ldA,UInt64.toNat_or,ldA_nat b k (by omega) (by omega),UInt64.toNat_shiftLeft,UInt8.toNat_toUInt64];have e1:(UInt64.ofNat (8*k)).toNat % 64=8*k:=by rw[UInt64.toNat_ofNat'];omega
    have e2:(256:Nat) ^ k=2 ^ (8*k):=by rw[show(256:Nat)=2 ^ 8 from rfl,← Nat.pow_mul]
    rw[e1,Nat.shiftLeft_eq,← e2];have h3:=pow_le8 (k+1) h8;rw[Nat.pow_succ] at h3;have h4:(b.getD k 0).toNat*256 ^ k<18446744073709551616:=Nat.lt_of_lt_of_le (Nat.mul_lt_mul_of_lt_of_le hc (Nat.le_refl _) (Nat.pos_of_ne_zero (by simp))) (by rw[Nat.mul_comm];exact h3);show ldN (b.take k)|||(b.getD k 0).toNat*256 ^ k % 18446744073709551616=_;rw[Nat.mod_eq_of_lt h4,e2,Nat.mul_comm _ (2 ^ (8*k)),Nat.or_comm,← Nat.two_pow_add_eq_or_of_lt (by rw[← e2];exact h1)];omega
theorem ldN_byte:∀ (l:List UInt8) (i:Nat),ldN l / 256 ^ i % 256=(l.getD i 0).toNat
  | [],i=>by simp[ldN]
  | c::r,0=>by have:=c.toNat_lt;simp[ldN]
  | c::r,i+1=>by
    have:=c.toNat_lt;rw[ldN,Nat.pow_succ,Nat.mul_comm (256 ^ i) 256,← Nat.div_div_eq_div_mul,show(c.toNat+256*ldN r) / 256=ldN r by omega,ldN_byte r i];simp
theorem byt_ld8 (c:List UInt8) (h:c.length≤8) (i:Nat) (hi:i<8):byt (ld8 c) i=c.getD i 0:=by
  apply UInt8.toNat_inj.1;rw[byt_toNat _ i hi,ld8,show min c.length 8=c.length by omega,ldA_nat c _ (Nat.le_refl _) h,List.take_length,ldN_byte]
theorem byt_ldR (c:List UInt8) (h:c.length≤8) (i:Nat) (hi:i<8):byt (ldR c) i=c.getD i 0:=by
  apply UInt8.toNat_inj.1;rw[byt_toNat _ i hi,ldR_nat c h,ldN_byte]

theorem rsx_get (p:List UInt64) (q:List UInt8) (i:Nat):∀ (k j:Nat),k≤200→(rsx p q i k).getD j 0=if j<k then(rby p).getD j 0^^^q.getD (i+j) 0 else(rby p).getD j 0
  | 0,j,_=>by rw[rsx,if_neg (by omega)]
  | k+1,j,hk=>by
    have ih:=rsx_get p q i k;rw[rsx,List.getD_eq_getElem?_getD,List.getElem?_set];by_cases e:k=j
    · subst e
      rw[if_pos rfl,if_pos (by rw[rsx_len];omega),if_pos (by omega),ih k (by omega),if_neg (by omega)];rfl
    · rw[if_neg e,← List.getD_eq_getElem?_getD,ih j (by omega)]
      by_cases h:j<k
      · rw[if_pos h,if_pos (by omega)]
      · rw[if_neg h,if_neg (by omega)]
theorem rstA_get (b:List UInt8):∀ (k j:Nat),j<k→(rstA b k).getD j 0=ldR ((b.drop (8*j)).take 8)
  | 0,j,h=>by omega
  | k+1,j,h=>by
    rw[rstA,List.getD_eq_getElem?_getD];have hl:=rstA_len b k;rcases Nat.lt_or_ge j k with h1 | h1
    · rw[List.getElem?_append_left (by omega),← List.getD_eq_getElem?_getD];exact rstA_get b k j h1
    · have:j=k:=by omega
      subst this;rw[List.getElem?_append_right (by omega),hl,Nat.sub_self,show 8*j+8 - 8*j=8 by omega];rfl
theorem layA_get (p:List UInt64) (b:List UInt8):∀ (k j:Nat),k≤p.length→(layA p b k).getD j 0=if j<k then p.getD j 0^^^ld8 ((b.drop (8*j)).take (min (8*j+8) b.length - 8*j)) else p.getD j 0
  | 0,j,_=>by rw[layA,if_neg (by omega)]
  | k+1,j,hk=>by
    have ih:=layA_get p b k;rw[layA,List.getD_eq_getElem?_getD,List.getElem?_set];by_cases e:k=j
    · subst e
      rw[if_pos rfl,if_pos (by rw[layA_len];omega),if_pos (by omega),ih k (by omega),if_neg (by omega)];rfl
    · rw[if_neg e,← List.getD_eq_getElem?_getD,ih j (by omega)]
      by_cases h:j<k
      · rw[if_pos h,if_pos (by omega)]
      · rw[if_neg h,if_neg (by omega)]
theorem getD_drop_take {α:Type} (l:List α) (d:α) (a n i:Nat):((l.drop a).take n).getD i d=if i<n then l.getD (a+i) d else d:=by
  simp only[List.getD_eq_getElem?_getD,List.getElem?_take,List.getElem?_drop]
  split <;> rfl
/-- One block: the document's way is the program's. -/
theorem block_eq (p:List UInt64) (hp:p.length=25) (q c:List UInt8) (i r:Nat) (hr:r≤200) (hc:c.length=r) (hq:∀ j,j<r→q.getD (i+j) 0=c.getD j 0):rst (rsx p q i r)=lay p c:=by
  apply ext_getD 0 _ _ (by rw[rst_len,lay_len,hp]);intro j hj;rw[rst_len] at hj;rw[rst,rstA_get _ 25 j hj];apply word_ext;intro k hk;have hl:((List.drop (8*j) (rsx p q i r)).take 8).length≤8:=by rw[List.length_take];omega
  rw[byt_ldR _ hl k hk,getD_drop_take,if_pos hk,rsx_get p q i r _ hr,rby_eq,tkA_get p 25 (8*j+k) (by omega),show(8*j+k) / 8=j by omega,show(8*j+k) % 8=k by omega];rw[lay,layA_get p c _ j (by omega)];by_cases h1:j<(c.length+7) / 8
  · rw[if_pos h1,byt_xor _ _ k hk,byt_ld8 _ (by rw[List.length_take];omega) k hk,getD_drop_take]
    by_cases h2:8*j+k<r
    · rw[if_pos h2,if_pos (by omega),hq _ h2]
    · rw[if_neg h2,if_neg (by omega)];simp
  · rw[if_neg h1,if_neg (by omega)]
theorem getD_app_l {α:Type} (a b:List α) (d:α) (i:Nat) (h:i<a.length):(a++b).getD i d=a.getD i d:=by simp only[List.getD_eq_getElem?_getD,List.getElem?_append_left h]
theorem getD_app_r {α:Type} (a b:List α) (d:α) (i:Nat) (h:a.length≤i):(a++b).getD i d=b.getD (i - a.length) d:=by simp only[List.getD_eq_getElem?_getD,List.getElem?_append_right h]
theorem getD_rep8 (n i:Nat):(List.replicate n (0:UInt8)).getD i 0=0:=by
  simp only[List.getD_eq_getElem?_getD,List.getElem?_replicate];split <;> rfl
theorem getD_set8 (l:List UInt8) (i j:Nat) (x:UInt8) (h:i<l.length):(l.set i x).getD j 0=if i=j then x else l.getD j 0:=by
  simp only[List.getD_eq_getElem?_getD,List.getElem?_set];by_cases e:i=j
  · subst e;rw[if_pos rfl,if_pos h,if_pos rfl];rfl
  · rw[if_neg e,if_neg e]
theorem rpad_get (r:Nat) (s:UInt8) (b:List UInt8) (j:Nat):(rpad r s b).getD j 0=(if j<b.length then b.getD j 0 else if j=b.length then s else 0)^^^(if j=b.length+padN (b.length+1) r then 128 else 0):=by
  have hg:∀ j,((b++[s])++List.replicate (padN (b.length+1) r) (0:UInt8)).getD j 0=if j<b.length then b.getD j 0 else if j=b.length then s else 0:=by
    intro j;by_cases h1:j<b.length
    · rw[if_pos h1,getD_app_l _ _ _ _ (by simp;omega),getD_app_l _ _ _ _ h1]
    · rw[if_neg h1]
      by_cases h2:j=b.length
      · subst h2;rw[if_pos rfl,getD_app_l _ _ _ _ (by simp),getD_app_r _ _ _ _ (Nat.le_refl _),Nat.sub_self];rfl
      · rw[if_neg h2,getD_app_r _ _ _ _ (by simp;omega),getD_rep8]
  rw[rpad,getD_set8 _ _ _ _ (by rw[pre_len];omega)];by_cases e:b.length+1+padN (b.length+1) r - 1=j
  · rw[if_pos e,hg,if_pos (show j=b.length+padN (b.length+1) r by omega),e]
  · rw[if_neg e,hg,if_neg (show ¬j=b.length+padN (b.length+1) r by omega)];simp
theorem padB_get (r:Nat) (l:List UInt8) (h:l.length≤r) (j:Nat):(padB r l).getD j 0=l.getD j 0:=by
  unfold padB;rw[List.take_of_length_le h];rcases Nat.lt_or_ge j l.length with h1 | h1
  · rw[getD_app_l _ _ _ _ h1]
  · rw[getD_app_r _ _ _ _ h1,getD_map_oob l j 0 h1,List.drop_replicate,getD_rep8]
theorem lastB_get (r:Nat) (s:UInt8) (l:List UInt8) (h:l.length<r) (j:Nat):(lastB r s l).getD j 0=(l.getD j 0^^^(if j=l.length then s else 0))^^^(if j=r - 1 then 128 else 0):=by
  unfold lastB;have hp:=padB_len r l;have h0:l.getD l.length 0=0:=getD_map_oob l _ 0 (Nat.le_refl _);have hA:∀ j,((padB r l).set l.length ((padB r l).getD l.length 0^^^s)).getD j 0=l.getD j 0^^^(if j=l.length then s else 0):=by
    intro j;rw[getD_set8 _ _ _ _ (by omega),padB_get r l (by omega),padB_get r l (by omega)];by_cases e:l.length=j
    · subst e;rw[if_pos rfl,if_pos rfl]
    · rw[if_neg e,if_neg (fun h=>e h.symm)];simp
  rw[getD_set8 _ _ _ _ (by rw[List.length_set];omega),hA,hA];by_cases e:r - 1=j
  · subst e;rw[if_pos rfl,if_pos rfl]
  · rw[if_neg e,if_neg (show ¬j=r - 1 from fun h=>e h.symm)];simp
theorem rabA_eq (r:Nat) (s:UInt8) (b:List UInt8) (hr:1≤r∧r≤200):∀ m,m*r≤b.length→absR r s (rabA r s b m) (b.drop (m*r))=absR r s noughts b
  | 0,_=>by rw[Nat.zero_mul];rfl
  | m+1,h=>by
    rw[Nat.succ_mul] at h;have hb:=block_eq (rabA r s b m) (rabA_len _ _ _ _) (rpad r s b) ((b.drop (m*r)).take r) (m*r) r hr.2 (by rw[List.length_take,List.length_drop];omega) (fun j hj=>by
      rw[rpad_get,if_pos (by omega),if_neg (by omega),getD_drop_take,if_pos hj];simp)
    have e1:rabA r s b (m+1)=kf (lay (rabA r s b m) ((b.drop (m*r)).take r)):=by rw[rabA,fast_eq _ (rst_len _),hb]
    have e2:b.drop ((m+1)*r)=(b.drop (m*r)).drop r:=by rw[List.drop_drop,Nat.succ_mul]
    rw[e1,e2];exact(absR_step r s (rabA r s b m) (b.drop (m*r)) hr.1 (by rw[List.length_drop];omega)).symm.trans (rabA_eq r s b hr m (by omega))
theorem rabs_eq (r:Nat) (s:UInt8) (b:List UInt8) (hr:1≤r∧r≤200):rabA r s b (nbk b r)=absR r s noughts b:=by
  have hm:=Nat.mod_lt b.length (show 0<r by omega);have hd:=Nat.div_add_mod b.length r;have hcm:=Nat.mul_comm r (b.length / r);have hnr:nbk b r=b.length / r+1:=by
    have h1:=rpad_nb r s b hr.1;rw[rpad_len] at h1;have h2:padN (b.length+1) r<r:=Nat.mod_lt _ (by omega);have h3:nbk b r*r=(b.length / r+1)*r:=by
      have hz:=(padN_iff (b.length+1) r _ hr.1 (Nat.le_refl _)).2 rfl;have hle:(b.length / r)*r<nbk b r*r:=by omega
      have hge:nbk b r*r<(b.length / r+2)*r:=by rw[Nat.add_mul];omega
      have a1:=Nat.lt_of_mul_lt_mul_right hle;have a2:=Nat.lt_of_mul_lt_mul_right hge;have:nbk b r=b.length / r+1:=by omega
      rw[this]
    exact Nat.eq_of_mul_eq_mul_right (by omega) h3
  have hpn:(b.length / r)*r+r=b.length+1+padN (b.length+1) r:=by
    have h1:=rpad_nb r s b hr.1;rw[rpad_len,hnr,Nat.succ_mul] at h1;omega
  rw[hnr,← rabA_eq r s b hr (b.length / r) (by omega),absR_end r s _ _ hr.1 (by rw[List.length_drop];omega),rabA,fast_eq _ (rst_len _)];have hdl:(b.drop (b.length / r*r)).length=b.length % r:=by rw[List.length_drop];omega
  rw[block_eq (rabA r s b (b.length / r)) (rabA_len _ _ _ _) (rpad r s b) (lastB r s (b.drop (b.length / r*r))) (b.length / r*r) r hr.2 (lastB_len _ _ _)];intro j hj;rw[rpad_get,lastB_get r s _ (by omega),hdl];have hgd:(b.drop (b.length / r*r)).getD j 0=b.getD (b.length / r*r+j) 0:=by simp[List.getD_eq_getElem?_getD,List.getElem?_drop]
  rw[hgd];have e1:(b.length / r*r+j=b.length+padN (b.length+1) r)↔j=r - 1:=by omega
  simp only[e1];by_cases h1:b.length / r*r+j<b.length
  · rw[if_pos h1,if_neg (show ¬j=b.length % r by omega)];simp
  · rw[if_neg h1,getD_map_oob b _ 0 (by omega)]
    by_cases h2:b.length / r*r+j=b.length
    · rw[if_pos h2,if_pos (show j=b.length % r by omega)];simp
    · rw[if_neg h2,if_neg (show ¬j=b.length % r by omega)];simp
theorem sqz_small (p:List UInt64) (r n:Nat) (h:1≤r∧r≤200∧n≤r):sqz p r n=tk p n:=by
  have h1:(roA p r 1).length=1*r:=roA_len p r h.2.1 1;rw[sqz,← roA_take p r n 1 ⟨h.1,h.2.1⟩ (by omega)];show([]++(rby (fpow p 0)).take r).take n=_;rw[List.nil_append,List.take_take,show min n r=n by omega,rby_eq];rfl
end Go.Rx

/- What a reader gives is the document's stream. -/
namespace Go.Rx
/-- T has come out, l is left: together so many blocks. -/
def RInv (p:List UInt64) (r:Nat) (T:List UInt8) (a:List UInt64) (l:List UInt8):Prop:=∃ i,a=fpow p i∧T++l=roA p r (i+1)
theorem fpow_succ (p:List UInt64) (h:p.length=25) (i:Nat):kf (fpow p i)=fpow p (i+1):=by rw[fpow,fast_eq _ (fpow_len p h i)]
theorem xrunF_inv (p:List UInt64) (hp:p.length=25) (r N:Nat) (hr:1≤r∧r≤200):∀ (f:Nat) (g:List UInt64 × List UInt8 × List UInt8) (T:List UInt8),RInv p r (T++g.2.2) g.1 g.2.1→N - g.2.2.length≤f→g.2.2.length≤N→
    RInv p r (T++(xrunF r N f g).2.2) (xrunF r N f g).1 (xrunF r N f g).2.1∧(xrunF r N f g).2.2.length=N
  | 0,g,T,h,hf,hl=>⟨h,by show g.2.2.length=N;omega⟩
  | f+1,g,T,h,hf,hl=>by
    rw[xrunF]
    split
    · rename_i hN
      obtain⟨i,h1,h2⟩:=h
      split
      · rename_i h0
        have hk:kf g.1=fpow p (i+1):=by rw[h1,fpow_succ p hp]
        have ht:=tk_len (kf g.1) r hr.2;have hb:roA p r (i+1+1)=roA p r (i+1)++tk (kf g.1) r:=by rw[roA,← hk,rby_eq];rfl
        have hnil:g.2.1=[]:=List.eq_nil_of_length_eq_zero h0;rw[hnil,List.append_nil] at h2;generalize kf g.1=q at*;refine xrunF_inv p hp r N hr f _ T ⟨i+1,hk,?_⟩ (by simp only[lA,List.length_take];omega) (by simp only[lA,List.length_take];omega);show(T++(g.2.2++(tk q r).take _))++(tk q r).drop _=_;rw[hb,← h2,List.append_assoc,List.append_assoc,List.append_assoc,List.take_append_drop]
      · rename_i h0
        refine xrunF_inv p hp r N hr f _ T ⟨i,h1,?_⟩ (by simp only[lA,List.length_take];omega) (by simp only[lA,List.length_take];omega);show(T++(g.2.2++g.2.1.take _))++g.2.1.drop _=_;rw[← h2,List.append_assoc,List.append_assoc,List.append_assoc,List.take_append_drop]
    · exact⟨h,by omega⟩
theorem xrun_inv (p:List UInt64) (hp:p.length=25) (r N:Nat) (hr:1≤r∧r≤200) (T:List UInt8) (a:List UInt64) (l:List UInt8) (h:RInv p r T a l):
    RInv p r (T++(xrun r N (a,l,[])).2.2) (xrun r N (a,l,[])).1 (xrun r N (a,l,[])).2.1∧(xrun r N (a,l,[])).2.2.length=N:=
  xrunF_inv p hp r N hr _ (a,l,[]) T (by show RInv p r (T++[]) a l;rw[List.append_nil];exact h) (Nat.le_refl _) (Nat.zero_le _)
theorem RInv.start (p:List UInt64) (r:Nat):RInv p r [] p (tk p r):=⟨0,rfl,by show tk p r=[]++(rby (fpow p 0)).take r;rw[List.nil_append,rby_eq];rfl⟩
theorem RInv.out {p:List UInt64} {r:Nat} {T:List UInt8} {a:List UInt64} {l:List UInt8} (h:RInv p r T a l) (hr:1≤r∧r≤200):T=sqz p r T.length:=by
  obtain⟨i,_,h2⟩:=h;have e:T=(roA p r (i+1)).take T.length:=by rw[← h2,List.take_left]
  rw[sqz,← roA_take p r T.length (i+1) hr (by rw[← h2,lA];omega)];exact e
theorem xr_len (p:List UInt64) (hp:p.length=25) (r N:Nat) (hr:1≤r∧r≤200):(xrun r N (p,tk p r,[])).2.2.length=N:=(xrun_inv p hp r N hr [] p (tk p r) (RInv.start p r)).2
theorem xr_sqz (p:List UInt64) (hp:p.length=25) (r N:Nat) (hr:1≤r∧r≤200):(xrun r N (p,tk p r,[])).2.2=sqz p r N:=by
  have h:=xrun_inv p hp r N hr [] p (tk p r) (RInv.start p r);have h1:=h.1.out hr;rw[List.nil_append,h.2] at h1;exact h1
end Go.Rx

/- Plain functions: polynomials from bytes, bytes of them. -/
namespace Go.Rx
def bitN (b:List UInt8) (k:Nat):Nat:=(b.getD (k / 8) 0).toNat / 2 ^ (k % 8) % 2
theorem bitN_lt (b:List UInt8) (k:Nat):bitN b k<2:=Nat.mod_lt _ (by omega)
theorem u8bit (x:UInt8) (j:Nat) (hj:j<8):((x >>> UInt8.ofNat j)&&&1).toNat=x.toNat / 2 ^ j % 2:=by
  have h1:(1:UInt8).toNat=2 ^ 1 - 1:=rfl;rw[UInt8.toNat_and,h1,Nat.and_two_pow_sub_one_eq_mod,UInt8.toNat_shiftRight];have e1:(UInt8.ofNat j).toNat % 8=j:=by rw[UInt8.toNat_ofNat'];omega
  rw[e1,Nat.shiftRight_eq_div_pow]
def btA (b:List UInt8) (at':Nat):Nat→Nat
  | 0=>0
  | i+1=>btA b at' i+bitN b (at'+i)*2 ^ i
theorem btA_lt (b:List UInt8) (at':Nat):∀ i,btA b at' i<2 ^ i
  | 0=>by simp[btA]
  | i+1=>by
    have h1:=btA_lt b at' i;have h2:=bitN_lt b (at'+i);have h3:bitN b (at'+i)*2 ^ i≤1*2 ^ i:=Nat.mul_le_mul_right _ (by omega);rw[btA,Nat.pow_succ];omega
theorem btA_or (b:List UInt8) (at' i:Nat):btA b at' i|||bitN b (at'+i)*2 ^ i=btA b at' (i+1):=by
  rw[Nat.or_comm,Nat.mul_comm,← Nat.two_pow_add_eq_or_of_lt (btA_lt b at' i),btA,Nat.mul_comm];omega
theorem btA_le (b:List UInt8) (at' n i:Nat) (hn:n≤12) (hi:i≤n):btA b at' i≤4096:=by
  have h1:=btA_lt b at' i;have h2:2 ^ i≤2 ^ 12:=Nat.pow_le_pow_right (by omega) (by omega);omega
theorem bit_sh (b:List UInt8) (k i:Nat) (hi:i≤12):bitN b k*2 ^ i≤4096:=by
  have h2:2 ^ i≤2 ^ 12:=Nat.pow_le_pow_right (by omega) hi;have h3:bitN b k*2 ^ i≤1*2 ^ i:=Nat.mul_le_mul_right _ (by have:=bitN_lt b k;omega);omega
def shA (X:Nat):Nat→Nat
  | 0=>X
  | j+1=>shA X j >>> 1
theorem shA_half (X j:Nat):shA X (j+1)=shA X j / 2:=by rw[shA,Nat.shiftRight_eq_div_pow]
def pcA (X:Nat):Nat→Nat
  | 0=>0
  | j+1=>pcA X j+shA X j % 2
theorem pcA_le (X:Nat):∀ j,pcA X j+shA X j≤X
  | 0=>by simp[pcA,shA]
  | j+1=>by have:=pcA_le X j;rw[pcA,shA_half];omega
theorem shA_eq (X:Nat):∀ j,shA X j=X / 2 ^ j
  | 0=>by simp[shA]
  | j+1=>by rw[shA_half,shA_eq X j,Nat.div_div_eq_div_mul,Nat.pow_succ]
theorem pcA_more (X j:Nat) (h:shA X j=0):∀ m,pcA X (j+m)=pcA X j∧shA X (j+m)=0
  | 0=>⟨rfl,h⟩
  | m+1=>by
    obtain⟨h1,h2⟩:=pcA_more X j h m;rw[← Nat.add_assoc];exact⟨by rw[pcA,h1,h2,Nat.zero_mod,Nat.add_zero],by rw[shA_half,h2]⟩
def pc (X:Nat):Nat:=pcA X 12
theorem pc_eq (X j:Nat) (hX:X≤4095) (h:shA X j=0):pcA X j=pc X:=by
  have h12:shA X 12=0:=by rw[shA_eq];omega
  rcases Nat.le_total j 12 with hj | hj
  · obtain⟨m,hm⟩:=Nat.exists_eq_add_of_le hj
    have:=(pcA_more X j h m).1;rw[pc,hm,this]
  · obtain⟨m,hm⟩:=Nat.exists_eq_add_of_le hj
    have:=(pcA_more X 12 h12 m).1;rw[hm,this,pc]
def onesN (b:List UInt8) (at' n:Nat):Nat:=pc (btA b at' n)
abbrev zero256:List Int:=List.replicate 256 0
def noA (eta:Nat) (b:List UInt8):Nat→List Int
  | 0=>zero256
  | i+1=>(noA eta b i).set i ((zsub ((onesN b (2*i*eta) eta:Nat):Int) ((onesN b (2*i*eta+eta) eta:Nat):Int):Nat):Int)
theorem noA_len (eta:Nat) (b:List UInt8):∀ i,(noA eta b i).length=256
  | 0=>lR
  | i+1=>by rw[noA,List.length_set];exact noA_len eta b i
def prfB (eta:Int) (seed:List UInt8) (n:UInt8):List UInt8:=sqz (absR 136 31 noughts [seed,[n]].flatten) 136 (64*eta).toNat
def unA (d:Nat) (b:List UInt8):Nat→List Int
  | 0=>zero256
  | i+1=>(unA d b i).set i ((zmod ((btA b (d*i) d:Nat):Int):Nat):Int)
theorem unA_len (d:Nat) (b:List UInt8):∀ i,(unA d b i).length=256
  | 0=>lR
  | i+1=>by rw[unA,List.length_set];exact unA_len d b i
/-- One coefficient's bits laid down. -/
def paB (c:Nat) (at':Nat) (o:List UInt8):Nat→List UInt8
  | 0=>o
  | j+1=>(paB c at' o j).set ((at'+j) / 8) ((paB c at' o j).getD ((at'+j) / 8) 0|||(UInt8.ofNat (c / 2 ^ j % 2) <<< UInt8.ofNat ((at'+j) % 8)))
theorem paB_len (c at':Nat) (o:List UInt8):∀ j,(paB c at' o j).length=o.length
  | 0=>rfl
  | j+1=>by rw[paB,List.length_set];exact paB_len c at' o j
def paA (d:Nat) (p:List Int):Nat→List UInt8
  | 0=>List.replicate (32*d) 0
  | i+1=>paB (zmod (p.getD i 0)) (d*i) (paA d p i) d
theorem paA_len (d:Nat) (p:List Int):∀ i,(paA d p i).length=32*d
  | 0=>lR
  | i+1=>by rw[paA,paB_len];exact paA_len d p i
def sqA (d:Int) (p:List Int):Nat→List Int
  | 0=>p
  | i+1=>(sqA d p i).set i ((zcompZ d ((sqA d p i).getD i 0):Nat):Int)
theorem sqA_len (d:Int) (p:List Int):∀ i,(sqA d p i).length=p.length
  | 0=>rfl
  | i+1=>by rw[sqA,List.length_set];exact sqA_len d p i
def spA (d:Int) (p:List Int):Nat→List Int
  | 0=>p
  | i+1=>(spA d p i).set i ((zdecZ d ((spA d p i).getD i 0):Nat):Int)
theorem spA_len (d:Int) (p:List Int):∀ i,(spA d p i).length=p.length
  | 0=>rfl
  | i+1=>by rw[spA,List.length_set];exact spA_len d p i
theorem prf_eq (eta:Nat) (seed:List UInt8) (n:UInt8):(xrun 136 (((64*eta:Nat):Int)).toNat (absR 136 31 noughts [seed,[n]].flatten,tk (absR 136 31 noughts [seed,[n]].flatten) 136,[])).2.2=prfB (eta:Int) seed n:=by
  rw[xr_sqz _ (absR_len _ _ _) 136 _ (by omega),prfB]
  congr 1
theorem prfB_len (eta:Nat) (seed:List UInt8) (n:UInt8) (h:eta≤3):(prfB (eta:Int) seed n).length=64*eta:=by
  rw[prfB,sqz_len _ _ _ (by omega)];omega
end Go.Rx

/- Plain functions: a polynomial of a seed, by what is refused. -/
namespace Go.Rx
def ch (A:List UInt64) (k:Nat):List UInt8:=tk (fpow A k) 168
theorem ch_len (A:List UInt64) (k:Nat):(ch A k).length=168:=tk_len _ _ (by omega)
theorem ch_ref (A:List UInt64) (k:Nat):(rby (fpow A k)).take 168=ch A k:=by rw[rby_eq];rfl
def xU (A:List UInt64):Nat→List UInt64 × List UInt8
  | 0=>(A,tk A 168)
  | k+1=>(fpow A k,[])
theorem xU_0 (A:List UInt64):xU A 0=(A,tk A 168):=by rw[xU]
theorem xU_s (A:List UInt64) (k:Nat):xU A (k+1)=(fpow A k,[]):=by rw[xU]
theorem xU_len (A:List UInt64) (hA:A.length=25):∀ k,(xU A k).1.length=25
  | 0=>by rw[xU_0];exact hA
  | k+1=>by rw[xU_s];exact fpow_len A hA k
theorem xU_le (A:List UInt64):∀ k,(xU A k).2.length≤200
  | 0=>by have h:=tk_len A 168 (by omega);rw[xU_0];generalize tk A 168=l at*;dsimp only;omega
  | k+1=>by rw[xU_s];dsimp only[List.length_nil];omega
theorem xr_all (r N:Nat) (hr:1≤r∧r≤200) (hN:1≤N) (B:List UInt64) (l:List UInt8) (hl:l.length=N):xrun r N (B,l,[])=(B,[],l):=by
  have e1:N - ([]:List UInt8).length=N:=rfl;rw[xrun_old r N hr (B,l,[]) (by show 0<N;omega) (by show ¬l.length=0;omega)];show xrun r N (B,l.drop (min (N - ([]:List UInt8).length) l.length),[]++l.take (min (N - ([]:List UInt8).length) l.length))=_;rw[e1,hl,Nat.min_self,List.drop_of_length_le (by omega),List.take_of_length_le (by omega),List.nil_append];exact xrun_done _ _ _ (by show ¬l.length<N;omega)
theorem xr_fresh (r:Nat) (hr:1≤r∧r≤200) (B:List UInt64):xrun r r (B,[],[])=(kf B,[],tk (kf B) r):=by
  have e1:r - ([]:List UInt8).length=r:=rfl;have hl:=tk_len (kf B) r hr.2;rw[xrun_new r r hr (B,[],[]) (by show 0<r;omega) rfl];show xrun r r (kf B,(tk (kf B) r).drop (min (r - ([]:List UInt8).length) (tk (kf B) r).length),[]++(tk (kf B) r).take (min (r - ([]:List UInt8).length) (tk (kf B) r).length))=_;generalize tk (kf B) r=l at*;generalize kf B=C at*;rw[e1,hl,Nat.min_self,List.drop_of_length_le (by omega),List.take_of_length_le (by omega),List.nil_append];exact xrun_done _ _ _ (by show ¬l.length<r;omega)
theorem xU_run (A:List UInt64) (hA:A.length=25):∀ k,xrun 168 (168:Int).toNat ((xU A k).1,(xU A k).2,[])=(fpow A k,[],ch A k)
  | 0=>by
    have h:=xr_all 168 168 (by omega) (by omega) A (tk A 168) (tk_len _ _ (by omega));have e:(168:Int).toNat=168:=rfl;rw[e,xU_0,ch,fpow];generalize tk A 168=l at*;exact h
  | k+1=>by
    have h:=xr_fresh 168 (by omega) (fpow A k);have e:(168:Int).toNat=168:=rfl;rw[fpow_succ A hA k] at h;rw[e,xU_s,ch];generalize fpow A (k+1)=B at*;exact h
theorem xU_sa (A:List UInt64) (hA:A.length=25) (k:Nat):(xrun 168 (168:Int).toNat ((xU A k).1,(xU A k).2,[])).1=(xU A (k+1)).1:=by rw[xU_run A hA];rfl
theorem xU_sl (A:List UInt64) (hA:A.length=25) (k:Nat):(xrun 168 (168:Int).toNat ((xU A k).1,(xU A k).2,[])).2.1=(xU A (k+1)).2:=by rw[xU_run A hA];rfl
theorem xU_out (A:List UInt64) (hA:A.length=25) (k:Nat):(xrun 168 (168:Int).toNat ((xU A k).1,(xU A k).2,[])).2.2=ch A k:=by rw[xU_run A hA]
/-- One candidate, taken or not. -/
def rej (c:Int) (s:List Int × Nat):List Int × Nat:=if c<3329∧s.2<256 then(s.1.set s.2 c,s.2+1) else s
theorem rej_len (c:Int) (s:List Int × Nat) (h:s.1.length=256):(rej c s).1.length=256:=by unfold rej;split;rw[List.length_set];exact h;exact h
theorem rej_full (c:Int) (s:List Int × Nat) (h:s.2=256):rej c s=s:=by unfold rej;rw[if_neg (by omega)]
theorem rej_t (c:Int) (s:List Int × Nat) (h1:c<3329) (h2:s.2<256):rej c s=(s.1.set s.2 c,s.2+1):=by unfold rej;rw[if_pos ⟨h1,h2⟩]
theorem rej_f (c:Int) (s:List Int × Nat) (h1:¬c<3329):rej c s=s:=by unfold rej;rw[if_neg (fun h=>h1 h.1)]
def rjC (q:List Int) (s:List Int × Nat):Nat→List Int × Nat
  | 0=>s
  | j+1=>rej (q.getD j 0) (rjC q s j)
def loB (b:List UInt8) (i:Nat):Nat:=(b.getD (3*i) 0).toNat|||(b.getD (3*i+1) 0&&&15).toNat*2 ^ 8
def hiB (b:List UInt8) (i:Nat):Nat:=(b.getD (3*i+1) 0 >>> UInt8.ofNat 4).toNat|||(b.getD (3*i+2) 0).toNat*2 ^ 4
def pcd (b:List UInt8) (i:Nat):List Int:=[((loB b i:Nat):Int),((hiB b i:Nat):Int)]
theorem pcd_len (b:List UInt8) (i:Nat):(pcd b i).length=2:=rfl
theorem rjC_two (b:List UInt8) (i:Nat) (s:List Int × Nat):rjC (pcd b i) s 2=rej ((hiB b i:Nat):Int) (rej ((loB b i:Nat):Int) s):=by
  have e1:(pcd b i).getD 0 0=((loB b i:Nat):Int):=rfl;have e2:(pcd b i).getD 1 0=((hiB b i:Nat):Int):=rfl;rw[rjC,rjC,rjC,e1,e2]
def rjB (b:List UInt8) (s:List Int × Nat):Nat→List Int × Nat
  | 0=>s
  | i+1=>rjC (pcd b i) (rjB b s i) 2
theorem rjB_step (b:List UInt8) (s:List Int × Nat) (i:Nat):rjB b s (i+1)=rej ((hiB b i:Nat):Int) (rej ((loB b i:Nat):Int) (rjB b s i)):=by rw[rjB,rjC_two]
theorem rjB_len (b:List UInt8) (s:List Int × Nat) (h:s.1.length=256):∀ i,(rjB b s i).1.length=256
  | 0=>h
  | i+1=>by rw[rjB_step];exact rej_len _ _ (rej_len _ _ (rjB_len b s h i))
theorem rjB_full (b:List UInt8) (s:List Int × Nat) (h:s.2=256):∀ i,rjB b s i=s
  | 0=>rfl
  | i+1=>by rw[rjB_step,rjB_full b s h i,rej_full _ _ h,rej_full _ _ h]
theorem rjB_add (b:List UInt8) (s:List Int × Nat) (i:Nat) (h:(rjB b s i).2=256):∀ m,rjB b s (i+m)=rjB b s i
  | 0=>rfl
  | m+1=>by rw[← Nat.add_assoc,rjB_step,rjB_add b s i h m,rej_full _ _ h,rej_full _ _ h]
def unU (c:Nat→List UInt8):Nat→List Int × Nat
  | 0=>(zero256,0)
  | k+1=>rjB (c k) (unU c k) 56
theorem unU_len (c:Nat→List UInt8):∀ k,(unU c k).1.length=256
  | 0=>lR
  | k+1=>by rw[unU];exact rjB_len _ _ (unU_len c k) _
theorem unU_add (c:Nat→List UInt8) (k:Nat) (h:(unU c k).2=256):∀ m,unU c (k+m)=unU c k
  | 0=>rfl
  | m+1=>by rw[← Nat.add_assoc,unU,unU_add c k h m];exact rjB_full _ _ h _
theorem unU_fin (c:Nat→List UInt8) (k:Nat) (hk:k≤24) (h:k=24∨(unU c k).2=256):unU c k=unU c 24:=by
  rcases h with h | h
  · rw[h]
  · have:=unU_add c k h (24 - k);rw[show k+(24 - k)=24 by omega] at this;exact this.symm
theorem unU_end (c:Nat→List UInt8) (k i:Nat) (h:i=56∨(rjB (c k) (unU c k) i).2=256) (hi:i≤56):rjB (c k) (unU c k) i=unU c (k+1):=by
  rw[unU];rcases h with h | h
  · rw[h]
  · have:=rjB_add (c k) (unU c k) i h (56 - i);rw[show i+(56 - i)=56 by omega] at this;exact this.symm
/-- The polynomial of a seed. -/
def uniN (n:Nat) (seed:List UInt8):List Int:=(unU (ch (absR 168 31 noughts seed)) n).1
theorem uniN_len (n:Nat) (seed:List UInt8):(uniN n seed).length=256:=by rw[uniN];exact unU_len _ n
def uni (seed:List UInt8):List Int:=uniN 24 seed
theorem uni_len (seed:List UInt8):(uni seed).length=256:=by rw[uni];exact uniN_len 24 seed
theorem uni_of (seed:List UInt8) (A:List UInt64) (hA:absR 168 31 noughts seed=A) (k:Nat) (hk:k≤24) (s:List Int × Nat) (h:s=unU (ch A) k) (hf:k=24∨s.2=256):s.1=uni seed:=by
  rw[uni,uniN,hA,h,unU_fin (ch A) k hk (by rw[← h];exact hf)]
theorem u8_mask15 (x:UInt8):(x&&&15).toNat=x.toNat % 16:=by
  rw[UInt8.toNat_and,show(15:UInt8).toNat=2 ^ 4 - 1 from rfl,Nat.and_two_pow_sub_one_eq_mod]
theorem u8_shr4 (x:UInt8):(x >>> UInt8.ofNat 4).toNat=x.toNat / 16:=by
  rw[UInt8.toNat_shiftRight,show(UInt8.ofNat 4).toNat % 8=4 from rfl,Nat.shiftRight_eq_div_pow]
theorem lo_eq (b:List UInt8) (i:Nat):loB b i=(b.getD (3*i) 0).toNat+256*((b.getD (3*i+1) 0).toNat % 16):=by
  have h:=(b.getD (3*i) 0).toNat_lt;rw[loB,u8_mask15,Nat.or_comm,Nat.mul_comm,← Nat.two_pow_add_eq_or_of_lt (by simpa using h)];omega
theorem hi_eq (b:List UInt8) (i:Nat):hiB b i=(b.getD (3*i+1) 0).toNat / 16+16*(b.getD (3*i+2) 0).toNat:=by
  have h:=(b.getD (3*i+1) 0).toNat_lt;rw[hiB,u8_shr4,Nat.or_comm,Nat.mul_comm,← Nat.two_pow_add_eq_or_of_lt (by omega)];omega
theorem lo_lt (b:List UInt8) (i:Nat):loB b i≤4095:=by
  have h:=(b.getD (3*i) 0).toNat_lt;rw[lo_eq];omega
theorem hi_lt (b:List UInt8) (i:Nat):hiB b i≤4095:=by
  have h:=(b.getD (3*i+1) 0).toNat_lt;have h2:=(b.getD (3*i+2) 0).toNat_lt;rw[hi_eq];omega
end Go.Rx

/- Plain functions: the document's bits of polynomials, and that they are the program's. -/
namespace Go.Rx
def nbits (n:Nat):Nat→List Nat
  | 0=>[]
  | j+1=>nbits n j++[n / 2 ^ j % 2]
theorem nbits_len (n:Nat):∀ j,(nbits n j).length=j
  | 0=>rfl
  | j+1=>by rw[nbits,lA,nbits_len n j];rfl
theorem getD_app_lt {α:Type} (a b:List α) (i:Nat) (d:α) (h:i<a.length):(a++b).getD i d=a.getD i d:=by
  simp only[List.getD_eq_getElem?_getD,List.getElem?_append_left h]
theorem getD_app_ge {α:Type} (a b:List α) (i:Nat) (d:α) (h:a.length≤i):(a++b).getD i d=b.getD (i - a.length) d:=by
  simp only[List.getD_eq_getElem?_getD,List.getElem?_append_right h]
theorem nbits_get (n:Nat):∀ j i,i<j→(nbits n j).getD i 0=n / 2 ^ i % 2
  | 0,i,h=>by omega
  | j+1,i,h=>by
    have hl:=nbits_len n j;rw[nbits];rcases Nat.lt_or_ge i j with h1 | h1
    · rw[getD_app_lt _ _ _ _ (by omega)];exact nbits_get n j i h1
    · obtain rfl:i=j:=by omega
      rw[getD_app_ge _ _ _ _ (by omega),hl,Nat.sub_self];rfl
theorem nbits_app (o:List Nat) (n j:Nat):(o++nbits n j)++[n / 2 ^ j % 2]=o++nbits n (j+1):=by rw[nbits,List.append_assoc]
theorem half_pow (c j:Nat):c / 2 ^ j / 2=c / 2 ^ (j+1):=by rw[Nat.div_div_eq_div_mul,Nat.pow_succ]
def bbA (b:List UInt8):Nat→List Nat
  | 0=>[]
  | i+1=>bbA b i++nbits (b.getD i 0).toNat 8
theorem bbA_len (b:List UInt8):∀ i,(bbA b i).length=8*i
  | 0=>rfl
  | i+1=>by rw[bbA,lA,bbA_len b i,nbits_len];omega
theorem bbA_get (b:List UInt8):∀ i k,k<8*i→(bbA b i).getD k 0=bitN b k
  | 0,k,h=>by omega
  | i+1,k,h=>by
    have hl:=bbA_len b i;rw[bbA];rcases Nat.lt_or_ge k (8*i) with h1 | h1
    · rw[getD_app_lt _ _ _ _ (by omega)];exact bbA_get b i k h1
    · rw[getD_app_ge _ _ _ _ (by omega),hl,nbits_get _ _ _ (by omega),bitN,show k / 8=i by omega,show k - 8*i=k % 8 by omega]
def rbits (b:List UInt8):List Nat:=bbA b b.length
theorem rbits_len (b:List UInt8):(rbits b).length=8*b.length:=bbA_len b _
theorem rbits_get (b:List UInt8) (k:Nat) (h:k<8*b.length):(rbits b).getD k 0=bitN b k:=bbA_get b _ k h
/-- Rows of bits. -/
def Bt (l:List Nat):Prop:=∀ k,l.getD k 0≤1
theorem Bt.app {a b:List Nat} (ha:Bt a) (hb:Bt b):Bt (a++b):=fun k=>by
  rcases Nat.lt_or_ge k a.length with h | h
  · rw[getD_app_lt _ _ _ _ h];exact ha k
  · rw[getD_app_ge _ _ _ _ h];exact hb _
theorem Bt.nil:Bt []:=fun k=>by simp
theorem Bt.nbits (n:Nat):∀ j,Bt (nbits n j)
  | 0=>Bt.nil
  | j+1=>by
    rw[Rx.nbits];refine(Bt.nbits n j).app fun k=>?_;have h2:=Nat.mod_lt (n / 2 ^ j) (show 0<2 by omega)
    cases k with
    | zero=>show n / 2 ^ j % 2≤1;omega
    | succ k=>simp
theorem bbA_bt (b:List UInt8):∀ i,Bt (bbA b i)
  | 0=>Bt.nil
  | i+1=>by rw[bbA];exact(bbA_bt b i).app (Bt.nbits _ _)
theorem rbits_bt (b:List UInt8):Bt (rbits b):=bbA_bt b _
/-- A number by its bits, from the highest one on. -/
def horD (l:List Nat) (o D:Nat):Nat→Nat
  | 0=>0
  | m+1=>horD l o D m*2+l.getD (o+(D - 1 - m)) 0
theorem horD_lt (l:List Nat) (hl:Bt l) (o D:Nat):∀ m,horD l o D m<2 ^ m
  | 0=>by simp[horD]
  | m+1=>by have h1:=horD_lt l hl o D m;have h2:=hl (o+(D - 1 - m));rw[horD,Nat.pow_succ];omega
theorem horD_le (l:List Nat) (hl:Bt l) (o D m:Nat) (h:m≤12):horD l o D m≤4095:=by
  have h1:=horD_lt l hl o D m;have h2:2 ^ m≤2 ^ 12:=Nat.pow_le_pow_right (by omega) h;omega
def btL (l:List Nat) (o:Nat):Nat→Nat
  | 0=>0
  | j+1=>btL l o j+l.getD (o+j) 0*2 ^ j
theorem hor_bt (l:List Nat) (o D:Nat):∀ m,m≤D→horD l o D m*2 ^ (D - m)+btL l o (D - m)=btL l o D
  | 0,_=>by rw[horD,Nat.zero_mul,Nat.zero_add,Nat.sub_zero]
  | m+1,h=>by
    have ih:=hor_bt l o D m (by omega);have e:D - m=(D - (m+1))+1:=by omega
    have e2:D - 1 - m=D - (m+1):=by omega
    rw[← ih,e,horD,btL,e2,Nat.pow_succ,Nat.add_mul];have:horD l o D m*2*2 ^ (D - (m+1))=horD l o D m*(2 ^ (D - (m+1))*2):=by rw[Nat.mul_assoc,Nat.mul_comm 2]
    omega
theorem hor_eq (l:List Nat) (o D:Nat):horD l o D D=btL l o D:=by
  have:=hor_bt l o D D (Nat.le_refl _);rw[Nat.sub_self,btL] at this;omega
theorem bt_bitL (l:List Nat) (hl:Bt l) (o:Nat):∀ n,btL l o n<2 ^ n∧∀ j,j<n→btL l o n / 2 ^ j % 2=l.getD (o+j) 0
  | 0=>⟨by simp[btL],fun j h=>by omega⟩
  | n+1=>by
    obtain⟨h1,h2⟩:=bt_bitL l hl o n;have hb:=hl (o+n);have h3:l.getD (o+n) 0*2 ^ n≤1*2 ^ n:=Nat.mul_le_mul_right _ hb;refine⟨by rw[btL,Nat.pow_succ];omega,fun j hj=>?_⟩;rw[btL];rcases Nat.lt_or_ge j n with h | h
    · rw[← h2 j h]
      have e:l.getD (o+n) 0*2 ^ n=2 ^ j*(2*(l.getD (o+n) 0*2 ^ (n - j - 1))):=by
        have:2 ^ n=2 ^ j*(2*2 ^ (n - j - 1)):=by rw[Nat.mul_comm 2,← Nat.pow_succ,← Nat.pow_add];congr 1;omega
        rw[this,← Nat.mul_assoc,Nat.mul_comm _ (2 ^ j),Nat.mul_assoc,← Nat.mul_assoc _ 2,Nat.mul_comm _ 2,Nat.mul_assoc]
      rw[e,Nat.add_mul_div_left _ _ (Nat.two_pow_pos j),Nat.add_mul_mod_self_left]
    · obtain rfl:j=n:=by omega
      rw[Nat.mul_comm,Nat.add_mul_div_left _ _ (Nat.two_pow_pos j),Nat.div_eq_of_lt h1];omega
theorem btL_btA (b:List UInt8) (o:Nat):∀ n,o+n≤8*b.length→btL (rbits b) o n=btA b o n
  | 0,_=>rfl
  | n+1,h=>by rw[btL,btA,btL_btA b o n (by omega),rbits_get b _ (by omega)]
theorem bt_bit (b:List UInt8) (o:Nat):∀ n,∀ j,j<n→btA b o n / 2 ^ j % 2=bitN b (o+j)
  | 0=>fun j h=>by omega
  | n+1=>fun j hj=>by
    have h1:=btA_lt b o n;rw[btA];rcases Nat.lt_or_ge j n with h | h
    · rw[← bt_bit b o n j h]
      have e:bitN b (o+n)*2 ^ n=2 ^ j*(2*(bitN b (o+n)*2 ^ (n - j - 1))):=by
        have:2 ^ n=2 ^ j*(2*2 ^ (n - j - 1)):=by rw[Nat.mul_comm 2,← Nat.pow_succ,← Nat.pow_add];congr 1;omega
        rw[this,← Nat.mul_assoc,Nat.mul_comm _ (2 ^ j),Nat.mul_assoc,← Nat.mul_assoc _ 2,Nat.mul_comm _ 2,Nat.mul_assoc]
      rw[e,Nat.add_mul_div_left _ _ (Nat.two_pow_pos j),Nat.add_mul_mod_self_left]
    · obtain rfl:j=n:=by omega
      have:=bitN_lt b (o+j);rw[Nat.mul_comm,Nat.add_mul_div_left _ _ (Nat.two_pow_pos j),Nat.div_eq_of_lt h1];omega
/-! ### Small polynomials -/
def sumB (b:List UInt8) (o:Nat):Nat→Nat
  | 0=>0
  | j+1=>sumB b o j+bitN b (o+j)
theorem sumB_le (b:List UInt8) (o:Nat):∀ j,sumB b o j≤j
  | 0=>Nat.le_refl _
  | j+1=>by have:=sumB_le b o j;have:=bitN_lt b (o+j);rw[sumB];omega
theorem pcA_sum (b:List UInt8) (o n:Nat):∀ j,j≤n→pcA (btA b o n) j=sumB b o j
  | 0,_=>rfl
  | j+1,h=>by rw[pcA,sumB,pcA_sum b o n j (by omega),shA_eq,bt_bit b o n j (by omega)]
theorem ones_sum (b:List UInt8) (o n:Nat) (hn:n≤12):onesN b o n=sumB b o n:=by
  have h0:shA (btA b o n) n=0:=by rw[shA_eq];exact Nat.div_eq_of_lt (btA_lt b o n)
  have:=(pcA_more (btA b o n) n h0 (12 - n)).1;rw[show n+(12 - n)=12 by omega,pcA_sum b o n n (Nat.le_refl _)] at this;rw[onesN,pc,this]
def noE (l:List Nat) (o eta:Nat):Nat→Int
  | 0=>3329
  | j+1=>noE l o eta j+(((l.getD (o+j) 0:Nat):Int) - ((l.getD (o+eta+j) 0:Nat):Int))
theorem noE_le (l:List Nat) (hl:Bt l) (o eta:Nat):∀ j:Nat,3329 - (j:Int)≤noE l o eta j∧noE l o eta j≤3329+(j:Int)
  | 0=>by rw[noE];omega
  | j+1=>by have h:=noE_le l hl o eta j;have h1:=hl (o+j);have h2:=hl (o+eta+j);rw[noE];omega
def rnA (l:List Nat) (eta:Nat):Nat→List Int
  | 0=>zero256
  | i+1=>(rnA l eta i).set i ((noE l (2*i*eta) eta eta).tmod 3329)
theorem rnA_len (l:List Nat) (eta:Nat):∀ i,(rnA l eta i).length=256
  | 0=>lR
  | i+1=>by rw[rnA,List.length_set];exact rnA_len l eta i
theorem noE_sum (b:List UInt8) (o eta:Nat) (h:o+2*eta≤8*b.length):∀ j,j≤eta→noE (rbits b) o eta j=3329+((sumB b o j:Nat):Int) - ((sumB b (o+eta) j:Nat):Int)
  | 0,_=>by rw[noE,sumB,sumB];omega
  | j+1,hj=>by rw[noE,sumB,sumB,noE_sum b o eta h j (by omega),rbits_get b _ (by omega),rbits_get b _ (by omega)];omega
theorem rnA_eq (b:List UInt8) (eta:Nat) (he:1≤eta∧eta≤3) (hb:b.length=64*eta):∀ i,i≤256→rnA (rbits b) eta i=noA eta b i
  | 0,_=>rfl
  | i+1,h=>by
    have hm:=Nat.mul_le_mul_right eta (show 2*i+2≤512 by omega);rw[Nat.add_mul] at hm;rw[rnA,noA,rnA_eq b eta he hb i (by omega),noE_sum b _ eta (by omega) eta (Nat.le_refl _),ones_sum b _ _ (by omega),ones_sum b _ _ (by omega)];have h1:=sumB_le b (2*i*eta) eta;have h2:=sumB_le b (2*i*eta+eta) eta
    congr 1
    rw[zsub_eq,zmod_of_lt (by omega),zmod_of_lt (by omega),Int.tmod_eq_emod_of_nonneg (by omega)];omega
/-! ### Bytes of polynomials -/
def pkA (d:Nat) (p:List Int):Nat→List Nat
  | 0=>[]
  | i+1=>pkA d p i++nbits (zmod (p.getD i 0)) d
theorem pkA_len (d:Nat) (p:List Int):∀ i,(pkA d p i).length=d*i
  | 0=>rfl
  | i+1=>by rw[pkA,lA,pkA_len d p i,nbits_len,Nat.mul_succ]
theorem pkA_bt (d:Nat) (p:List Int):∀ i,Bt (pkA d p i)
  | 0=>Bt.nil
  | i+1=>by rw[pkA];exact(pkA_bt d p i).app (Bt.nbits _ _)
theorem pkA_get (d:Nat) (hd:1≤d) (p:List Int):∀ i k,k<d*i→(pkA d p i).getD k 0=zmod (p.getD (k / d) 0) / 2 ^ (k % d) % 2
  | 0,k,h=>by omega
  | i+1,k,h=>by
    have hl:=pkA_len d p i;rw[Nat.mul_succ] at h;rw[pkA];rcases Nat.lt_or_ge k (d*i) with h1 | h1
    · rw[getD_app_lt _ _ _ _ (by omega)];exact pkA_get d hd p i k h1
    · have e1:k / d=i:=Nat.div_eq_of_lt_le (by rw[Nat.mul_comm];exact h1) (by rw[Nat.mul_comm,Nat.mul_succ];omega)
      have e2:k % d=k - d*i:=by have:=Nat.div_add_mod k d;rw[e1] at this;omega
      rw[getD_app_ge _ _ _ _ (by omega),hl,nbits_get _ _ _ (by omega),e1,e2]
def opA (l:List Nat):Nat→List UInt8
  | 0=>[]
  | i+1=>opA l i++[UInt8.ofNat (horD l (8*i) 8 8)]
theorem opA_len (l:List Nat):∀ i,(opA l i).length=i
  | 0=>rfl
  | i+1=>by rw[opA,lA,opA_len l i];rfl
theorem opA_get (l:List Nat):∀ i t,t<i→(opA l i).getD t 0=UInt8.ofNat (horD l (8*t) 8 8)
  | 0,t,h=>by omega
  | i+1,t,h=>by
    have hl:=opA_len l i;rw[opA];rcases Nat.lt_or_ge t i with h1 | h1
    · rw[getD_app_lt _ _ _ _ (by omega)];exact opA_get l i t h1
    · obtain rfl:t=i:=by omega
      rw[getD_app_ge _ _ _ _ (by omega),hl,Nat.sub_self];rfl
theorem opA_bit (l:List Nat) (hl:Bt l) (i k:Nat) (h:k<8*i):bitN (opA l i) k=l.getD k 0:=by
  have hb:=bt_bitL l hl (8*(k / 8)) 8;rw[bitN,opA_get l i _ (by omega),hor_eq,UInt8.toNat_ofNat_of_lt' (by simpa using hb.1),hb.2 _ (by omega),show 8*(k / 8)+k % 8=k by omega]
theorem bitN_test (b:List UInt8) (k:Nat):bitN b k=((b.getD (k / 8) 0).toNat.testBit (k % 8)).toNat:=by
  rw[bitN,Nat.testBit_eq_decide_div_mod_eq];have:=Nat.mod_lt ((b.getD (k / 8) 0).toNat / 2 ^ (k % 8)) (show 0<2 by omega);rcases Nat.mod_two_eq_zero_or_one ((b.getD (k / 8) 0).toNat / 2 ^ (k % 8)) with h | h <;> rw[h] <;> rfl
theorem bytes_ext (a b:List UInt8) (h:a.length=b.length) (hg:∀ k,k<8*a.length→bitN a k=bitN b k):a=b:=by
  refine ext_getD 0 a b h fun i hi=>?_;apply UInt8.toNat_inj.1;apply Nat.eq_of_testBit_eq;intro j;rcases Nat.lt_or_ge j 8 with hj | hj
  · have:=hg (8*i+j) (by omega)
    rw[bitN_test,bitN_test,show(8*i+j) / 8=i by omega,show(8*i+j) % 8=j by omega] at this
    revert this
    cases (a.getD i 0).toNat.testBit j <;> cases (b.getD i 0).toNat.testBit j <;> simp
  · have p2:(2:Nat) ^ 8≤2 ^ j:=Nat.pow_le_pow_right (by omega) hj
    have h1:=(a.getD i 0).toNat_lt;have h2:=(b.getD i 0).toNat_lt;rw[Nat.testBit_lt_two_pow (by omega),Nat.testBit_lt_two_pow (by omega)]
theorem getD_set_eq {α:Type} (l:List α) (i j:Nat) (x d:α) (h:i<l.length):(l.set i x).getD j d=if i=j then x else l.getD j d:=by
  simp only[List.getD_eq_getElem?_getD,List.getElem?_set];by_cases e:i=j
  · rw[if_pos e,if_pos e,if_pos h];rfl
  · rw[if_neg e,if_neg e]
theorem bit_put (o:List UInt8) (K v k:Nat) (hv:v<2) (hK:K<8*o.length) (h0:bitN o K=0):
    bitN (o.set (K / 8) (o.getD (K / 8) 0|||(UInt8.ofNat v <<< UInt8.ofNat (K % 8)))) k=if k=K then v else bitN o k:=by
  have hm:(UInt8.ofNat (K % 8)).toNat % 8=K % 8:=by rw[UInt8.toNat_ofNat_of_lt' (by show K % 8<256;omega)];omega
  have hvn:(UInt8.ofNat v).toNat=v:=UInt8.toNat_ofNat_of_lt' (by show v<256;omega);rw[bitN_test,getD_set_eq _ _ _ _ _ (by omega)];by_cases e:K / 8=k / 8
  · rw[if_pos e,UInt8.toNat_or,Nat.testBit_or,UInt8.toNat_shiftLeft,hm,hvn,Nat.testBit_mod_two_pow,Nat.testBit_shiftLeft]
    by_cases e2:k=K
    · subst e2
      rw[if_pos rfl];have h0':=h0;rw[bitN_test] at h0';have h1:(o.getD (k / 8) 0).toNat.testBit (k % 8)=false:=by
        revert h0';cases (o.getD (k / 8) 0).toNat.testBit (k % 8) <;> simp
      rw[h1,Nat.sub_self];have:k % 8<8:=Nat.mod_lt _ (by omega);rcases(show v=0∨v=1 by omega) with rfl | rfl <;> simp[this]
    · rw[if_neg e2,bitN_test]
      have hne:k % 8≠K % 8:=by omega
      have:((decide (k % 8<8)) && ((decide (k % 8≥K % 8)) && v.testBit (k % 8 - K % 8)))=false:=by
        by_cases h3:k % 8≥K % 8
        · have h4:v.testBit (k % 8 - K % 8)=false:=by
            apply Nat.testBit_lt_two_pow;have:2 ^ 1≤2 ^ (k % 8 - K % 8):=Nat.pow_le_pow_right (by omega) (by omega);omega
          rw[h4];simp
        · simp[h3]
      rw[this,Bool.or_false,e]
  · rw[if_neg e,if_neg (by intro h;rw[h] at e;exact e rfl),bitN_test]
theorem paB_bit (c at':Nat) (o:List UInt8) (h0:∀ k,at'≤k→bitN o k=0):∀ j,at'+j≤8*o.length→∀ k,bitN (paB c at' o j) k=if at'≤k∧k<at'+j then c / 2 ^ (k - at') % 2 else bitN o k
  | 0,_,k=>by rw[paB,if_neg (by omega)]
  | j+1,h,k=>by
    have ih:=paB_bit c at' o h0 j (by omega);have hz:bitN (paB c at' o j) (at'+j)=0:=by rw[ih,if_neg (by omega)];exact h0 _ (by omega)
    rw[paB,bit_put _ _ _ _ (Nat.mod_lt _ (by omega)) (by rw[paB_len];omega) hz,ih];by_cases e:k=at'+j
    · subst e;rw[if_pos rfl,if_pos (by omega),show at'+j - at'=j by omega]
    · rw[if_neg e]
      by_cases e2:at'≤k∧k<at'+j
      · rw[if_pos e2,if_pos (by omega)]
      · rw[if_neg e2,if_neg (by omega)]
theorem bitN_rep (n k:Nat):bitN (List.replicate n 0) k=0:=by
  rw[bitN];have:(List.replicate n (0:UInt8)).getD (k / 8) 0=0:=by
    simp only[List.getD_eq_getElem?_getD,List.getElem?_replicate];split <;> rfl
  rw[this];simp
theorem paA_bit (d:Nat) (hd:1≤d) (p:List Int):∀ i,i≤256→∀ k,bitN (paA d p i) k=if k<d*i then zmod (p.getD (k / d) 0) / 2 ^ (k % d) % 2 else 0
  | 0,_,k=>by rw[paA,bitN_rep,if_neg (by omega)]
  | i+1,h,k=>by
    have ih:=paA_bit d hd p i (by omega);have hm:=Nat.mul_le_mul_left d (show i+1≤256 by omega);rw[Nat.mul_succ] at hm;rw[paA,paB_bit _ _ _ (fun k hk=>by rw[ih,if_neg (by omega)]) d (by rw[paA_len];omega),ih,Nat.mul_succ];by_cases e:d*i≤k∧k<d*i+d
    · have e1:k / d=i:=Nat.div_eq_of_lt_le (by rw[Nat.mul_comm];exact e.1) (by rw[Nat.mul_comm,Nat.mul_succ];exact e.2)
      have e2:k % d=k - d*i:=by have:=Nat.div_add_mod k d;rw[e1] at this;omega
      rw[if_pos e,if_pos (by omega),e1,e2]
    · rw[if_neg e]
      by_cases e2:k<d*i
      · rw[if_pos e2,if_pos (by omega)]
      · rw[if_neg e2,if_neg (by omega)]
theorem pack_eq (d:Nat) (hd:1≤d) (p:List Int):opA (pkA d p 256) (32*d)=paA d p 256:=by
  have hl:=opA_len (pkA d p 256) (32*d);refine bytes_ext _ _ (by rw[hl,paA_len]) fun k hk=>?_;rw[hl] at hk;rw[opA_bit _ (pkA_bt d p 256) _ _ hk,pkA_get d hd p _ _ (by omega),paA_bit d hd p 256 (Nat.le_refl _),if_pos (by omega)]
def ruA (l:List Nat) (d:Nat):Nat→List Int
  | 0=>zero256
  | i+1=>(ruA l d i).set i ((horD l (d*i) d d % 3329:Nat):Int)
theorem ruA_len (l:List Nat) (d:Nat):∀ i,(ruA l d i).length=256
  | 0=>lR
  | i+1=>by rw[ruA,List.length_set];exact ruA_len l d i
theorem ruA_eq (b:List UInt8) (d:Nat) (hb:b.length=32*d):∀ i,i≤256→ruA (rbits b) d i=unA d b i
  | 0,_=>rfl
  | i+1,h=>by
    have hm:=Nat.mul_le_mul_left d (show i+1≤256 by omega);rw[Nat.mul_succ] at hm;rw[ruA,unA,ruA_eq b d hb i (by omega),hor_eq,btL_btA b _ _ (by omega),zmod_nat]
theorem prfB_app (eta:Nat) (seed:List UInt8) (n:UInt8):sqz (absR 136 31 noughts (seed++[n])) 136 (64*eta)=prfB (eta:Int) seed n:=by
  have e1:[seed,[n]].flatten=seed++[n]:=by simp
  have e2:(64*(eta:Int)).toNat=64*eta:=by omega
  rw[prfB,e1,e2]
end Go.Rx

/- More of the calculus: parts of arrays of arrays, function values with what they hold, slices of arrays. -/
namespace Go.Rx
open Go.RowKit
/-- A part of 256 of a row, and a row with one part new. -/
def rg (l:List Int) (i:Nat):List Int:=(l.drop (i*256)).take 256
def rs (l:List Int) (i:Nat) (d:List Int):List Int:=l.take (i*256)++d++l.drop (i*256+256)
theorem rg_len (l:List Int) (i:Nat) (h:i*256+256≤l.length):(rg l i).length=256:=by
  rw[rg,List.length_take,List.length_drop];omega
theorem rs_len (l:List Int) (i:Nat) (d:List Int) (h:i*256+256≤l.length) (hd:d.length=256):(rs l i d).length=l.length:=by
  simp only[rs,lA,List.length_take,List.length_drop];omega
theorem rs_map (l d:List Int) (i:Nat) (hd:d.length=256):(l.map ei).take (i*256)++d.map ei++(l.map ei).drop (i*256+(d.map ei).length)=(rs l i d).map ei:=by
  simp[rs,hd]
theorem rg_map (l:List Int) (i:Nat) (h:i*256+256≤l.length):((l.map ei).drop (i*256)).take ((rg l i).map ei).length=(rg l i).map ei:=by
  have hl:=rg_len l i h;rw[lM,hl,rg,List.map_take,List.map_drop]
section
variable {P:Program} {n:Nat} {env:Env} {a:Act} {w0 w w':World} {dst:Option Tmp} {ty t t':TypeId} {pos:String} {af:Array Edge} {g:Option (Nat × Bool)} {x y:Operand} {v u:Value}
variable {ops:Array Oper} {Q:Exit→Act→World→Prop} {rest:List Oper} {d:Nat} {S:World→Prop} {T:List Nat} {m i:Nat} {st r:List Nat}
/-- A part of an array of arrays by value. -/
theorem r_indexP (ha:Has n env a) {e len sz i:Nat} {C D:List Value} (hT:∀ w,(underlying t).run P w=.ok (.array len e) w) (hsz:∀ w,(sizeOf e).run P w=.ok sz w) (hagg:∀ w,(isAgg e).run P w=.ok true w) (hx:ev env x=some (.agg C.toArray)) (hy:ev env y=some (en i)) (hi:i<len) (hl:D.length=sz)
    (hC:(C.drop (i*sz)).take D.length=D):
    (execOp a.eval ⟨dst,.index t x y,ty,pos,af,g⟩).run P w=.ok (.value (.agg D.toArray)) w:=by
  have h4:(0:Int)≤(i:Int)∧(i:Int)<(len:Int):=⟨by omega,by omega⟩;have hex:C.toArray.extract (i*sz) (i*sz+sz)=D.toArray:=by
    rw[List.extract_toArray,List.extract_eq_take_drop];rw[show i*sz+sz - i*sz=D.length by omega,hC]
  simp[execOp,ha.ev hx,ha.ev hy,Instr.index,asIntOf,hT,hsz,hagg,h4,hi,part,hex];rw[hl] at hC;exact hC
/-- A function value that holds something. -/
theorem r_makeFunc (ha:Has n env a) {f:Nat} (l:List Operand) (vs:List Value) (hl:evs env l=some vs):
    (execOp a.eval ⟨dst,.makeFunc (.func f) #[] l.toArray,ty,pos,af,g⟩).run P w=.ok (.value (.func (.func f) #[] vs.toArray)) w:=by
  have h:=ha.evs l vs hl;simp[execOp,Instr.makeFunc,h]
/-- append of elements of many cells. -/
theorem run_appN {e:Nat} {ti:TypeInfo} {zv:Value} {base k m sz cap:Nat} {C D:List Value} (q:Addr) (ht:P.underlying t=some (.slice e)) (hi:P.info? e=some ti) (hz:ti.zero=some zv) (hsz:ti.size=sz) (hzs:zv.cells.size=sz) (hs0:0<sz)
    (hown:w.ownsRow base e sz v k C) (hnews:∀ j p,D[j]?=some p→w.cell? (q.add j)=some p) (hl:D.length=m*sz) (hm:0<m) (h1:∀ q ∈ D,q.oneCell'=true) (hbd:(k+m)*ti.bytes≤140737488355328) (hbd2:k+m≤140737488355328) (hbase:base≤w.heap.size):
    ∃ v' w',(Builtin.append_ #[t,t] ty #[v,.slice (some q) m cap]).run P w=.ok v' w'∧w'.ownsRow base e sz v' (k+m) (C++D)∧w.grownBy w' v.ownBlock∧(∀ j,v'.ownBlock=some j→v.ownBlock=some j∨w.heap.size≤j):=by
  subst hsz;have hl2:D.length=m*ti.size:=hl;have hmx:k+m≤maxLen:=by unfold maxLen;omega
  rcases hown.2 with⟨hv,hk⟩ | ⟨g,c,cur,hv,hbg,hg,hkc,hcm,hcs,htake⟩
  · subst hv;subst hk
    have hC:C=[]:=List.eq_nil_of_length_eq_zero (by simpa using hown.1);subst hC;have hr:=run_append_nil (P:=P) w t ty e ti zv ht hi hz q m cap D hl hnews (by omega) (by omega) (by have:=hbd;simp only[Nat.zero_add] at this;omega);have hcl:grownCap w m 0 e≤maxLen:=grownCap_le_maxLen w _ _ e (by simpa using hmx);have hcg:=grownCap_ge w m 0 e;refine⟨_,_,hr,⟨by simp[hl],.inr ⟨w.heap.size,_,_,by simp,hbase,heap_alloc_new w.drew _,by simpa using hcg,hcl,?_,?_⟩⟩,⟨rfl,rfl,rfl,by simp,fun j hj _=>heap_alloc_old w.drew _ hj⟩,fun j hj=>?_⟩
    · simp only[Array.size_append,List.size_toArray,size_zeroCells,hzs,hl,← Nat.add_mul];congr 1;omega
    · simp[hl]
    · simp[Value.ownBlock] at hj;exact .inr (by omega)
  · subst hv
    have hlen:(C++D).length=(k+m)*ti.size:=by rw[lA,hown.1,hl,Nat.add_mul]
    by_cases hroom:k+m≤c
    · have hkm:k*ti.size+m*ti.size≤c*ti.size:=by rw[← Nat.add_mul];exact Nat.mul_le_mul_right _ hroom
      have hr:=run_append_room (P:=P) w t ty e ti ht hi g k c cur hg q m cap D hl hnews h1 hroom (by omega);refine⟨_,_,hr,⟨hlen,.inr ⟨g,c,_,rfl,hbg,setRow_heap w g cur _ e _ hg,hroom,hcm,?_,?_⟩⟩,⟨rfl,rfl,rfl,by simp,fun j _ hj=>setRow_other w g j _ (fun e=>hj (by simp[Value.ownBlock,e]))⟩,fun j hj=>Or.inl hj⟩
      · simp;omega
      · simp only[htake]
        rw[← hlen];exact List.take_left
    · have hr:=run_append_grow (P:=P) w t ty e ti zv ht hi hz ⟨g,0,none⟩ k c C hown.1 (hown.cells (g:=g) rfl) q m cap D hl hnews (by omega) (by omega) (growslice_fits (by omega) hbd)
      have hcl:grownCap w (k+m) c e≤maxLen:=grownCap_le_maxLen w _ _ e hmx;have hcg:=grownCap_ge w (k+m) c e;refine⟨_,_,hr,⟨hlen,.inr ⟨w.heap.size,_,_,rfl,hbase,heap_alloc_new w.drew _,hcg,hcl,?_,?_⟩⟩,⟨rfl,rfl,rfl,by simp,fun j hj _=>heap_alloc_old w.drew _ hj⟩,fun j hj=>?_⟩
      · simp only[Array.size_append,List.size_toArray,size_zeroCells,hzs,hl,hown.1,← Nat.add_mul];congr 1;omega
      · simp only[Array.toList_append,List.append_assoc]
        rw[← List.append_assoc,← hlen];exact List.take_left
      · simp[Value.ownBlock] at hj;exact .inr (by omega)
/-- append of one array, in the walk. -/
theorem sappN (ha:Has n env a) {e:Nat} {ti:TypeInfo} {zv:Value} {base k sz b:Nat} {C D:List Value} (hx:ev env x=some v) (hy:ev env y=some (.slice (some ⟨b,0,none⟩) 1 1)) (ht:P.underlying t=some (.slice e)) (hi:P.info? e=some ti) (hz:ti.zero=some zv) (hsz:ti.size=sz) (hzs:zv.cells.size=sz) (hs0:Nat.blt 0 sz=true)
    (hown:w.ownsRow base e sz v k C) (hb:w.heap[b]?=some (.cells D.toArray e (0,0))) (hl:D.length=sz) (h1:∀ q ∈ D,q.oneCell'=true) (hbd:(k+1)*ti.bytes≤140737488355328) (hbd2:k+1≤140737488355328) (hbase:base≤w.heap.size) (hn:Nat.blt d n=true)
    (K:∀ a' w' v',Has n ((d,v')::env) a'→w.grownBy w' v.ownBlock→w'.ownsRow base e sz v' (k+1) (C++D)→(∀ j,v'.ownBlock=some j→v.ownBlock=some j∨w.heap.size≤j)→wpList P ops Q rest a' w'):
    wpList P ops Q (⟨some d,.call ⟨.builtin .append,#[x,y],#[t,t]⟩,ty,pos,af,none⟩::rest) a w:=by
  have hnews:∀ j p,D[j]?=some p→w.cell? ((⟨b,0,none⟩:Addr).add j)=some p:=fun j p hp=>by rw[add_zero'];exact cells_all hb j p hp
  obtain⟨v',w',hr,ho,hg,hj⟩:=run_appN (P:=P) (w:=w) (ty:=ty) (cap:=1) ⟨b,0,none⟩ ht hi hz hsz hzs (by simpa[Nat.blt_eq] using hs0) hown hnews (by rw[hl,Nat.one_mul]) (by omega) h1 hbd hbd2 hbase;refine sv ha (w':=w') (v:=v') ?_ rfl rfl hn fun a' ha'=>K a' w' v' ha' hg ho hj;simp only[execOp,resolve,ha.ev hx,ha.ev hy,invoke,builtin,Sem.run_bind,Sem.run_pure,Result.andThen_ok,List.map_toArray,List.map_cons,List.map_nil,hr]
/-- A literal of one array. -/
theorem sbuildN (ha:Has n env a) {e sz:Nat} {ti:TypeInfo} {z:Value} {D:List Value} (hx:ev env x=some (.agg D.toArray)) (ht:P.underlying t=some (.slice e)) (hi:P.info? e=some ti) (hz:ti.zero=some z) (hsz:ti.size=sz) (hD:D.length=sz) (hs0:Nat.blt 0 sz=true) (hs1:Nat.ble sz 16777216=true) (hn:Nat.blt d n=true)
    (K:∀ a' w' b,Has n ((d,.slice (some ⟨b,0,none⟩) 1 1)::env) a'→w.grownBy w' none→w'.heap[b]?=some (.cells D.toArray e (0,0))→w.heap.size≤b→b<w'.heap.size→wpList P ops Q rest a' w'):
    wpList P ops Q (⟨some d,.buildSlice t 1 #[(0,x)],ty,pos,af,none⟩::rest) a w:=by
  have h0:0<sz:=by simpa[Nat.blt_eq] using hs0
  have h1:sz≤16777216:=by simpa[Nat.ble_eq] using hs1
  have hf:=Great.fill_whole h0 [.agg D.toArray] ((Array.range (1*ti.size)).map (z.cells[· % z.cells.size]!)) (fun v hv=>by simp at hv;subst hv;simpa[Value.cells] using hD) (by simp[hsz]);have hf':Instr.fill (fun i=>some (i*ti.size,ti.size)) ((Array.range (1*ti.size)).map (z.cells[· % z.cells.size]!)) (#[(0,Value.agg D.toArray)]:Array (Nat × Value)).toList=some D.toArray:=by
    rw[hsz] at hf ⊢;have e2:([Value.agg D.toArray].flatMap fun v=>v.cells.toList)=D:=by simp[Value.cells]
    rw[e2] at hf;exact hf
  have hr:=Go.run_buildSlice (P:=P) w t e 1 #[(0,Value.agg D.toArray)] D.toArray ti z ht hi hz (by rw[hsz];omega) (by rw[hsz];omega) hf';have hrun:(execOp a.eval ⟨some d,.buildSlice t 1 #[(0,x)],ty,pos,af,none⟩).run P w=.ok (.value (.slice (some ⟨w.heap.size,0,none⟩) 1 1)) (w.alloc (.cells D.toArray e)):=by
    have hm:((#[(0,x)]:Array (Nat × Operand)).map fun p=>(p.1,a.eval p.2))= #[(0,Value.agg D.toArray)]:=by simp[ha.ev hx]
    simp only[execOp,hm,Sem.run_bind,hr,Result.andThen_ok];rfl
  exact sv ha hrun rfl rfl hn fun _ ha'=>K _ _ _ ha' (grown_alloc w _) (heap_alloc_new w _) (Nat.le_refl _) (by simp)
/-- An element's address in an owned slice of arrays; what lies there. -/
theorem r_indexO (ha:Has n env a) {e k sz base i:Nat} {C:List Value} (hT:∀ w,(underlying t).run P w=.ok (.slice e) w) (hsz:∀ w,(sizeOf e).run P w=.ok sz w) (hown:w.ownsRow base e sz v k C) (hx:ev env x=some v) (hy:ev env y=some (en i)) (hi:i<k):
    (execOp a.eval ⟨dst,.indexAddr t x y,ty,pos,af,g⟩).run P w=.ok (.value (ptrOf v (i*sz))) w:=by
  rcases hown.2 with⟨hv,hk⟩ | ⟨q,c,cur,hv,hbg,hg,hkc,hcm,hcs,htake⟩
  · omega
  · have h4:(0:Int)≤(i:Int)∧(i:Int)<(k:Int):=⟨by omega,by omega⟩
    simp[execOp,ha.ev hx,ha.ev hy,Instr.indexAt,asIntOf,hT,hsz,hv,h4,hi,ptrOf,add_zero']
theorem r_loadO (ha:Has n env a) {e k sz base szt o:Nat} {C D:List Value} (hown:w.ownsRow base e sz v k C) (hx:ev env x=some (ptrOf v o)) (hagg:∀ w,(isAgg t).run P w=.ok true w) (hszt:∀ w,(sizeOf t).run P w=.ok szt w) (hl:D.length=szt) (h0:Nat.blt 0 szt=true) (hC:(C.drop o).take D.length=D):
    (execOp a.eval ⟨dst,.load t x,ty,pos,af,g⟩).run P w=.ok (.value (.agg D.toArray)) w:=by
  have h0':0<szt:=by simpa[Nat.blt_eq] using h0
  rcases hown.2 with⟨hv,hk⟩ | ⟨q,c,cur,hv,hbg,hg,hkc,hcm,hcs,htake⟩
  · have:C=[]:=List.eq_nil_of_length_eq_zero (by rw[hown.1,hk,Nat.zero_mul])
    rw[this] at hC;simp at hC;rw[hC] at hl;simp at hl;omega
  · have hcl:=hown.cells (g:=q) (by rw[hv];rfl)
    rw[hv] at hx;have hx':ev env x=some (.pointer (some ⟨q,o,none⟩)):=by rw[hx];simp[ptrOf]
    refine r_loadR (b:=q) (o:=o) ha hx' hagg hszt hl fun j u hu=>?_;have hj:j<D.length:=(List.getElem?_eq_some_iff.1 hu).1;have:=hcl (o+j) u (by rw[← hC,List.getElem?_take,if_pos hj,List.getElem?_drop] at hu;exact hu);rw[add_zero'] at this;simpa using this
theorem keepX0 {base e k sz:Nat} {C:List Value} (hg:w.grownBy w' none) (h:w.ownsRow base e sz v k C):w'.ownsRow base e sz v k C:=h.kept hg (by cases v.ownBlock <;> simp)
theorem keepX1 {base e k b sz:Nat} {C:List Value} (hg:w.grownBy w' (some b)) (hne:v.ownBlock≠some b) (h:w.ownsRow base e sz v k C):w'.ownsRow base e sz v k C:=h.kept hg (.inr hne)
theorem keepXR {row:Option Nat} {base e k sz:Nat} {C:List Value} (hg:w.grownBy w' row) (hne:∀ j,row=some j→v.ownBlock≠some j) (h:w.ownsRow base e sz v k C):w'.ownsRow base e sz v k C:=
  h.kept hg (by
    cases hv:v.ownBlock with
    | none=>exact .inl rfl
    | some k=>exact .inr (fun e=>hne k e.symm hv))
theorem own_rowX {base e k sz:Nat} {C:List Value} (h:w.ownsRow base e sz v k C):∀ j,v.ownBlock=some j→base≤j:=fun j hj=>(h.lt j hj).1
end
end Go.Rx

/- Regions that draw their order, where two operations that are not steady may come up at once: a tree of orders in place of one. -/
namespace Go.Rx
open Go.RowKit
inductive Ord | fin | op (i:Nat) (r:Ord) | two (i:Nat) (r:Ord) (j:Nat) (q:Ord)
def Ord.lenB:Ord→Nat→Bool
  | .fin,n=>Nat.beq n 0
  | .op _ r,n=>match n with | 0=>false | n+1=>r.lenB n
  | .two _ r _ q,n=>match n with | 0=>false | n+1=>r.lenB n && q.lenB n
def Ord.noSt (st:List Nat):Ord→Bool
  | .fin=>true
  | .op i r=> !st.contains i && r.noSt st
  | .two i r j q=> !st.contains i && !st.contains j && r.noSt st && q.noSt st
def Ord.restB (st T:List Nat):Ord→Bool
  | .fin=>true
  | .op i r=>(if T.contains i then !st.contains i && r.noSt st else true) && r.restB st T
  | .two i r j q=>(if T.contains i then r.noSt st else true) && (if T.contains j then q.noSt st else true) && r.restB st T && q.restB st T
def Ord.orderB (ops:Array Oper) (st:List Nat):Ord→Array Bool→Bool
  | .fin,listed=>(Region.ready .any ops listed).isEmpty
  | .op i r,listed=>(Region.ready .any ops listed).contains i && (if st.contains i then Region.free .any ops listed i else(Region.ready .any ops listed).all (Nat.beq i)) && r.orderB ops st (listed.setIfInBounds i true)
  | .two i r j q,listed=>(Region.ready .any ops listed).contains i && (Region.ready .any ops listed).all (fun k=>Nat.beq i k || Nat.beq j k) && (!st.contains i && !st.contains j) && r.orderB ops st (listed.setIfInBounds i true) && q.orderB ops st (listed.setIfInBounds j true)
def treeB (ops:Array Oper) (st T:List Nat) (ord:Ord):Bool:=
  Region.noSelect ops && tailB ops T && ord.lenB ops.size && ord.orderB ops st (Array.replicate ops.size false) && ord.restB st T
section
variable {P:Program} {ops:Array Oper} {Q:Exit→Act→World→Prop} {S:World→Prop} {T:List Nat}
def wpT (P:Program) (ops:Array Oper) (Q:Exit→Act→World→Prop) (S:World→Prop) (T:List Nat) (st:List Nat):Ord→Act→World→Prop
  | .fin,a,w=>Q .normal a w
  | .op i r,a,w=>∃ o,ops[i]?=some o∧
    if st.contains i then ∃ v,YieldsIf P ops S o v a∧wpT P ops Q S T st r (a.put o.dst v) w
    else wpOp P ops Q i (fun a' w'=>∃ S':World→Prop,(∀ w,S' w→S w)∧(T.contains i=false→S' w')∧wpT P ops Q S' T st r a' w') a w
  | .two i r j q,a,w=>(∃ o,ops[i]?=some o∧
    if st.contains i then ∃ v,YieldsIf P ops S o v a∧wpT P ops Q S T st r (a.put o.dst v) w
    else wpOp P ops Q i (fun a' w'=>∃ S':World→Prop,(∀ w,S' w→S w)∧(T.contains i=false→S' w')∧wpT P ops Q S' T st r a' w') a w)∧
    (∃ o,ops[j]?=some o∧
    if st.contains j then ∃ v,YieldsIf P ops S o v a∧wpT P ops Q S T st q (a.put o.dst v) w
    else wpOp P ops Q j (fun a' w'=>∃ S':World→Prop,(∀ w,S' w→S w)∧(T.contains j=false→S' w')∧wpT P ops Q S' T st q a' w') a w)
theorem AnyF_of_wpT {st:List Nat} (hsel:Region.noSelect ops=true) (hlast:tailB ops T=true) (hQ:∀ c a w,¬Q (.panic c) a w):
    ∀ (ord:Ord) (n:Nat) (S:World→Prop) (listed:Array Bool) (a:Act) (w:World),Closed ops listed→ord.lenB n=true→ord.orderB ops st listed=true→ord.restB st T=true→(ord.noSt st=false→S w)→
      wpT P ops Q S T st ord a w→AnyF P ops Q S T n listed a w
  | .fin,n,_,_,_,_,_,hL,hB,_,_,h=>by
    obtain rfl:n=0:=Nat.eq_of_beq_eq_true hL;exact⟨by simpa[Ord.orderB] using hB,h⟩
  | .op i r,0,_,_,_,_,_,hL,_,_,_,_=>by cases hL
  | .two i r j q,0,_,_,_,_,_,hL,_,_,_,_=>by cases hL
  | .op i r,n+1,S,listed,a,w,hcl,hL,hB,hR,hS,h=>by
    replace hL:r.lenB n=true:=hL;simp only[Ord.orderB,Bool.and_eq_true] at hB;obtain⟨⟨hr,hf⟩,hB'⟩:=hB;simp only[Ord.restB,Bool.and_eq_true] at hR;obtain⟨hR0,hR'⟩:=hR;obtain⟨o,ho,h⟩:=h;have hir:i ∈ Region.ready .any ops listed:=by simpa using hr
    by_cases hc:st.contains i=true
    · rw[if_pos hc] at h hf
      obtain⟨v,hy,h⟩:=h;have hw:=hS (by simp only[Ord.noSt,hc];rfl);have hit:T.contains i=false:=by
        cases hT:T.contains i with
        | false=>rfl
        | true=>rw[if_pos hT,hc] at hR0;simp at hR0
      exact AnyF_first ho hit (Region.noSelect_spec hsel) (fun c a w hq=>absurd hq (hQ c _ w)) hlast n listed a w hcl (Region.free_spec ho hf) hir hy hw
        (AnyF_of_wpT hsel hlast hQ r n S _ _ w (hcl.add hir) hL hB' hR' (fun _=>hw) h)
    · rw[if_neg hc] at h hf
      have hall:∀ k ∈ Region.ready .any ops listed,k=i:=fun k hk=>(Nat.eq_of_beq_eq_true (List.all_eq_true.1 hf k hk)).symm;refine⟨fun e=>by rw[e] at hr;simp at hr,fun k hk=>?_⟩;rw[hall k hk];refine wpOp_mono (fun a' w' h'=>?_) h;obtain⟨S',hle,hS',h'⟩:=h';refine⟨fun hT=>hle _ (hS' hT),AnyF_mono hle _ _ _ _ (AnyF_of_wpT hsel hlast hQ r n S' _ a' w' (hcl.add hir) hL hB' hR' (fun hex=>?_) h')⟩
      cases hT:T.contains i with
      | false=>exact hS' hT
      | true=>rw[if_pos hT,hex] at hR0;simp at hR0
  | .two i r j q,n+1,S,listed,a,w,hcl,hL,hB,hR,hS,h=>by
    replace hL:(r.lenB n && q.lenB n)=true:=hL;simp only[Bool.and_eq_true] at hL;simp only[Ord.orderB,Bool.and_eq_true] at hB;obtain⟨⟨⟨⟨hr,hf⟩,hns⟩,hB1⟩,hB2⟩:=hB;simp only[Ord.restB,Bool.and_eq_true] at hR;obtain⟨⟨⟨hRi,hRj⟩,hR1⟩,hR2⟩:=hR;obtain⟨h1,h2⟩:=h;have hci:¬st.contains i=true:=by intro e;rw[e] at hns;simp at hns
    have hcj:¬st.contains j=true:=by intro e;rw[e] at hns;simp at hns
    obtain⟨o1,ho1,h1⟩:=h1;obtain⟨o2,ho2,h2⟩:=h2;rw[if_neg hci] at h1;rw[if_neg hcj] at h2;refine⟨fun e=>by rw[e] at hr;simp at hr,fun k hk=>?_⟩;have hor:k=i∨k=j:=by
      have:=List.all_eq_true.1 hf k hk;simp only[Bool.or_eq_true] at this;exact this.imp (fun e=>(Nat.eq_of_beq_eq_true e).symm) (fun e=>(Nat.eq_of_beq_eq_true e).symm)
    rcases hor with rfl | rfl
    · refine wpOp_mono (fun a' w' h'=>?_) h1
      obtain⟨S',hle,hS',h'⟩:=h';refine⟨fun hT=>hle _ (hS' hT),AnyF_mono hle _ _ _ _ (AnyF_of_wpT hsel hlast hQ r n S' _ a' w' (hcl.add hk) hL.1 hB1 hR1 (fun hex=>?_) h')⟩
      cases hT:T.contains k with
      | false=>exact hS' hT
      | true=>rw[if_pos hT,hex] at hRi;cases hRi
    · refine wpOp_mono (fun a' w' h'=>?_) h2
      obtain⟨S',hle,hS',h'⟩:=h';refine⟨fun hT=>hle _ (hS' hT),AnyF_mono hle _ _ _ _ (AnyF_of_wpT hsel hlast hQ q n S' _ a' w' (hcl.add hk) hL.2 hB2 hR2 (fun hex=>?_) h')⟩
      cases hT:T.contains k with
      | false=>exact hS' hT
      | true=>rw[if_pos hT,hex] at hRj;cases hRj
theorem regionT {id:Nat} {a:Act} {w:World} {l:List Oper} (S:World→Prop) (T st:List Nat) (ord:Ord) (hm:P.follows .mixedOrders=true)
    (hB:treeB l.toArray st T ord=true) (hS:∀ w',w.grownBy w' none→S w')
    (h:∀ w',w.grownBy w' none→wpT P l.toArray (NoPanic Q) S T st ord a w'):(Code.region id l.toArray true).wp P Q a w:=by
  have hg:w.grownBy {w with drawn:=w.drawn+1} none:=⟨rfl,rfl,rfl,Nat.le_refl _,fun _ _ _=>rfl⟩;simp only[treeB,Bool.and_eq_true] at hB;obtain⟨⟨⟨⟨h1,h2⟩,h3⟩,h4⟩,h5⟩:=hB;refine wp_region_noPanic (wp_region_any hm ?_);refine any_of_AnyF _ _ _ _ (AnyF_of_wpT h1 h2 (fun c a w hq=>hq) ord _ S _ a _ (fun j oj _ hl=>?_) h3 h4 h5 (fun _=>hS _ hg) (h _ hg))
  exfalso
  rcases Nat.lt_or_ge j (Array.replicate l.toArray.size false).size with h' | h'
  · simp[Array.getElem?_replicate] at hl
    split at hl <;> simp at hl
  · rw[Array.getD_eq_getD_getElem?,Array.getElem?_eq_none h'] at hl;simp at hl
theorem T.two {st:List Nat} {i j:Nat} {r q:Ord} {a:Act} {w:World} (h1:wpT P ops Q S T st (.op i r) a w) (h2:wpT P ops Q S T st (.op j q) a w):wpT P ops Q S T st (.two i r j q) a w:=⟨h1,h2⟩
end
namespace T
section
variable {P:Program} {ops:Array Oper} {Q:Exit→Act→World→Prop} {S:World→Prop} {T:List Nat}
variable {st:List Nat} {i:Nat} {r:Ord} {a:Act} {w w':World} {o:Oper} {m:Nat} {env:Env} {v:Value}
theorem cfin (h:Q .normal a w):wpT P ops (NoPanic Q) S T st .fin a w:=h
theorem cv (ha:Has m env a) {d:Nat} (hi:ops[i]?=some o) (hc:st.contains i=true) (hrun:∀ w,S w→(execOp a.eval o).run P w=.ok (.value v) w) (hg:o.guard=none) (hd:o.dst=some d) (hn:Nat.blt d m=true)
    (k:∀ a',Has m ((d,v)::env) a'→wpT P ops Q S T st r a' w):wpT P ops Q S T st (.op i r) a w:=by
  refine⟨o,hi,?_⟩;rw[if_pos hc];refine⟨v,.inl ⟨wanted_none hg _,hrun⟩,?_⟩;rw[hd];exact k _ (ha.put hn v)
theorem cw (ha:Has m env a) {d:Nat} (hi:ops[i]?=some o) (hc:st.contains i=false) (hrun:(execOp a.eval o).run P w=.ok (.value v) w') (hg:o.guard=none) (hd:o.dst=some d) (hn:Nat.blt d m=true) (hS:T.contains i=false→S w')
    (k:∀ a',Has m ((d,v)::env) a'→wpT P ops Q S T st r a' w'):wpT P ops Q S T st (.op i r) a w:=by
  refine⟨o,hi,?_⟩;rw[if_neg (by rw[hc];simp)];unfold wpOp;simp only[hi];rw[if_pos (wanted_none hg _)];refine .inl ?_;unfold Oper.wp;rw[hrun,Oper.upon_value,hd];exact⟨S,fun _ h=>h,hS,k _ (ha.put hn v)⟩
theorem cs (ha:Has m env a) (hi:ops[i]?=some o) (hc:st.contains i=false) (hrun:(execOp a.eval o).run P w=.ok .skip w') (hg:o.guard=none) (hd:o.dst=none) (hS:T.contains i=false→S w')
    (k:∀ a',Has m env a'→wpT P ops Q S T st r a' w'):wpT P ops Q S T st (.op i r) a w:=by
  refine⟨o,hi,?_⟩;rw[if_neg (by rw[hc];simp)];unfold wpOp;simp only[hi];rw[if_pos (wanted_none hg _)];refine .inl ?_;unfold Oper.wp;rw[hrun,Oper.upon_skip,hd];exact⟨S,fun _ h=>h,hS,k _ ha⟩
theorem cc (ha:Has m env a) {d:Nat} {f:FuncId} {args:Array Value} {R:Ending→World→Prop} (hi:ops[i]?=some o) (hc:st.contains i=false) (hrun:(execOp a.eval o).run P w=.ok (.enter f args) w') (hg:o.guard=none) (hd:o.dst=some d) (hn:Nat.blt d m=true)
    (hcall:Calls P f args w' R) (k:∀ e w'',R e w''→(T.contains i=false→S w'')∧∃ v,e=.returned v∧∀ a',Has m ((d,v)::env) a'→wpT P ops Q S T st r a' w''):wpT P ops Q S T st (.op i r) a w:=by
  refine⟨o,hi,?_⟩;rw[if_neg (by rw[hc];simp)];unfold wpOp;simp only[hi];rw[if_pos (wanted_none hg _)];refine .inl ?_;unfold Oper.wp;rw[hrun,Oper.upon_enter,hd];refine hcall.mono fun e w'' hR=>?_;obtain⟨hS,v,rfl,k'⟩:=k e w'' hR;exact⟨S,fun _ h=>h,hS,k' _ (ha.put hn v)⟩
theorem ccx (ha:Has m env a) {d:Nat} {f:FuncId} {args:Array Value} {R:Ending→World→Prop} (hi:ops[i]?=some o) (hc:st.contains i=false) (hrun:(execOp a.eval o).run P w=.ok (.enter f args) w') (hg:o.guard=none) (hd:o.dst=some d) (hn:Nat.blt d m=true)
    (hcall:Calls P f args w' R) (k:∀ e w'',R e w''→∃ S':World→Prop,(∀ w,S' w→S w)∧(T.contains i=false→S' w'')∧∃ v,e=.returned v∧∀ a',Has m ((d,v)::env) a'→wpT P ops Q S' T st r a' w''):wpT P ops Q S T st (.op i r) a w:=by
  refine⟨o,hi,?_⟩;rw[if_neg (by rw[hc];simp)];unfold wpOp;simp only[hi];rw[if_pos (wanted_none hg _)];refine .inl ?_;unfold Oper.wp;rw[hrun,Oper.upon_enter,hd];refine hcall.mono fun e w'' hR=>?_;obtain⟨S',hle,hS,v,rfl,k'⟩:=k e w'' hR;exact⟨S',hle,hS,k' _ (ha.put hn v)⟩
end
section
variable {P:Program} {n:Nat} {env:Env} {a:Act} {w w0 w':World} {dst:Option Tmp} {ty t t':TypeId} {pos:String} {af:Array Edge} {g:Option (Nat × Bool)} {x y z:Operand} {v u:Value}
variable {row:Option Nat} {b c:Nat} {o:Obj} {ops:Array Oper} {Q:Exit→Act→World→Prop} {rest:List Oper} {d:Nat} {S:World→Prop} {T:List Nat} {m i:Nat} {st:List Nat} {r:Ord}
theorem cstoreR (ha:Has n env a) {t bt:TypeId} {b o sz:Nat} {C D:List Value} (hi:ops[i]?=some ⟨none,.store t x y,ty,pos,af,none⟩) (hc:st.contains i=false) (hx:ev env x=some (.pointer (some ⟨b,o,none⟩))) (hy:ev env y=some (.agg D.toArray)) (hD:∀ u ∈ D,u.oneCell'=true) (hsz:∀ w,(sizeOf t).run P w=.ok sz w) (hl:D.length=sz)
    (hb:w.heap[b]?=some (.cells C.toArray bt (0,0))) (ho:o+D.length≤C.length) (hlast:T.contains i=true)
    (k:∀ a' w',Has n env a'→w.grownBy w' (some b)→w'.heap[b]?=some (.cells (C.take o++D++C.drop (o+D.length)).toArray bt (0,0))→wpT P ops Q S T st r a' w'):wpT P ops Q S T st (.op i r) a w:=
  cs ha hi hc (r_storeR ha hx hy hD hsz hl hb ho) rfl rfl (by rw[hlast];simp) fun _ ha'=>k _ _ ha' (grown_setRow w b _) (setRow_new hb)
theorem cstoreW (ha:Has n env a) {t bt:TypeId} {b sz:Nat} {C D:List Value} (hi:ops[i]?=some ⟨none,.store t x y,ty,pos,af,none⟩) (hc:st.contains i=false) (hx:ev env x=some (.pointer (some ⟨b,0,none⟩))) (hy:ev env y=some (.agg D.toArray)) (hD:∀ u ∈ D,u.oneCell'=true) (hsz:∀ w,(sizeOf t).run P w=.ok sz w) (hl:D.length=sz)
    (hb:w.heap[b]?=some (.cells C.toArray bt (0,0))) (hC:C.length=sz) (hlast:T.contains i=true)
    (k:∀ a' w',Has n env a'→w.grownBy w' (some b)→w'.heap[b]?=some (.cells D.toArray bt (0,0))→wpT P ops Q S T st r a' w'):wpT P ops Q S T st (.op i r) a w:=
  cstoreR ha hi hc hx hy hD hsz hl hb (by omega) hlast fun a' w' ha' hg hb'=>k a' w' ha' hg (by rwa [show C.take 0++D++C.drop (0+D.length)=D by simp[hl,hC]] at hb')
end
section
variable {P:Program} {n:Nat} {env:Env} {a:Act} {w w0 w':World} {dst:Option Tmp} {ty t t':TypeId} {pos:String} {af:Array Edge} {g:Option (Nat × Bool)} {x y z:Operand} {v u:Value}
variable {row:Option Nat} {b c:Nat} {o:Obj} {ops:Array Oper} {Q:Exit→Act→World→Prop} {rest:List Oper} {d:Nat} {S:World→Prop} {T:List Nat} {m i:Nat} {st:List Nat} {r:Ord}
end
section
variable {P:Program} {ops:Array Oper} {Q:Exit→Act→World→Prop} {S:World→Prop} {T:List Nat}
variable {st:List Nat} {i:Nat} {r:Ord} {a:Act} {w w':World} {o:Oper} {m:Nat} {env:Env} {v u:Value} {ty t:TypeId} {pos:String} {af:Array Edge} {x y:Operand} {dst:Option Tmp} {g:Option (Nat × Bool)}
end
section
variable {P:Program} {n:Nat} {env:Env} {a:Act} {w w0 w':World} {dst:Option Tmp} {ty t t':TypeId} {pos:String} {af:Array Edge} {g:Option (Nat × Bool)} {x y z:Operand} {v u:Value}
variable {row:Option Nat} {b c:Nat} {o:Obj} {ops:Array Oper} {Q:Exit→Act→World→Prop} {rest:List Oper} {d:Nat} {S:World→Prop} {T:List Nat} {m i:Nat} {st:List Nat} {r:Ord}
theorem calloc (ha:Has m env a) {t:TypeId} {C:List Value} (hi:ops[i]?=some ⟨some d,.alloc t,ty,pos,af,none⟩) (hc:st.contains i=false) (hz:∀ w,(zeroValue t).run P w=.ok (.agg C.toArray) w) (hn:Nat.blt d m=true) (hS:∀ w',w.grownBy w' none→S w')
    (k:∀ a' w' b,Has m ((d,.pointer (some ⟨b,0,none⟩))::env) a'→w.grownBy w' none→w'.heap[b]?=some (.cells C.toArray t (0,0))→w.heap.size≤b→b<w'.heap.size→wpT P ops Q S T st r a' w'):
    wpT P ops Q S T st (.op i r) a w:=
  cw ha hi hc (r_alloc hz) rfl rfl hn (fun _=>hS _ (grown_alloc w _)) fun _ ha'=>k _ _ _ ha' (grown_alloc w _) (heap_alloc_new w _) (Nat.le_refl _) (by simp)
end
section
variable {P:Program} {n:Nat} {env:Env} {a:Act} {w w0 w':World} {dst:Option Tmp} {ty t t':TypeId} {pos:String} {af:Array Edge} {g:Option (Nat × Bool)} {x y z:Operand} {v u:Value}
variable {row:Option Nat} {b c:Nat} {o:Obj} {ops:Array Oper} {Q:Exit→Act→World→Prop} {rest:List Oper} {d:Nat} {S:World→Prop} {T:List Nat} {m i:Nat} {st:List Nat} {r:Ord}
theorem cstoreWS (ha:Has n env a) {t bt:TypeId} {b sz:Nat} {C D:List Value} (hi:ops[i]?=some ⟨none,.store t x y,ty,pos,af,none⟩) (hc:st.contains i=false) (hx:ev env x=some (.pointer (some ⟨b,0,none⟩))) (hy:ev env y=some (.agg D.toArray)) (hD:∀ u ∈ D,u.oneCell'=true) (hsz:∀ w,(sizeOf t).run P w=.ok sz w) (hl:D.length=sz)
    (hb:w.heap[b]?=some (.cells C.toArray bt (0,0))) (hC:C.length=sz) (hS:∀ w',w.grownBy w' (some b)→S w')
    (k:∀ a' w',Has n env a'→w.grownBy w' (some b)→w'.heap[b]?=some (.cells D.toArray bt (0,0))→wpT P ops Q S T st r a' w'):wpT P ops Q S T st (.op i r) a w:=
  cs ha hi hc (r_storeR ha hx hy hD hsz hl hb (by omega)) rfl rfl (fun _=>hS _ (grown_setRow w b _)) fun _ ha'=>k _ _ ha' (grown_setRow w b _) (by rw[show C.take 0++D++C.drop (0+D.length)=D by simp[hl,hC]];exact setRow_new hb)
end
end T
end Go.Rx

/- Sums, layers of butterflies, and the ring of pairs: over any commutative ring. No program and no memory here. -/
namespace Go.Rx.Na

section
abbrev R := Fin 3329
theorem pwZ (a : R) : a ^ 0 = 1 := rfl
theorem pwS (a : R) (n : Nat) : a ^ (n + 1) = a ^ n * a := rfl
theorem pwA (a : R) (m n : Nat) : a ^ (m + n) = a ^ m * a ^ n := by grind

def sm (f:Nat→R):Nat→R
  | 0=>0
  | n+1=>sm f n+f n
theorem sm_congr {f g:Nat→R}:∀ n,(∀ i,i<n→f i=g i)→sm f n=sm g n
  | 0,_=>rfl
  | n+1,h=>by rw[sm,sm,sm_congr n (fun i hi=>h i (by omega)),h n (by omega)]
theorem sm_add (f g:Nat→R):∀ n,sm (fun i=>f i+g i) n=sm f n+sm g n
  | 0=>by simp only[sm];grind
  | n+1=>by simp only[sm];rw[sm_add f g n];grind
theorem sm_mul (c:R) (f:Nat→R):∀ n,sm (fun i=>c*f i) n=c*sm f n
  | 0=>by simp only[sm];grind
  | n+1=>by simp only[sm];rw[sm_mul c f n];grind
theorem sm_zero:∀ n,sm (fun _=>(0:R)) n=0
  | 0=>rfl
  | n+1=>by simp only[sm];rw[sm_zero n];grind
theorem sm_left (f:Nat→R):∀ n,sm f (n+1)=f 0+sm (fun i=>f (i+1)) n
  | 0=>by simp only[sm];grind
  | n+1=>by rw[sm,sm_left f n,sm];grind
theorem sm_pair (f:Nat→R):∀ n,sm f (2*n)=sm (fun q=>f (2*q)+f (2*q+1)) n
  | 0=>rfl
  | n+1=>by
    rw[show 2*(n+1)=2*n+1+1 by omega,sm,sm,sm_pair f n,sm];grind
theorem sm_one (f:Nat→R) (k:Nat):∀ n,(∀ i,i<n→i≠k→f i=0)→sm f n=if k<n then f k else 0
  | 0,_=>by rw[if_neg (by omega)];rfl
  | n+1,h=>by
    rw[sm,sm_one f k n (fun i hi hk=>h i (by omega) hk)];by_cases e:n=k
    · subst e;rw[if_neg (by omega),if_pos (by omega)];grind
    · rw[h n (by omega) e]
      by_cases hk:k<n
      · rw[if_pos hk,if_pos (by omega)];grind
      · rw[if_neg hk,if_neg (by omega)];grind
theorem sm_swap (f:Nat→Nat→R) (m:Nat):∀ n,sm (fun i=>sm (fun j=>f i j) m) n=sm (fun j=>sm (fun i=>f i j) n) m
  | 0=>by simp only[sm];exact(sm_zero m).symm
  | n+1=>by simp only[sm];rw[sm_swap f m n,sm_add]

/-! ### Layers -/
theorem dm_facts (L j:Nat) (hL:0<L):(j % (2*L)<L→(j+L) / (2*L)=j / (2*L)∧(j+L) % (2*L)=j % (2*L)+L)∧(¬j % (2*L)<L→L≤j∧(j - L) / (2*L)=j / (2*L)∧(j - L) % (2*L)=j % (2*L) - L):=by
  have h1:=Nat.div_add_mod j (2*L);have h2:=Nat.mod_lt j (show 0<2*L by omega);refine⟨fun h=>?_,fun h=>?_⟩
  · have e:j+L=(j % (2*L)+L)+2*L*(j / (2*L)):=by omega
    refine⟨?_,?_⟩
    · rw[e,Nat.add_mul_div_left _ _ (by omega),Nat.div_eq_of_lt (by omega),Nat.zero_add]
    · conv=>lhs;rw[e,Nat.add_mul_mod_self_left,Nat.mod_eq_of_lt (by omega)]
  · have e:j - L=(j % (2*L) - L)+2*L*(j / (2*L)):=by omega
    refine⟨by omega,?_,?_⟩
    · rw[e,Nat.add_mul_div_left _ _ (by omega),Nat.div_eq_of_lt (by omega),Nat.zero_add]
    · conv=>lhs;rw[e,Nat.add_mul_mod_self_left,Nat.mod_eq_of_lt (by omega)]
/-- A layer of the way there, and one of the way back. -/
def fl (z:Nat→R) (L:Nat) (v:Nat→R) (j:Nat):R:=if j % (2*L)<L then v j+z (j / (2*L))*v (j+L) else v (j - L) - z (j / (2*L))*v j
def il (y:Nat→R) (L:Nat) (v:Nat→R) (j:Nat):R:=if j % (2*L)<L then v j+v (j+L) else y (j / (2*L))*(v j - v (j - L))
theorem il_fl (y z:Nat→R) (L:Nat) (hL:0<L) (v:Nat→R) (j:Nat) (h:y (j / (2*L))*z (j / (2*L))= -1):il y L (fl z L v) j=v j+v j:=by
  obtain⟨h1,h2⟩:=dm_facts L j hL;unfold il;by_cases hc:j % (2*L)<L
  · obtain⟨e1,e2⟩:=h1 hc
    rw[if_pos hc];unfold fl;rw[if_pos hc,e1,e2,if_neg (by omega),Nat.add_sub_cancel];grind
  · obtain⟨e0,e1,e2⟩:=h2 hc
    have hlt:=Nat.mod_lt j (show 0<2*L by omega);rw[if_neg hc];unfold fl;rw[if_neg hc,e1,e2,if_pos (by omega),show j - L+L=j by omega];grind
theorem fl_il (y z:Nat→R) (L:Nat) (hL:0<L) (v:Nat→R) (j:Nat) (h:y (j / (2*L))*z (j / (2*L))= -1):fl z L (il y L v) j=v j+v j:=by
  obtain⟨h1,h2⟩:=dm_facts L j hL;unfold fl;by_cases hc:j % (2*L)<L
  · obtain⟨e1,e2⟩:=h1 hc
    rw[if_pos hc];unfold il;rw[if_pos hc,e1,e2,if_neg (by omega),Nat.add_sub_cancel];grind
  · obtain⟨e0,e1,e2⟩:=h2 hc
    have hlt:=Nat.mod_lt j (show 0<2*L by omega);rw[if_neg hc];unfold il;rw[if_neg hc,e1,e2,if_pos (by omega),show j - L+L=j by omega];grind
/-- A layer only looks at places below 256, where 2 L divides 256. -/
theorem fl_congr (z z':Nat→R) (L n:Nat) (hL:0<L) (hn:2*L*n=256) (v v':Nat→R) (hz:∀ b,b<n→z b=z' b) (hv:∀ j,j<256→v j=v' j) (j:Nat) (hj:j<256):fl z L v j=fl z' L v' j:=by
  have hb:j / (2*L)<n:=Nat.div_lt_of_lt_mul (by omega);have h1:=Nat.div_add_mod j (2*L);have h2:2*L*(j / (2*L))+2*L≤256:=by rw[← hn,← Nat.mul_succ];exact Nat.mul_le_mul_left _ hb
  unfold fl;rw[hz _ hb];by_cases hc:j % (2*L)<L
  · rw[if_pos hc,if_pos hc,hv j hj,hv (j+L) (by omega)]
  · rw[if_neg hc,if_neg hc,hv j hj,hv (j - L) (by omega)]
theorem il_congr (z z':Nat→R) (L n:Nat) (hL:0<L) (hn:2*L*n=256) (v v':Nat→R) (hz:∀ b,b<n→z b=z' b) (hv:∀ j,j<256→v j=v' j) (j:Nat) (hj:j<256):il z L v j=il z' L v' j:=by
  have hb:j / (2*L)<n:=Nat.div_lt_of_lt_mul (by omega);have h1:=Nat.div_add_mod j (2*L);have h2:2*L*(j / (2*L))+2*L≤256:=by rw[← hn,← Nat.mul_succ];exact Nat.mul_le_mul_left _ hb
  unfold il;rw[hz _ hb];by_cases hc:j % (2*L)<L
  · rw[if_pos hc,if_pos hc,hv j hj,hv (j+L) (by omega)]
  · rw[if_neg hc,if_neg hc,hv j hj,hv (j - L) (by omega)]
theorem il_scale (z:Nat→R) (c:R) (L:Nat) (v:Nat→R) (j:Nat):il z L (fun i=>c*v i) j=c*il z L v j:=by unfold il;split <;> grind
theorem fl_scale (z:Nat→R) (c:R) (L:Nat) (v:Nat→R) (j:Nat):fl z L (fun i=>c*v i) j=c*fl z L v j:=by unfold fl;split <;> grind

/-- Block b of a layer whose blocks have n parts of p: the rest by X^L = w. -/
def evX (p:Nat→R) (L n:Nat) (w:R) (m:Nat):R:=sm (fun q=>p (m+q*L)*w ^ q) n
theorem pow_two_mul (z:R) (q:Nat):z ^ (2*q)=(z*z) ^ q:=by
  induction q with
  | zero=>grind
  | succ q ih=>rw[show 2*(q+1)=2*q+1+1 by omega,pwS,pwS,pwS,ih];grind
theorem ev_step (p:Nat→R) (L n:Nat) (z w:R) (m:Nat) (hw:z*z=w):evX p (2*L) n w m+z*evX p (2*L) n w (m+L)=evX p L (2*n) z m:=by
  unfold evX;rw[sm_pair,← sm_mul,← sm_add];refine sm_congr n fun q _=>?_;rw[pow_two_mul,pwS,pow_two_mul,hw,show m+q*(2*L)=m+2*q*L by rw[Nat.mul_comm 2 L,← Nat.mul_assoc,Nat.mul_right_comm,Nat.mul_comm q 2],show m+L+q*(2*L)=m+(2*q+1)*L by rw[Nat.add_mul,Nat.one_mul,Nat.mul_comm 2 L,← Nat.mul_assoc,Nat.mul_right_comm q L 2,Nat.mul_comm q 2];omega]
  grind
theorem ev_step' (p:Nat→R) (L n:Nat) (z w:R) (m:Nat) (hw:z*z=w):evX p (2*L) n w m - z*evX p (2*L) n w (m+L)=evX p L (2*n) (-z) m:=by
  have h:=ev_step p L n (-z) w m (by grind)
  grind
/-- One layer carries the invariant on. -/
theorem layer_step (p v:Nat→R) (L n:Nat) (hL:0<L) (z w:Nat→R) (w':Nat→R) (h:∀ b,b<n→∀ m,m<2*L→v (b*(2*L)+m)=evX p (2*L) n (w b) m) (hz:∀ b,b<n→z b*z b=w b) (h0:∀ b,b<n→w' (2*b)=z b) (h1:∀ b,b<n→w' (2*b+1)= - z b):
    ∀ b,b<2*n→∀ m,m<L→fl z L v (b*L+m)=evX p L (2*n) (w' b) m:=by
  intro b hb m hm;have hd:b=2*(b / 2)+b % 2:=by omega
  have hb2:b / 2<n:=by omega
  have e0:∀ r,r<2*L→(b / 2*(2*L)+r) / (2*L)=b / 2∧(b / 2*(2*L)+r) % (2*L)=r:=fun r hr=>by
    rw[Nat.mul_comm (b / 2),Nat.add_comm];exact⟨by rw[Nat.add_mul_div_left _ _ (by omega),Nat.div_eq_of_lt hr,Nat.zero_add],by rw[Nat.add_mul_mod_self_left,Nat.mod_eq_of_lt hr]⟩
  rcases Nat.mod_two_eq_zero_or_one b with hm2 | hm2
  · have hbe:b=2*(b / 2):=by omega
    have ej:b*L+m=b / 2*(2*L)+m:=by
      conv=>lhs;rw[hbe,Nat.mul_right_comm]
      rw[show 2*L*(b / 2)=b / 2*(2*L) from Nat.mul_comm _ _]
    obtain⟨g1,g2⟩:=e0 m (by omega);rw[ej];unfold fl;rw[g1,g2,if_pos hm,h _ hb2 m (by omega),Nat.add_assoc,h _ hb2 (m+L) (by omega),ev_step _ _ _ _ _ _ (hz _ hb2)]
    conv=>rhs;rw[hbe,h0 _ hb2]
  · have hbe:b=2*(b / 2)+1:=by omega
    have ej:b*L+m=b / 2*(2*L)+(m+L):=by
      conv=>lhs;rw[hbe,Nat.add_mul,Nat.one_mul,Nat.mul_right_comm]
      rw[show 2*L*(b / 2)=b / 2*(2*L) from Nat.mul_comm _ _];omega
    obtain⟨g1,g2⟩:=e0 (m+L) (by omega);rw[ej];unfold fl;rw[g1,g2,if_neg (by omega),h _ hb2 (m+L) (by omega),show b / 2*(2*L)+(m+L) - L=b / 2*(2*L)+m by omega,h _ hb2 m (by omega),ev_step' _ _ _ _ _ _ (hz _ hb2)]
    conv=>rhs;rw[hbe,h1 _ hb2]

/-! ### Pairs: F[Y] by Y^2 = z -/
/-- What p is there: the even and the odd places. -/
def ev2 (p:Nat→R) (z:R) (m:Nat):R:=sm (fun q=>p (m+2*q)*z ^ q) 128
/-- Y^n: its even and its odd part. -/
def yp (z:R) (n m:Nat):R:=if n % 2=m then z ^ (n / 2) else 0
theorem ev2_eq (p:Nat→R) (z:R) (m:Nat):evX p 2 128 z m=ev2 p z m:=by unfold evX ev2;exact sm_congr _ fun q _=>by rw[Nat.mul_comm q 2]
/-- Adding c at place n adds c Y^n. -/
theorem ev2_put (p p':Nat→R) (z c:R) (n m:Nat) (hn:n<256) (hm:m<2) (h:∀ j,j<256→p' j=if j=n then p j+c else p j):ev2 p' z m=ev2 p z m+c*yp z n m:=by
  have e:ev2 p' z m=ev2 p z m+sm (fun q=>(if m+2*q=n then c else 0)*z ^ q) 128:=by
    unfold ev2;rw[← sm_add];refine sm_congr _ fun q hq=>?_;rw[h _ (by omega)]
    split <;> grind
  rw[e,sm_one _ (n / 2) 128 (fun i _ hne=>by rw[if_neg (by omega)];grind),if_pos (by omega)];unfold yp;by_cases hc:n % 2=m
  · rw[if_pos hc,if_pos (by omega)]
  · rw[if_neg hc,if_neg (by omega)];grind
/-- Y^i Y^j = Y^(i+j); behind 256 with the other sign, where z^128 = -1. -/
theorem yp_mul0 (z:R) (i j:Nat):yp z (i+j) 0=yp z i 0*yp z j 0+z*(yp z i 1*yp z j 1):=by
  unfold yp;rcases Nat.mod_two_eq_zero_or_one i with h1 | h1 <;> rcases Nat.mod_two_eq_zero_or_one j with h2 | h2
  · rw[if_pos (by omega),if_pos h1,if_pos h2,if_neg (by omega),show(i+j) / 2=i / 2+j / 2 by omega,pwA];grind
  · rw[if_neg (by omega),if_pos h1,if_neg (by omega),if_neg (by omega)];grind
  · rw[if_neg (by omega),if_neg (by omega),if_pos h2,if_neg (show ¬j % 2=1 by omega)];grind
  · rw[if_pos (by omega),if_neg (by omega),if_pos h1,if_pos h2,show(i+j) / 2=i / 2+j / 2+1 by omega,pwS,pwA];grind
theorem yp_mul1 (z:R) (i j:Nat):yp z (i+j) 1=yp z i 0*yp z j 1+yp z i 1*yp z j 0:=by
  unfold yp;rcases Nat.mod_two_eq_zero_or_one i with h1 | h1 <;> rcases Nat.mod_two_eq_zero_or_one j with h2 | h2
  · rw[if_neg (by omega),if_neg (show ¬j % 2=1 by omega),if_neg (show ¬i % 2=1 by omega)];grind
  · rw[if_pos (by omega),if_pos h1,if_pos h2,if_neg (show ¬i % 2=1 by omega),show(i+j) / 2=i / 2+j / 2 by omega,pwA];grind
  · rw[if_pos (by omega),if_neg (show ¬i % 2=0 by omega),if_pos h1,if_pos h2,show(i+j) / 2=i / 2+j / 2 by omega,pwA];grind
  · rw[if_neg (by omega),if_neg (show ¬i % 2=0 by omega),if_neg (show ¬j % 2=0 by omega)];grind
theorem yp_wrap (z:R) (hz:z ^ 128= -1) (n m:Nat) (hn:256≤n):yp z n m= - yp z (n - 256) m:=by
  unfold yp;by_cases h:n % 2=m
  · rw[if_pos h,if_pos (by omega),show n / 2=(n - 256) / 2+128 by omega,pwA,hz];grind
  · rw[if_neg h,if_neg (by omega)];grind
/-- What p is, as a sum of its terms. -/
theorem ev2_terms (p:Nat→R) (z:R) (m:Nat) (hm:m<2):ev2 p z m=sm (fun n=>p n*yp z n m) 256:=by
  rw[show 256=2*128 from rfl,sm_pair];unfold ev2;refine sm_congr _ fun q _=>?_;unfold yp
  match m,hm with
  | 0,_=>rw[if_pos (by omega),if_neg (by omega),show 2*q / 2=q by omega,Nat.zero_add];grind
  | 1,_=>rw[if_neg (by omega),if_pos (by omega),show(2*q+1) / 2=q by omega,Nat.add_comm 1];grind
end
end Go.Rx.Na

/- Plain functions of layer 11, as the program and the document reckon them; what they are in the field of 3329. No program and no memory here. -/
set_option maxRecDepth 100000
namespace Go.Rx
open Go.Rx.Na

/-! ### The field -/
abbrev F:=Fin 3329
def fi (x:Int):F:=Fin.ofNat 3329 (zmod x)
theorem fi_val (x:Int):(fi x).val=zmod x:=by
  show zmod x % 3329=zmod x;exact Nat.mod_eq_of_lt (zmod_lt x)
theorem fi_zmod (x:Int):fi ((zmod x:Nat):Int)=fi x:=by apply Fin.ext;rw[fi_val,fi_val,zmod_zmod]
theorem fi_add (x y:Int):fi ((zadd x y:Nat):Int)=fi x+fi y:=by
  apply Fin.ext;rw[fi_val,zmod_zadd,zadd_eq,Fin.val_add,fi_val,fi_val]
theorem fi_mul (x y:Int):fi ((zmul x y:Nat):Int)=fi x*fi y:=by
  apply Fin.ext;rw[fi_val,zmod_zmul,Fin.val_mul,fi_val,fi_val];rfl
theorem fi_sub (x y:Int):fi ((zsub x y:Nat):Int)=fi x - fi y:=by
  apply Fin.ext;rw[fi_val,zmod_zsub,zsub_eq,Fin.sub_def];show _=(3329 - (fi y).val+(fi x).val) % 3329;rw[fi_val,fi_val];have:=zmod_lt y;congr 1;omega
theorem fi_inj {x y:Int} (hx:0≤x∧x<3329) (hy:0≤y∧y<3329) (h:fi x=fi y):x=y:=by
  have e:=congrArg Fin.val h;rw[fi_val,fi_val] at e;unfold zmod at e;omega
theorem fi_modn (n:Nat):fi ((n % 3329:Nat):Int)=fi (n:Int):=by apply Fin.ext;rw[fi_val,fi_val,zmod_nat,zmod_nat,Nat.mod_mod]
theorem fi_addn (m n:Nat):fi ((m+n:Nat):Int)=fi (m:Int)+fi (n:Int):=by
  apply Fin.ext;rw[fi_val,zmod_nat,Fin.val_add,fi_val,fi_val,zmod_nat,zmod_nat];omega
theorem fi_muln (m n:Nat):fi ((m*n:Nat):Int)=fi (m:Int)*fi (n:Int):=by
  apply Fin.ext;rw[fi_val,zmod_nat,Fin.val_mul,fi_val,fi_val,zmod_nat,zmod_nat,← Nat.mul_mod]
theorem fi_subn (m n:Nat) (h:n≤3329):fi ((m+3329 - n:Nat):Int)=fi (m:Int) - fi (n:Int):=by
  apply Fin.ext;rw[fi_val,zmod_nat,Fin.sub_def];show _=(3329 - (fi (n:Int)).val+(fi (m:Int)).val) % 3329;rw[fi_val,fi_val,zmod_nat,zmod_nat];omega

/-! ### Lists of 256 -/
def fv (l:List Int) (j:Nat):F:=fi (l.getD j 0)
def tn (l:List Int) (j:Nat):Nat:=(l.getD j 0).toNat
structure Red (l:List Int):Prop where
  len:l.length=256
  rng:∀ j,0≤l.getD j 0∧l.getD j 0<3329
theorem Red.tn {l:List Int} (h:Red l) (j:Nat):l.getD j 0=((tn l j:Nat):Int):=by unfold Rx.tn;have:=h.rng j;omega
theorem Red.lt {l:List Int} (h:Red l) (j:Nat):Rx.tn l j<3329:=by unfold Rx.tn;have:=h.rng j;omega
theorem Red.fv {l:List Int} (h:Red l) (j:Nat):fi ((Rx.tn l j:Nat):Int)=Rx.fv l j:=by rw[Rx.fv,h.tn j]
theorem getS {l:List Int} {i j:Nat} {v:Int} (hi:i<l.length):(l.set i v).getD j 0=if i=j then v else l.getD j 0:=by
  simp only[List.getD_eq_getElem?_getD,List.getElem?_set];by_cases e:i=j
  · subst e;simp[hi]
  · simp[e]
theorem getS' {l:List Int} {i j:Nat} {v:Int}:(l.set i v).getD j 0=if i=j∧i<l.length then v else l.getD j 0:=by
  by_cases hi:i<l.length
  · rw[getS hi];simp[hi]
  · rw[List.set_eq_of_length_le (by omega),if_neg (fun h=>hi h.2)]
theorem Red.set {l:List Int} (h:Red l) (i:Nat) {v:Nat} (hv:v<3329):Red (l.set i (v:Int)):=
  ⟨by rw[List.length_set,h.len],fun j=>by rw[getS'];split;omega;exact h.rng j⟩
theorem red_rep:Red (List.replicate 256 0):=⟨lR,fun j=>by rw[show(List.replicate 256 (0:Int)).getD j 0=0 by rw[List.getD_eq_getElem?_getD,List.getElem?_replicate];split <;> rfl];omega⟩
theorem fv_set {l:List Int} (hl:l.length=256) {i:Nat} (hi:i<256) (v:Int) (j:Nat):fv (l.set i v) j=if i=j then fi v else fv l j:=by
  unfold fv;rw[getS (by omega)];split <;> rfl
theorem fv_rep (j:Nat):fv (List.replicate 256 0) j=0:=by
  unfold fv;rw[show(List.replicate 256 (0:Int)).getD j 0=0 by rw[List.getD_eq_getElem?_getD,List.getElem?_replicate];split <;> rfl];rfl
theorem ext256 {l m:List Int} (hl:l.length=256) (hm:m.length=256) (h:∀ j,j<256→l.getD j 0=m.getD j 0):l=m:=by
  apply List.ext_getElem?;intro j;by_cases hj:j<256
  · have e:=h j hj
    rw[List.getD_eq_getElem?_getD,List.getD_eq_getElem?_getD,List.getElem?_eq_getElem (by omega),List.getElem?_eq_getElem (by omega)] at e;rw[List.getElem?_eq_getElem (by omega),List.getElem?_eq_getElem (by omega)];exact congrArg some e
  · rw[List.getElem?_eq_none (by omega),List.getElem?_eq_none (by omega)]
theorem red_ext {l m:List Int} (hl:Red l) (hm:Red m) (h:∀ j,j<256→fv l j=fv m j):l=m:=
  ext256 hl.len hm.len fun j hj=>fi_inj (hl.rng j) (hm.rng j) (h j hj)

/-! ### Place by place -/
def eaA (o:Int→Int→Nat) (p q:List Int):Nat→List Int
  | 0=>p
  | k+1=>(eaA o p q k).set k ((o ((eaA o p q k).getD k 0) (q.getD k 0):Nat):Int)
theorem eaA_len (o:Int→Int→Nat) (p q:List Int):∀ k,(eaA o p q k).length=p.length
  | 0=>rfl
  | k+1=>by rw[eaA,List.length_set,eaA_len o p q k]
theorem eaA_get (o:Int→Int→Nat) (p q:List Int) (hp:p.length=256):∀ k,k≤256→∀ j,(eaA o p q k).getD j 0=if j<k then((o (p.getD j 0) (q.getD j 0):Nat):Int) else p.getD j 0:=by
  intro k
  induction k with
  | zero=>intro _ j;rw[eaA,if_neg (by omega)]
  | succ k ih=>
    intro hk j;rw[eaA,getS (by rw[eaA_len];omega),ih (by omega) k,if_neg (Nat.lt_irrefl k),ih (by omega) j];by_cases e:k=j
    · subst e;rw[if_pos rfl,if_pos (by omega)]
    · rw[if_neg e]
      by_cases h:j<k
      · rw[if_pos h,if_pos (by omega)]
      · rw[if_neg h,if_neg (by omega)]
def cl (p:List Int):List Int:=eaA (fun x _=>zmod x) p p 256
def pl (p q:List Int):List Int:=eaA zadd p q 256
def mi (p q:List Int):List Int:=eaA zsub p q 256
def scl (p:List Int):List Int:=eaA (fun x _=>zmul x 3303) p p 256
theorem ea_red (o:Int→Int→Nat) (ho:∀ x y,o x y<3329) (p q:List Int) (hp:p.length=256):Red (eaA o p q 256):=
  ⟨by rw[eaA_len,hp],fun j=>by
    rw[eaA_get o p q hp 256 (Nat.le_refl _) j]
    split
    · have:=ho (p.getD j 0) (q.getD j 0);omega
    · rename_i h;rw[List.getD_eq_getElem?_getD,List.getElem?_eq_none (by omega)];exact⟨by decide,by decide⟩⟩
theorem cl_red (p:List Int) (hp:p.length=256):Red (cl p):=ea_red _ (fun x _=>zmod_lt x) p p hp
theorem pl_red (p q:List Int) (hp:p.length=256):Red (pl p q):=ea_red _ (fun _ _=>zmod_lt _) p q hp
theorem mi_red (p q:List Int) (hp:p.length=256):Red (mi p q):=ea_red _ (fun _ _=>zmod_lt _) p q hp
theorem sc_red (p:List Int) (hp:p.length=256):Red (scl p):=ea_red _ (fun _ _=>zmul_lt _ _) p p hp
theorem cl_fv (p:List Int) (hp:p.length=256) (j:Nat) (hj:j<256):fv (cl p) j=fv p j:=by unfold fv cl;rw[eaA_get _ p p hp 256 (Nat.le_refl _) j,if_pos hj,fi_zmod]
theorem pl_fv (p q:List Int) (hp:p.length=256) (j:Nat) (hj:j<256):fv (pl p q) j=fv p j+fv q j:=by unfold fv pl;rw[eaA_get _ p q hp 256 (Nat.le_refl _) j,if_pos hj,fi_add]
theorem mi_fv (p q:List Int) (hp:p.length=256) (j:Nat) (hj:j<256):fv (mi p q) j=fv p j - fv q j:=by unfold fv mi;rw[eaA_get _ p q hp 256 (Nat.le_refl _) j,if_pos hj,fi_sub]
theorem sc_fv (p:List Int) (hp:p.length=256) (j:Nat) (hj:j<256):fv (scl p) j=fv p j*fi 3303:=by unfold fv scl;rw[eaA_get _ p p hp 256 (Nat.le_refl _) j,if_pos hj,fi_mul]
theorem cl_of_red {p:List Int} (h:Red p):cl p=p:=red_ext (cl_red p h.len) h fun j hj=>cl_fv p h.len j hj
/-- The document's sum and difference, of lists that are rests. -/
def rplA (p q:List Int):Nat→List Int
  | 0=>p
  | k+1=>(rplA p q k).set k (((tn (rplA p q k) k+tn q k) % 3329:Nat):Int)
def rmiA (p q:List Int):Nat→List Int
  | 0=>p
  | k+1=>(rmiA p q k).set k (((tn (rmiA p q k) k+3329 - tn q k) % 3329:Nat):Int)
theorem rpl_red {p q:List Int} (hp:Red p):∀ k,Red (rplA p q k)
  | 0=>hp
  | k+1=>(rpl_red hp k).set k (Nat.mod_lt _ (by decide))
theorem rmi_red {p q:List Int} (hp:Red p):∀ k,Red (rmiA p q k)
  | 0=>hp
  | k+1=>(rmi_red hp k).set k (Nat.mod_lt _ (by decide))
theorem rpl_fv {p q:List Int} (hp:Red p) (hq:Red q):∀ k,k≤256→∀ j,fv (rplA p q k) j=if j<k then fv p j+fv q j else fv p j:=by
  intro k
  induction k with
  | zero=>intro _ j;rw[rplA,if_neg (by omega)]
  | succ k ih=>
    intro hk j;rw[rplA,fv_set (rpl_red hp k).len (by omega),fi_modn,fi_addn,(rpl_red hp k).fv,hq.fv,ih (by omega) k,if_neg (Nat.lt_irrefl k),ih (by omega) j];by_cases e:k=j
    · subst e;rw[if_pos rfl,if_pos (by omega)]
    · rw[if_neg e]
      by_cases h:j<k
      · rw[if_pos h,if_pos (by omega)]
      · rw[if_neg h,if_neg (by omega)]
theorem rmi_fv {p q:List Int} (hp:Red p) (hq:Red q):∀ k,k≤256→∀ j,fv (rmiA p q k) j=if j<k then fv p j - fv q j else fv p j:=by
  intro k
  induction k with
  | zero=>intro _ j;rw[rmiA,if_neg (by omega)]
  | succ k ih=>
    intro hk j;rw[rmiA,fv_set (rmi_red hp k).len (by omega),fi_modn,fi_subn _ _ (by have:=hq.lt k;omega),(rmi_red hp k).fv,hq.fv,ih (by omega) k,if_neg (Nat.lt_irrefl k),ih (by omega) j];by_cases e:k=j
    · subst e;rw[if_pos rfl,if_pos (by omega)]
    · rw[if_neg e]
      by_cases h:j<k
      · rw[if_pos h,if_pos (by omega)]
      · rw[if_neg h,if_neg (by omega)]
theorem pl_eq (p q:List Int) (hp:p.length=256) (hq:q.length=256):pl p q=rplA (cl p) (cl q) 256:=
  red_ext (pl_red p q hp) (rpl_red (cl_red p hp) 256) fun j hj=>by rw[pl_fv p q hp j hj,rpl_fv (cl_red p hp) (cl_red q hq) 256 (Nat.le_refl _) j,if_pos hj,cl_fv p hp j hj,cl_fv q hq j hj]
theorem mi_eq (p q:List Int) (hp:p.length=256) (hq:q.length=256):mi p q=rmiA (cl p) (cl q) 256:=
  red_ext (mi_red p q hp) (rmi_red (cl_red p hp) 256) fun j hj=>by rw[mi_fv p q hp j hj,rmi_fv (cl_red p hp) (cl_red q hq) 256 (Nat.le_refl _) j,if_pos hj,cl_fv p hp j hj,cl_fv q hq j hj]

/-! ### There -/
def lenF:Nat→Nat
  | 0=>128
  | i+1=>lenF i / 2
def nbF:Nat→Nat
  | 0=>1
  | i+1=>2*nbF i
def kF:Nat→Nat
  | 0=>1
  | i+1=>kF i+nbF i
theorem F_facts:∀ i,i<7→2*lenF i*nbF i=256∧0<lenF i∧kF i=nbF i∧2≤lenF i∧nbF i≤64∧lenF i≤128:=by decide
theorem F_end:∀ i,i≤7→(2≤lenF i↔i<7)∧lenF i≤128∧kF i≤128:=by decide
theorem blkF (L n b:Nat) (h:2*L*n=256) (hL:0<L):(2*L*b<256→b<n∧2*L*b+2*L≤256)∧(¬2*L*b<256→n≤b):=by
  refine⟨fun hb=>?_,fun hb=>?_⟩
  · have h1:b<n:=Nat.lt_of_mul_lt_mul_left (a:=2*L) (by omega)
    refine⟨h1,?_⟩;have:=Nat.mul_le_mul_left (2*L) (show b+1≤n from h1);rw[Nat.mul_succ] at this;omega
  · exact Nat.le_of_mul_le_mul_left (show 2*L*n≤2*L*b by omega) (by omega)
def bfF (z:Int) (L j:Nat) (q:List Int):List Int:=
  (q.set (j+L) ((zsub (q.getD j 0) ((zmul z (q.getD (j+L) 0):Nat):Int):Nat):Int)).set j
    ((zadd ((q.set (j+L) ((zsub (q.getD j 0) ((zmul z (q.getD (j+L) 0):Nat):Int):Nat):Int)).getD j 0) ((zmul z (q.getD (j+L) 0):Nat):Int):Nat):Int)
def fwB (z:Int) (L s:Nat) (p:List Int):Nat→List Int
  | 0=>p
  | i+1=>bfF z L (s+i) (fwB z L s p i)
def fwS (i:Nat) (p:List Int):Nat→List Int
  | 0=>p
  | b+1=>fwB ((zz ((kF i+b:Nat):Int) 7:Nat):Int) (lenF i) (2*lenF i*b) (fwS i p b) (lenF i)
def fwL (p:List Int):Nat→List Int
  | 0=>cl p
  | i+1=>fwS i (fwL p i) (nbF i)
def fwd (p:List Int):List Int:=fwL p 7
theorem bfF_len (z:Int) (L j:Nat) (q:List Int):(bfF z L j q).length=q.length:=by unfold bfF;rw[List.length_set,List.length_set]
theorem fwB_len (z:Int) (L s:Nat) (p:List Int):∀ i,(fwB z L s p i).length=p.length
  | 0=>rfl
  | i+1=>by rw[fwB,bfF_len,fwB_len z L s p i]
theorem fwS_len (i:Nat) (p:List Int):∀ b,(fwS i p b).length=p.length
  | 0=>rfl
  | b+1=>by rw[fwS,fwB_len,fwS_len i p b]
theorem fwL_len (p:List Int):∀ i,(fwL p i).length=p.length
  | 0=>eaA_len _ _ _ _
  | i+1=>by rw[fwL,fwS_len,fwL_len p i]
theorem bfF_red (z:Int) (L j:Nat) {q:List Int} (h:Red q):Red (bfF z L j q):=(h.set _ (zmod_lt _)).set _ (zmod_lt _)
theorem fwB_red (z:Int) (L s:Nat) {p:List Int} (h:Red p):∀ i,Red (fwB z L s p i)
  | 0=>h
  | i+1=>bfF_red _ _ _ (fwB_red z L s h i)
theorem fwS_red (i:Nat) {p:List Int} (h:Red p):∀ b,Red (fwS i p b)
  | 0=>h
  | b+1=>fwB_red _ _ _ (fwS_red i h b) _
theorem fwL_red (p:List Int) (hp:p.length=256):∀ i,Red (fwL p i)
  | 0=>cl_red p hp
  | i+1=>fwS_red i (fwL_red p hp i) _
theorem bfF_fv (z:Int) (L j:Nat) (q:List Int) (hq:q.length=256) (hL:0<L) (hj:j+L<256) (k:Nat):fv (bfF z L j q) k=if k=j then fv q j+fi z*fv q (j+L) else if k=j+L then fv q j - fi z*fv q (j+L) else fv q k:=by
  unfold bfF;rw[fv_set (by rw[List.length_set,hq]) (by omega),fi_add,fi_mul,getS (by omega),if_neg (show ¬j+L=j by omega),fv_set hq hj,fi_sub,fi_mul];by_cases h1:k=j
  · subst h1;rw[if_pos rfl,if_pos rfl];rfl
  · rw[if_neg (show ¬j=k from fun e=>h1 e.symm),if_neg (show ¬k=j from h1)]
    by_cases h2:k=j+L
    · subst h2;rw[if_pos rfl,if_pos rfl];rfl
    · rw[if_neg (show ¬j+L=k from fun e=>h2 e.symm),if_neg h2]
theorem fwB_fv (z:Int) (L s:Nat) (p:List Int) (hp:p.length=256) (hL:0<L) (hs:s+2*L≤256):∀ i,i≤L→∀ k,fv (fwB z L s p i) k=if s≤k∧k<s+i then fv p k+fi z*fv p (k+L) else if s+L≤k∧k<s+L+i then fv p (k - L) - fi z*fv p k else fv p k:=by
  intro i
  induction i with
  | zero=>intro _ k;rw[fwB,if_neg (by omega),if_neg (by omega)]
  | succ i ih=>
    intro hi k;have a0:fv (fwB z L s p i) (s+i)=fv p (s+i):=by rw[ih (by omega),if_neg (by omega),if_neg (by omega)]
    have a1:fv (fwB z L s p i) (s+i+L)=fv p (s+i+L):=by rw[ih (by omega),if_neg (by omega),if_neg (by omega)]
    rw[fwB,bfF_fv z L (s+i) _ (by rw[fwB_len,hp]) hL (by omega) k,a0,a1,ih (by omega) k];by_cases h1:k=s+i
    · subst h1;rw[if_pos rfl,if_pos (by omega)]
    · rw[if_neg h1]
      by_cases h2:k=s+i+L
      · subst h2;rw[if_pos rfl,if_neg (by omega),if_pos (by omega),Nat.add_sub_cancel]
      · rw[if_neg h2]
        by_cases h3:s≤k∧k<s+i
        · rw[if_pos h3,if_pos (show s≤k∧k<s+(i+1) by omega)]
        · rw[if_neg h3,if_neg (show ¬(s≤k∧k<s+(i+1)) by omega)]
          by_cases h4:s+L≤k∧k<s+L+i
          · rw[if_pos h4,if_pos (show s+L≤k∧k<s+L+(i+1) by omega)]
          · rw[if_neg h4,if_neg (show ¬(s+L≤k∧k<s+L+(i+1)) by omega)]
def zF (i b:Nat):F:=fi ((zz ((kF i+b:Nat):Int) 7:Nat):Int)
theorem fwS_fv (i:Nat) (hi:i<7) (p:List Int) (hp:p.length=256):∀ b,b≤nbF i→∀ k,fv (fwS i p b) k=if k<2*lenF i*b then fl (zF i) (lenF i) (fv p) k else fv p k:=by
  obtain⟨f1,f2,_,_,_,_⟩:=F_facts i hi;intro b
  induction b with
  | zero=>intro _ k;rw[fwS,if_neg (by omega)]
  | succ b ih=>
    intro hb k;have hlt:2*lenF i*b<256:=by rw[← f1];exact Nat.mul_lt_mul_of_pos_left (by omega) (by omega)
    have h2:=((blkF (lenF i) (nbF i) b f1 f2).1 hlt).2;have e:∀ k,¬k<2*lenF i*b→fv (fwS i p b) k=fv p k:=fun k h=>by rw[ih (by omega) k,if_neg h]
    rw[fwS,fwB_fv _ _ _ _ (by rw[fwS_len,hp]) f2 h2 _ (Nat.le_refl _) k,Nat.mul_succ];by_cases h3:k<2*lenF i*b
    · rw[if_neg (by omega),if_neg (by omega),ih (by omega) k,if_pos h3,if_pos (by omega)]
    · by_cases h4:k<2*lenF i*b+2*lenF i
      · have hdiv:k / (2*lenF i)=b:=Nat.div_eq_of_lt_le (by rw[Nat.mul_comm];omega) (by rw[Nat.mul_comm,Nat.mul_succ];omega)
        have hmod:k % (2*lenF i)=k - 2*lenF i*b:=by have:=Nat.div_add_mod k (2*lenF i);rw[hdiv] at this;omega
        rw[if_pos h4];unfold fl;rw[hdiv,hmod];by_cases h5:k<2*lenF i*b+lenF i
        · rw[if_pos (by omega),if_pos (by omega),e k h3,e (k+lenF i) (by omega)];rfl
        · rw[if_neg (by omega),if_pos (by omega),if_neg (by omega),e k h3,e (k - lenF i) (by omega)];rfl
      · rw[if_neg (by omega),if_neg (by omega),if_neg h4,e k h3]
theorem fwL_fv (p:List Int) (hp:p.length=256) (i:Nat) (hi:i<7) (k:Nat) (hk:k<256):fv (fwL p (i+1)) k=fl (zF i) (lenF i) (fv (fwL p i)) k:=by
  rw[fwL,fwS_fv i hi _ (by rw[fwL_len,hp]) (nbF i) (Nat.le_refl _) k,(F_facts i hi).1,if_pos hk]

/-! ### And back -/
def lenI:Nat→Nat
  | 0=>2
  | i+1=>lenI i*2
def nbI:Nat→Nat
  | 0=>64
  | i+1=>nbI i / 2
def kI:Nat→Nat
  | 0=>127
  | i+1=>kI i - nbI i
theorem I_facts:∀ i,i<7→2*lenI i*nbI i=256∧0<lenI i∧nbI i≤kI i∧lenI i≤128∧nbI i≤64∧kI i≤127:=by decide
theorem I_end:∀ i,i≤7→(lenI i≤128↔i<7)∧kI i≤127∧lenI i≤256:=by decide
def bfI (z:Int) (L j:Nat) (q:List Int):List Int:=
  (q.set j ((zadd (q.getD j 0) (q.getD (j+L) 0):Nat):Int)).set (j+L)
    ((zmul z ((zsub ((q.set j ((zadd (q.getD j 0) (q.getD (j+L) 0):Nat):Int)).getD (j+L) 0) (q.getD j 0):Nat):Int):Nat):Int)
def ivB (z:Int) (L s:Nat) (p:List Int):Nat→List Int
  | 0=>p
  | i+1=>bfI z L (s+i) (ivB z L s p i)
def ivS (i:Nat) (p:List Int):Nat→List Int
  | 0=>p
  | b+1=>ivB ((zz ((kI i - b:Nat):Int) 7:Nat):Int) (lenI i) (2*lenI i*b) (ivS i p b) (lenI i)
def ivL (p:List Int):Nat→List Int
  | 0=>cl p
  | i+1=>ivS i (ivL p i) (nbI i)
def inv (p:List Int):List Int:=scl (ivL p 7)
theorem bfI_len (z:Int) (L j:Nat) (q:List Int):(bfI z L j q).length=q.length:=by unfold bfI;rw[List.length_set,List.length_set]
theorem ivB_len (z:Int) (L s:Nat) (p:List Int):∀ i,(ivB z L s p i).length=p.length
  | 0=>rfl
  | i+1=>by rw[ivB,bfI_len,ivB_len z L s p i]
theorem ivS_len (i:Nat) (p:List Int):∀ b,(ivS i p b).length=p.length
  | 0=>rfl
  | b+1=>by rw[ivS,ivB_len,ivS_len i p b]
theorem ivL_len (p:List Int):∀ i,(ivL p i).length=p.length
  | 0=>eaA_len _ _ _ _
  | i+1=>by rw[ivL,ivS_len,ivL_len p i]
theorem bfI_fv (z:Int) (L j:Nat) (q:List Int) (hq:q.length=256) (hL:0<L) (hj:j+L<256) (k:Nat):fv (bfI z L j q) k=if k=j then fv q j+fv q (j+L) else if k=j+L then fi z*(fv q (j+L) - fv q j) else fv q k:=by
  unfold bfI;rw[fv_set (by rw[List.length_set,hq]) hj,fi_mul,fi_sub,getS (by omega),if_neg (show ¬j=j+L by omega),fv_set hq (by omega),fi_add];by_cases h1:k=j
  · subst h1;rw[if_neg (show ¬k+L=k by omega),if_pos rfl,if_pos rfl];rfl
  · by_cases h2:k=j+L
    · subst h2;rw[if_pos rfl,if_neg h1,if_pos rfl];rfl
    · rw[if_neg (show ¬j+L=k from fun e=>h2 e.symm),if_neg (show ¬j=k from fun e=>h1 e.symm),if_neg h1,if_neg h2]
theorem ivB_fv (z:Int) (L s:Nat) (p:List Int) (hp:p.length=256) (hL:0<L) (hs:s+2*L≤256):∀ i,i≤L→∀ k,fv (ivB z L s p i) k=if s≤k∧k<s+i then fv p k+fv p (k+L) else if s+L≤k∧k<s+L+i then fi z*(fv p k - fv p (k - L)) else fv p k:=by
  intro i
  induction i with
  | zero=>intro _ k;rw[ivB,if_neg (by omega),if_neg (by omega)]
  | succ i ih=>
    intro hi k;have a0:fv (ivB z L s p i) (s+i)=fv p (s+i):=by rw[ih (by omega),if_neg (by omega),if_neg (by omega)]
    have a1:fv (ivB z L s p i) (s+i+L)=fv p (s+i+L):=by rw[ih (by omega),if_neg (by omega),if_neg (by omega)]
    rw[ivB,bfI_fv z L (s+i) _ (by rw[ivB_len,hp]) hL (by omega) k,a0,a1,ih (by omega) k];by_cases h1:k=s+i
    · subst h1;rw[if_pos rfl,if_pos (by omega)]
    · rw[if_neg h1]
      by_cases h2:k=s+i+L
      · subst h2;rw[if_pos rfl,if_neg (by omega),if_pos (by omega),Nat.add_sub_cancel]
      · rw[if_neg h2]
        by_cases h3:s≤k∧k<s+i
        · rw[if_pos h3,if_pos (show s≤k∧k<s+(i+1) by omega)]
        · rw[if_neg h3,if_neg (show ¬(s≤k∧k<s+(i+1)) by omega)]
          by_cases h4:s+L≤k∧k<s+L+i
          · rw[if_pos h4,if_pos (show s+L≤k∧k<s+L+(i+1) by omega)]
          · rw[if_neg h4,if_neg (show ¬(s+L≤k∧k<s+L+(i+1)) by omega)]
def zI (i b:Nat):F:=fi ((zz ((kI i - b:Nat):Int) 7:Nat):Int)
theorem ivS_fv (i:Nat) (hi:i<7) (p:List Int) (hp:p.length=256):∀ b,b≤nbI i→∀ k,fv (ivS i p b) k=if k<2*lenI i*b then il (zI i) (lenI i) (fv p) k else fv p k:=by
  obtain⟨f1,f2,_,_,_,_⟩:=I_facts i hi;intro b
  induction b with
  | zero=>intro _ k;rw[ivS,if_neg (by omega)]
  | succ b ih=>
    intro hb k;have hlt:2*lenI i*b<256:=by rw[← f1];exact Nat.mul_lt_mul_of_pos_left (by omega) (by omega)
    have h2:=((blkF (lenI i) (nbI i) b f1 f2).1 hlt).2;have e:∀ k,¬k<2*lenI i*b→fv (ivS i p b) k=fv p k:=fun k h=>by rw[ih (by omega) k,if_neg h]
    rw[ivS,ivB_fv _ _ _ _ (by rw[ivS_len,hp]) f2 h2 _ (Nat.le_refl _) k,Nat.mul_succ];by_cases h3:k<2*lenI i*b
    · rw[if_neg (by omega),if_neg (by omega),ih (by omega) k,if_pos h3,if_pos (by omega)]
    · by_cases h4:k<2*lenI i*b+2*lenI i
      · have hdiv:k / (2*lenI i)=b:=Nat.div_eq_of_lt_le (by rw[Nat.mul_comm];omega) (by rw[Nat.mul_comm,Nat.mul_succ];omega)
        have hmod:k % (2*lenI i)=k - 2*lenI i*b:=by have:=Nat.div_add_mod k (2*lenI i);rw[hdiv] at this;omega
        rw[if_pos h4];unfold il;rw[hdiv,hmod];by_cases h5:k<2*lenI i*b+lenI i
        · rw[if_pos (by omega),if_pos (by omega),e k h3,e (k+lenI i) (by omega)]
        · rw[if_neg (by omega),if_pos (by omega),if_neg (by omega),e k h3,e (k - lenI i) (by omega)];rfl
      · rw[if_neg (by omega),if_neg (by omega),if_neg h4,e k h3]
theorem ivL_fv (p:List Int) (hp:p.length=256) (i:Nat) (hi:i<7) (k:Nat) (hk:k<256):fv (ivL p (i+1)) k=il (zI i) (lenI i) (fv (ivL p i)) k:=by
  rw[ivL,ivS_fv i hi _ (by rw[ivL_len,hp]) (nbI i) (Nat.le_refl _) k,(I_facts i hi).1,if_pos hk]
end Go.Rx

/- Plain laws of layer 11. No program and no memory here. -/
set_option maxRecDepth 100000
set_option exponentiation.threshold 4000
namespace Go.Rx
open Go.Rx.Na

/-! ### There: what a polynomial is by its factors -/
def rootN (i:Nat):Nat:=rpow 17 (2*turned ((i:Nat):Int)+1)
def zr (i:Nat):F:=fi ((rootN i:Nat):Int)
def wF:Nat→Nat→F
  | 0,_=> -1
  | i+1,b=>if b % 2=0 then zF i (b / 2) else - zF i (b / 2)
theorem wF_sq:∀ i,i<7→∀ b,b<nbF i→zF i b*zF i b=wF i b:=by decide+kernel
theorem lenF_half:∀ i,i<7→2*lenF (i+1)=lenF i:=by decide
theorem roots:∀ b,b<128→wF 7 b=zr b:=by decide+kernel
theorem fwL_inv (p:List Int) (hp:p.length=256):∀ i,i≤7→∀ b,b<nbF i→∀ m,m<2*lenF i→fv (fwL p i) (b*(2*lenF i)+m)=evX (fv p) (2*lenF i) (nbF i) (wF i b) m:=by
  intro i
  induction i with
  | zero=>
    intro _ b hb m hm;simp only[nbF,lenF] at hb hm ⊢;rw[show b=0 by omega,Nat.zero_mul,Nat.zero_add,fwL,cl_fv p hp m (by omega)];simp only[evX,sm];rw[Nat.zero_mul,Nat.add_zero,pwZ];grind
  | succ i ih=>
    intro hi b hb m hm;obtain⟨f1,f2,_,_,_,_⟩:=F_facts i (by omega);have hh:=lenF_half i (by omega);have hj:b*lenF i+m<256:=by
      have h1:=Nat.mul_le_mul_right (lenF i) (show b+1≤2*nbF i from hb);rw[Nat.add_mul,Nat.one_mul,Nat.mul_right_comm] at h1;omega
    rw[hh,fwL_fv p hp i (by omega) _ hj];exact layer_step (fv p) (fv (fwL p i)) (lenF i) (nbF i) f2 (zF i) (wF i) (wF (i+1)) (ih (by omega)) (wF_sq i (by omega)) (fun b _=>by simp only[wF];rw[if_pos (by omega),show 2*b / 2=b by omega]) (fun b _=>by simp only[wF];rw[if_neg (by omega),show(2*b+1) / 2=b by omega]) b hb m (by omega)
theorem fwd_fv (p:List Int) (hp:p.length=256) (b m:Nat) (hb:b<128) (hm:m<2):fv (fwd p) (2*b+m)=ev2 (fv p) (zr b) m:=by
  have h:=fwL_inv p hp 7 (Nat.le_refl _) b hb m hm;rw[roots b hb] at h;rw[← ev2_eq,Nat.mul_comm 2 b];exact h
theorem fwd_red (p:List Int) (hp:p.length=256):Red (fwd p):=fwL_red p hp 7
def hzA (l:List Int) (z m:Nat):Nat→Nat
  | 0=>0
  | t+1=>(hzA l z m t*z+tn l (2*(127 - t)+m)) % 3329
theorem hzA_lt (l:List Int) (z m:Nat):∀ t,hzA l z m t<3329
  | 0=>(by decide:0<3329)
  | t+1=>Nat.mod_lt _ (by decide)
theorem hz_ev {l:List Int} (hl:Red l) (z m:Nat):∀ t,t≤128→fi ((hzA l z m t:Nat):Int)=sm (fun q=>fv l (2*(128 - t+q)+m)*fi (z:Int) ^ q) t
  | 0,_=>rfl
  | t+1,h=>by
    rw[hzA,fi_modn,fi_addn,fi_muln,hl.fv,hz_ev hl z m t (by omega),sm_left];rw[sm_congr (f:=fun i=>fv l (2*(128 - (t+1)+(i+1))+m)*fi (z:Int) ^ (i+1)) (g:=fun q=>fi (z:Int)*(fv l (2*(128 - t+q)+m)*fi (z:Int) ^ q)) t (fun q _=>by rw[show 128 - (t+1)+(q+1)=128 - t+q by omega,pwS];grind)];rw[sm_mul,pwZ,show 128 - (t+1)+0=127 - t by omega]
    grind
def rfwA (p:List Int):Nat→List Int
  | 0=>List.replicate 256 0
  | i+1=>((rfwA p i).set (2*i) ((hzA p (rootN i) 0 128:Nat):Int)).set (2*i+1) ((hzA p (rootN i) 1 128:Nat):Int)
theorem rfw_red (p:List Int):∀ i,Red (rfwA p i)
  | 0=>red_rep
  | i+1=>((rfw_red p i).set _ (hzA_lt _ _ _ _)).set _ (hzA_lt _ _ _ _)
theorem rfw_fv {p:List Int} (hp:Red p):∀ n,n≤128→∀ b m,m<2→b<n→fv (rfwA p n) (2*b+m)=ev2 (fv p) (zr b) m:=by
  intro n
  induction n with
  | zero=>intro _ b m _ hb;omega
  | succ n ih=>
    intro hn b m hm hb;rw[rfwA,fv_set (by rw[List.length_set,(rfw_red p n).len]) (by omega),fv_set (rfw_red p n).len (by omega)];have hv:∀ m,fi ((hzA p (rootN n) m 128:Nat):Int)=ev2 (fv p) (zr n) m:=fun m=>by
      rw[hz_ev hp _ m 128 (Nat.le_refl _)];exact sm_congr 128 fun q _=>by rw[show 2*(128 - 128+q)+m=m+2*q by omega];rfl
    by_cases e:b=n
    · subst e
      match m,hm with
      | 0,_=>rw[if_neg (by omega),if_pos (by omega),hv]
      | 1,_=>rw[if_pos rfl,hv]
    · rw[if_neg (by omega),if_neg (by omega)];exact ih (by omega) b m hm (by omega)
theorem fwd_eq (p:List Int) (hp:p.length=256):fwd p=rfwA (cl p) 128:=
  red_ext (fwd_red p hp) (rfw_red _ _) fun j hj=>by
    have h1:=fwd_fv p hp (j / 2) (j % 2) (by omega) (by omega);have h2:=rfw_fv (cl_red p hp) 128 (Nat.le_refl _) (j / 2) (j % 2) (by omega) (by omega);rw[show 2*(j / 2)+j % 2=j by omega] at h1 h2;rw[h1,h2];exact sm_congr 128 fun q _=>by rw[cl_fv p hp _ (by omega)]

/-! ### And back -/
theorem len_turn:∀ i,i<7→lenI i=lenF (6 - i)∧nbI i=nbF (6 - i):=by decide
theorem zz_turn:∀ i,i<7→∀ b,b<nbI i→zI i b*zF (6 - i) b= -1:=by decide+kernel
theorem div_lt_nb (L n j:Nat) (h:2*L*n=256) (hj:j<256):j / (2*L)<n:=Nat.div_lt_of_lt_mul (by omega)
theorem inv_fwd_aux (p:List Int) (hp:p.length=256):∀ i,i≤7→∀ j,j<256→fv (ivL (fwd p) i) j=(2:F) ^ i*fv (fwL p (7 - i)) j:=by
  intro i
  induction i with
  | zero=>intro _ j hj;rw[ivL,cl_fv _ (fwd_red p hp).len j hj,pwZ];show fv (fwL p 7) j=_;grind
  | succ i ih=>
    intro hi j hj;obtain⟨f1,f2,_,_,_,_⟩:=I_facts i (by omega);obtain⟨t1,t2⟩:=len_turn i (by omega);rw[ivL_fv _ (fwd_red p hp).len i (by omega) j hj];rw[il_congr (zI i) (zI i) (lenI i) (nbI i) f2 f1 _ (fun j=>(2:F) ^ i*fl (zF (6 - i)) (lenI i) (fv (fwL p (6 - i))) j) (fun _ _=>rfl) (fun j hj=>by
      rw[ih (by omega) j hj,show 7 - i=(6 - i)+1 by omega,fwL_fv p hp (6 - i) (by omega) j hj,t1]) j hj]
    rw[il_scale,il_fl _ _ _ f2 _ j (zz_turn i (by omega) _ (div_lt_nb _ _ j f1 hj)),pwS,show 7 - (i+1)=6 - i by omega];grind
theorem c128:(2:F) ^ 7*fi 3303=1:=by decide+kernel
theorem inv_red (p:List Int) (hp:p.length=256):Red (inv p):=sc_red _ (by rw[ivL_len,hp])
theorem inv_fwd (p:List Int) (hp:p.length=256):inv (fwd p)=cl p:=
  red_ext (inv_red _ (fwd_red p hp).len) (cl_red p hp) fun j hj=>by
    rw[inv,sc_fv _ (by rw[ivL_len,(fwd_red p hp).len]) j hj,inv_fwd_aux p hp 7 (Nat.le_refl _) j hj];show(2:F) ^ 7*fv (cl p) j*fi 3303=_;have:=c128;grind
theorem fwd_inv_aux (p:List Int) (hp:p.length=256):∀ i,i≤7→∀ j,j<256→fv (fwL (inv p) i) j=fi 3303*(2:F) ^ i*fv (ivL p (7 - i)) j:=by
  intro i
  induction i with
  | zero=>intro _ j hj;rw[fwL,cl_fv _ (inv_red p hp).len j hj,pwZ,inv,sc_fv _ (by rw[ivL_len,hp]) j hj];show fv (ivL p 7) j*_=_;grind
  | succ i ih=>
    intro hi j hj;obtain⟨f1,f2,_,_,_,_⟩:=F_facts i (by omega);obtain⟨t1,t2⟩:=len_turn (6 - i) (by omega);rw[show 6 - (6 - i)=i by omega] at t1 t2;rw[fwL_fv _ (inv_red p hp).len i (by omega) j hj];rw[fl_congr (zF i) (zF i) (lenF i) (nbF i) f2 f1 _ (fun j=>fi 3303*(2:F) ^ i*il (zI (6 - i)) (lenF i) (fv (ivL p (6 - i))) j) (fun _ _=>rfl) (fun j hj=>by
      rw[ih (by omega) j hj,show 7 - i=(6 - i)+1 by omega,ivL_fv p hp (6 - i) (by omega) j hj,t1]) j hj]
    have hz:=zz_turn (6 - i) (by omega) (j / (2*lenF i)) (by rw[t2];exact div_lt_nb _ _ j f1 hj);rw[show 6 - (6 - i)=i by omega] at hz;rw[fl_scale,fl_il _ _ _ f2 _ j hz,pwS,show 7 - (i+1)=6 - i by omega];grind
theorem fwd_inv (p:List Int) (hp:p.length=256):fwd (inv p)=cl p:=
  red_ext (fwd_red _ (inv_red p hp).len) (cl_red p hp) fun j hj=>by
    rw[fwd,fwd_inv_aux p hp 7 (Nat.le_refl _) j hj];show fi 3303*(2:F) ^ 7*fv (cl p) j=_;have:=c128;grind
theorem inv_cl (p:List Int) (hp:p.length=256):inv (cl p)=inv p:=by
  have e:∀ i,ivL (cl p) i=ivL p i:=by
    intro i
    induction i with
    | zero=>rw[ivL,ivL,cl_of_red (cl_red p hp)]
    | succ i ih=>rw[ivL,ivL,ih]
  rw[inv,inv,e]

/-- w(i): the root's inverse. -/
def wN (i:Nat):Nat:=rpow ((rootN i:Nat):Int) 255
def wi (i:Nat):F:=fi ((wN i:Nat):Int)
def zt:List Nat:=[17,3312,2761,568,583,2746,2649,680,1637,1692,723,2606,2288,1041,1100,2229,1409,1920,2662,667,3281,48,233,3096,756,2573,2156,1173,3015,314,3050,279,1703,1626,1651,1678,2789,540,1789,1540,1847,1482,952,2377,1461,1868,2687,642,939,2390,2308,1021,2437,892,2388,941,733,2596,2337,992,268,3061,641,2688,1584,1745,2298,1031,2037,1292,3220,109,375,2954,2549,780,2090,1239,1645,1684,1063,2266,319,3010,2773,556,757,2572,2099,1230,561,2768,2466,863,2594,735,2804,525,1092,2237,403,2926,1026,2303,1143,2186,2150,1179,2775,554,886,2443,1722,1607,1212,2117,1874,1455,1029,2300,2110,1219,2935,394,885,2444,2154,1175]
theorem zt_roots:∀ i,i<128→rootN i=zt.getD i 0:=by decide+kernel
theorem zt_nodup:zt.Nodup:=by decide+kernel
theorem zt_lt:∀ i,i<128→zt.getD i 0<3329:=by decide+kernel
theorem zt_inj (i b:Nat) (hi:i<128) (hb:b<128) (h:zt.getD i 0=zt.getD b 0):i=b:=by
  have h1:i<zt.length:=hi;have h2:b<zt.length:=hb;rw[List.getD_eq_getElem?_getD,List.getD_eq_getElem?_getD,List.getElem?_eq_getElem h1,List.getElem?_eq_getElem h2] at h;exact(List.getElem_inj zt_nodup).1 h
theorem wz_one:∀ i,i<128→wN i*rootN i % 3329=1:=by decide+kernel
theorem rr_m:∀ i,i<128→rootN i ^ 128 % 3329=3328∧wN i ^ 128 % 3329=3328:=by decide+kernel
theorem fi_pow (n k:Nat):fi (n:Int) ^ k=fi ((n ^ k:Nat):Int):=by
  induction k with
  | zero=>rw[pwZ,Nat.pow_zero];rfl
  | succ k ih=>rw[pwS,ih,Nat.pow_succ,fi_muln]
theorem fi_eq {m n:Nat} (h:m % 3329=n % 3329):fi (m:Int)=fi (n:Int):=by rw[← fi_modn,h,fi_modn]
theorem wz (i:Nat) (hi:i<128):wi i*zr i=1:=by
  rw[wi,zr,← fi_muln,fi_eq (n:=1) (by rw[wz_one i hi])];rfl
theorem zr128 (i:Nat) (hi:i<128):zr i ^ 128= -1:=by rw[zr,fi_pow,fi_eq (n:=3328) (by rw[(rr_m i hi).1])];decide
theorem wi128 (i:Nat) (hi:i<128):wi i ^ 128= -1:=by rw[wi,fi_pow,fi_eq (n:=3328) (by rw[(rr_m i hi).2])];decide
theorem zr_inj (i b:Nat) (hi:i<128) (hb:b<128) (h:zr i=zr b):i=b:=by
  rw[zr,zr,zt_roots i hi,zt_roots b hb] at h;have h3:=zt_lt i hi;have h4:=zt_lt b hb;have h5:=fi_inj (x:=((zt.getD i 0:Nat):Int)) (y:=((zt.getD b 0:Nat):Int)) (by omega) (by omega) h;exact zt_inj i b hi hb (by omega)
theorem f_inv (x:F) (h:x≠0):∃ y:F,y*x=1:=by
  have hx:x=fi ((x.val:Nat):Int):=by apply Fin.ext;rw[fi_val,zmod_nat,Nat.mod_eq_of_lt x.isLt]
  have h0:x.val≠0:=fun e=>h (Fin.ext e);refine⟨fi ((x.val ^ 3327:Nat):Int),?_⟩;have e:fi ((x.val ^ 3327:Nat):Int)*fi ((x.val:Nat):Int)=1:=by
    rw[← fi_muln,← Nat.pow_succ,fi_eq (n:=1) (by rw[fermat _ h0 x.isLt])];rfl
  rw[← hx] at e;exact e
theorem pow_tele (r:F):∀ n,(r - 1)*sm (fun j=>r ^ j) n=r ^ n - 1
  | 0=>by rw[pwZ];simp only[sm];grind
  | n+1=>by
    have h:=pow_tele r n;rw[sm,pwS];grind
theorem mul_pow (a b:F) (n:Nat):(a*b) ^ n=a ^ n*b ^ n:=by
  induction n with
  | zero=>rw[pwZ,pwZ,pwZ];grind
  | succ n ih=>rw[pwS,pwS,pwS,ih];grind
theorem sm_ones:∀ n:Nat,sm (fun j=>(1:F) ^ j) n=fi (n:Int)
  | 0=>rfl
  | n+1=>by
    have h1:(1:F) ^ n=1:=by
      induction n with
      | zero=>rw[pwZ]
      | succ n ih=>rw[pwS,ih];grind
    rw[sm,sm_ones n,fi_addn,h1];rfl
/-- Orthogonality. -/
theorem orth (i b:Nat) (hi:i<128) (hb:b<128):fi 3303*sm (fun j=>(wi i*zr b) ^ j) 128=if i=b then 1 else 0:=by
  by_cases e:i=b
  · subst e
    rw[if_pos rfl,wz i hi,sm_ones];decide+kernel
  · rw[if_neg e]
    have h1:=pow_tele (wi i*zr b) 128;rw[mul_pow,wi128 i hi,zr128 b hb] at h1;have hne:wi i*zr b - 1≠0:=fun h=>e (zr_inj i b hi hb (by have:=wz i hi;grind));obtain⟨y,hy⟩:=f_inv _ hne
    grind
end Go.Rx

/- Plain laws of layer 11: the document's way back, products, powers of X. No program and no memory here. -/
set_option maxRecDepth 100000
set_option linter.unusedVariables false
set_option exponentiation.threshold 4000
namespace Go.Rx
open Go.Rx.Na

/-! ### The document's way back -/
def riK (w:Nat):Nat→Nat
  | 0=>3303
  | j+1=>riK w j*w % 3329
def riJ (p:List Int) (i:Nat) (out:List Int):Nat→List Int
  | 0=>out
  | j+1=>((riJ p i out j).set (2*j) (((tn (riJ p i out j) (2*j)+tn p (2*i)*riK (wN i) j) % 3329:Nat):Int)).set (2*j+1)
      (((tn ((riJ p i out j).set (2*j) (((tn (riJ p i out j) (2*j)+tn p (2*i)*riK (wN i) j) % 3329:Nat):Int)) (2*j+1)+tn p (2*i+1)*riK (wN i) j) % 3329:Nat):Int)
def rivA (p:List Int):Nat→List Int
  | 0=>List.replicate 256 0
  | i+1=>riJ p i (rivA p i) 128
theorem riK_lt (w:Nat):∀ j,riK w j<3329
  | 0=>(by decide:3303<3329)
  | j+1=>Nat.mod_lt _ (by decide)
theorem riK_fi (w:Nat):∀ j,fi ((riK w j:Nat):Int)=fi 3303*fi (w:Int) ^ j
  | 0=>by rw[pwZ];simp only[riK];show fi 3303=_;grind
  | j+1=>by rw[riK,fi_modn,fi_muln,riK_fi w j,pwS];grind
theorem riJ_red (p:List Int) (i:Nat) {out:List Int} (h:Red out):∀ j,Red (riJ p i out j)
  | 0=>h
  | j+1=>((riJ_red p i h j).set _ (Nat.mod_lt _ (by decide))).set _ (Nat.mod_lt _ (by decide))
theorem riv_red (p:List Int):∀ i,Red (rivA p i)
  | 0=>red_rep
  | i+1=>riJ_red p i (riv_red p i) 128
theorem riJ_fv {p:List Int} (hp:Red p) (i:Nat) {out:List Int} (h:Red out):∀ n,n≤128→∀ j m,m<2→j<128→fv (riJ p i out n) (2*j+m)=if j<n then fv out (2*j+m)+fv p (2*i+m)*(fi 3303*wi i ^ j) else fv out (2*j+m):=by
  intro n
  induction n with
  | zero=>intro _ j m _ _;rw[riJ,if_neg (by omega)]
  | succ n ih=>
    intro hn j m hm hj;have hr:=riJ_red p i h n;have hk:=riK_fi (wN i) n;rw[riJ];have e1:Red ((riJ p i out n).set (2*n) (((tn (riJ p i out n) (2*n)+tn p (2*i)*riK (wN i) n) % 3329:Nat):Int)):=hr.set _ (Nat.mod_lt _ (by decide));rw[fv_set e1.len (by omega),fi_modn,fi_addn,fi_muln,e1.fv,hp.fv,hk,fv_set hr.len (by omega),fv_set hr.len (by omega),fi_modn,fi_addn,fi_muln,hr.fv,hp.fv,hk,if_neg (show ¬2*n=2*n+1 by omega)];have i0:=ih (by omega) n 0 (by decide) (by omega);have i1:=ih (by omega) n 1 (by decide) (by omega);rw[if_neg (Nat.lt_irrefl n),Nat.add_zero] at i0;rw[if_neg (Nat.lt_irrefl n)] at i1;by_cases e:j=n
    · subst e
      rw[if_pos (show j<j+1 by omega)]
      match m,hm with
      | 0,_=>rw[if_neg (show ¬2*j+1=2*j+0 by omega),if_pos (show 2*j=2*j+0 by omega),i0];rfl
      | 1,_=>rw[if_pos rfl,i1];rfl
    · rw[if_neg (show ¬2*n+1=2*j+m by omega),if_neg (show ¬2*n=2*j+m by omega),ih (by omega) j m hm hj]
      by_cases hl:j<n
      · rw[if_pos hl,if_pos (show j<n+1 by omega)]
      · rw[if_neg hl,if_neg (show ¬j<n+1 by omega)]
theorem riv_fv {p:List Int} (hp:Red p):∀ n,n≤128→∀ j m,m<2→j<128→fv (rivA p n) (2*j+m)=sm (fun i=>fv p (2*i+m)*(fi 3303*wi i ^ j)) n
  | 0,_,j,m,_,_=>fv_rep _
  | n+1,h,j,m,hm,hj=>by rw[rivA,riJ_fv hp n (riv_red p n) 128 (Nat.le_refl _) j m hm hj,if_pos hj,riv_fv hp n (by omega) j m hm hj,sm]
theorem cm (x y:F):x*y=y*x:=by grind
theorem fwd_riv (p:List Int) (hp:Red p):fwd (rivA p 128)=p:=
  red_ext (fwd_red _ (riv_red p 128).len) hp fun j hj=>by
    have h1:=fwd_fv (rivA p 128) (riv_red p 128).len (j / 2) (j % 2) (by omega) (by omega);rw[show 2*(j / 2)+j % 2=j by omega] at h1;rw[h1];unfold ev2;rw[sm_congr 128 (g:=fun q=>sm (fun i=>fv p (2*i+j % 2)*(fi 3303*(wi i*zr (j / 2)) ^ q)) 128) (fun q hq=>by
      rw[show j % 2+2*q=2*q+j % 2 by omega,riv_fv hp 128 (Nat.le_refl _) q (j % 2) (by omega) hq,cm,← sm_mul];exact sm_congr 128 fun i _=>by rw[mul_pow];grind)]
    rw[sm_swap,sm_congr 128 (g:=fun i=>fv p (2*i+j % 2)*(if i=j / 2 then 1 else 0)) (fun i hi=>by
      rw[← orth i (j / 2) hi (by omega),sm_mul,sm_mul])]
    rw[sm_one _ (j / 2) 128 (fun i _ hne=>by rw[if_neg hne];grind),if_pos (by omega),if_pos rfl,show 2*(j / 2)+j % 2=j by omega];grind
theorem inv_eq (p:List Int) (hp:p.length=256):inv p=rivA (cl p) 128:=by
  have h:=inv_fwd (rivA (cl p) 128) (riv_red _ _).len;rw[fwd_riv _ (cl_red p hp),cl_of_red (riv_red _ _),inv_cl p hp] at h;exact h

/-! ### Times -/
def zT (i:Nat):Int:=((zmul ((zmul ((zz (i:Int) 7:Nat):Int) ((zz (i:Int) 7:Nat):Int):Nat):Int) 17:Nat):Int)
def tmA (p q:List Int):Nat→List Int
  | 0=>List.replicate 256 0
  | i+1=>((tmA p q i).set (2*i) ((zadd ((zmul (p.getD (2*i) 0) (q.getD (2*i) 0):Nat):Int) ((zmul ((zmul (p.getD (2*i+1) 0) (q.getD (2*i+1) 0):Nat):Int) (zT i):Nat):Int):Nat):Int)).set (2*i+1)
      ((zadd ((zmul (p.getD (2*i) 0) (q.getD (2*i+1) 0):Nat):Int) ((zmul (p.getD (2*i+1) 0) (q.getD (2*i) 0):Nat):Int):Nat):Int)
def tms (p q:List Int):List Int:=tmA (cl p) (cl q) 128
theorem zT_root:∀ i,i<128→fi (zT i)=zr i:=by decide+kernel
/-- The product's even and odd part. -/
def pm (z a0 a1 b0 b1:F) (m:Nat):F:=if m=0 then a0*b0+a1*b1*z else a0*b1+a1*b0
theorem tm_red (p q:List Int):∀ i,Red (tmA p q i)
  | 0=>red_rep
  | i+1=>((tm_red p q i).set _ (zmod_lt _)).set _ (zmod_lt _)
theorem tm_fv (p q:List Int):∀ n,n≤128→∀ b m,m<2→b<n→fv (tmA p q n) (2*b+m)=pm (zr b) (fv p (2*b)) (fv p (2*b+1)) (fv q (2*b)) (fv q (2*b+1)) m:=by
  intro n
  induction n with
  | zero=>intro _ b m _ hb;omega
  | succ n ih=>
    intro hn b m hm hb;rw[tmA,fv_set (by rw[List.length_set,(tm_red p q n).len]) (by omega),fv_set (tm_red p q n).len (by omega),fi_add,fi_add,fi_mul,fi_mul,fi_mul,fi_mul,fi_mul,zT_root n (by omega)];by_cases e:b=n
    · subst e
      match m,hm with
      | 0,_=>rw[if_neg (show ¬2*b+1=2*b+0 by omega),if_pos (show 2*b=2*b+0 by omega)];rfl
      | 1,_=>rw[if_pos rfl];rfl
    · rw[if_neg (show ¬2*n+1=2*b+m by omega),if_neg (show ¬2*n=2*b+m by omega)];exact ih (by omega) b m hm (by omega)
theorem tms_red (p q:List Int):Red (tms p q):=tm_red _ _ 128
theorem tms_fv (p q:List Int) (hp:p.length=256) (hq:q.length=256) (b m:Nat) (hb:b<128) (hm:m<2):fv (tms p q) (2*b+m)=pm (zr b) (fv p (2*b)) (fv p (2*b+1)) (fv q (2*b)) (fv q (2*b+1)) m:=by
  rw[tms,tm_fv _ _ 128 (Nat.le_refl _) b m hm hb,cl_fv p hp _ (by omega),cl_fv p hp _ (by omega),cl_fv q hq _ (by omega),cl_fv q hq _ (by omega)]
/-- Two lists of rests are one, if they are so pair by pair. -/
theorem red_ext2 {l m:List Int} (hl:Red l) (hm:Red m) (h:∀ b,b<128→∀ k,k<2→fv l (2*b+k)=fv m (2*b+k)):l=m:=
  red_ext hl hm fun j hj=>by have:=h (j / 2) (by omega) (j % 2) (by omega);rwa [show 2*(j / 2)+j % 2=j by omega] at this
def rtmA (p q:List Int):Nat→List Int
  | 0=>List.replicate 256 0
  | i+1=>((rtmA p q i).set (2*i) (((tn p (2*i)*tn q (2*i)+tn p (2*i+1)*tn q (2*i+1) % 3329*rootN i) % 3329:Nat):Int)).set (2*i+1)
      (((tn p (2*i)*tn q (2*i+1)+tn p (2*i+1)*tn q (2*i)) % 3329:Nat):Int)
theorem rtm_red (p q:List Int):∀ i,Red (rtmA p q i)
  | 0=>red_rep
  | i+1=>((rtm_red p q i).set _ (Nat.mod_lt _ (by decide))).set _ (Nat.mod_lt _ (by decide))
theorem rtm_fv {p q:List Int} (hp:Red p) (hq:Red q):∀ n,n≤128→∀ b m,m<2→b<n→fv (rtmA p q n) (2*b+m)=pm (zr b) (fv p (2*b)) (fv p (2*b+1)) (fv q (2*b)) (fv q (2*b+1)) m:=by
  intro n
  induction n with
  | zero=>intro _ b m _ hb;omega
  | succ n ih=>
    intro hn b m hm hb;rw[rtmA,fv_set (by rw[List.length_set,(rtm_red p q n).len]) (by omega),fv_set (rtm_red p q n).len (by omega),fi_modn,fi_modn,fi_addn,fi_addn,fi_muln,fi_muln,fi_muln,fi_muln,fi_modn,fi_muln,hp.fv,hp.fv,hq.fv,hq.fv];by_cases e:b=n
    · subst e
      match m,hm with
      | 0,_=>rw[if_neg (show ¬2*b+1=2*b+0 by omega),if_pos (show 2*b=2*b+0 by omega)];rfl
      | 1,_=>rw[if_pos rfl];rfl
    · rw[if_neg (show ¬2*n+1=2*b+m by omega),if_neg (show ¬2*n=2*b+m by omega)];exact ih (by omega) b m hm (by omega)
theorem tms_eq (p q:List Int) (hp:p.length=256) (hq:q.length=256):tms p q=rtmA (cl p) (cl q) 128:=
  red_ext2 (tms_red p q) (rtm_red _ _ _) fun b hb m hm=>by rw[tms,tm_fv _ _ 128 (Nat.le_refl _) b m hm hb,rtm_fv (cl_red p hp) (cl_red q hq) 128 (Nat.le_refl _) b m hm hb]

/-! ### Products -/
def rprJ (p q:List Int) (i:Nat) (out:List Int):Nat→List Int
  | 0=>out
  | j+1=>if i+j<256 then(rprJ p q i out j).set (i+j) (((tn (rprJ p q i out j) (i+j)+tn p i*tn q j % 3329) % 3329:Nat):Int)
      else(rprJ p q i out j).set (i+j - 256) (((tn (rprJ p q i out j) (i+j - 256)+3329 - tn p i*tn q j % 3329) % 3329:Nat):Int)
def rprA (p q:List Int):Nat→List Int
  | 0=>List.replicate 256 0
  | i+1=>rprJ p q i (rprA p q i) 256
theorem rprJ_red (p q:List Int) (i:Nat) {out:List Int} (h:Red out):∀ j,Red (rprJ p q i out j)
  | 0=>h
  | j+1=>by
    simp only[rprJ];split
    · exact(rprJ_red p q i h j).set _ (Nat.mod_lt _ (by decide))
    · exact(rprJ_red p q i h j).set _ (Nat.mod_lt _ (by decide))
theorem rpr_red (p q:List Int):∀ i,Red (rprA p q i)
  | 0=>red_rep
  | i+1=>rprJ_red p q i (rpr_red p q i) 256
theorem rprJ_ev {p q:List Int} (hp:Red p) (hq:Red q) (z:F) (hz:z ^ 128= -1) (m:Nat) (hm:m<2) (i:Nat) (hi:i<256) {out:List Int} (h:Red out):∀ j,j≤256→ev2 (fv (rprJ p q i out j)) z m=ev2 (fv out) z m+sm (fun j=>fv p i*fv q j*yp z (i+j) m) j
  | 0,_=>by simp only[rprJ,sm];grind
  | j+1,hj=>by
    have ih:=rprJ_ev hp hq z hz m hm i hi h j (by omega);have hr:=rprJ_red p q i h j;rw[sm];simp only[rprJ];by_cases hc:i+j<256
    · rw[if_pos hc,ev2_put (fv (rprJ p q i out j)) _ z (fv p i*fv q j) (i+j) m hc hm (fun k hk=>by
        rw[fv_set hr.len hc,fi_modn,fi_addn,hr.fv,fi_modn,fi_muln,hp.fv,hq.fv];by_cases e:k=i+j
        · subst e;first | rw[if_pos rfl,if_pos rfl] | rw[if_pos rfl]
        · rw[if_neg (fun x=>e x.symm),if_neg e]),ih];grind
    · have hn:i+j - 256<256:=by omega
      have hw:=yp_wrap z hz (i+j) m (by omega);rw[if_neg hc,ev2_put (fv (rprJ p q i out j)) _ z (- (fv p i*fv q j)) (i+j - 256) m hn hm (fun k hk=>by
        rw[fv_set hr.len hn,fi_modn,fi_subn _ _ (Nat.le_of_lt (Nat.mod_lt _ (by decide))),hr.fv,fi_modn,fi_muln,hp.fv,hq.fv];by_cases e:k=i+j - 256
        · subst e;first | (rw[if_pos rfl,if_pos rfl];grind) | (rw[if_pos rfl];grind)
        · rw[if_neg (fun x=>e x.symm),if_neg e]),ih];grind
theorem rpr_ev {p q:List Int} (hp:Red p) (hq:Red q) (z:F) (hz:z ^ 128= -1) (m:Nat) (hm:m<2):∀ i,i≤256→ev2 (fv (rprA p q i)) z m=sm (fun i=>sm (fun j=>fv p i*fv q j*yp z (i+j) m) 256) i
  | 0,_=>by
    simp only[rprA,sm];unfold ev2;rw[sm_congr 128 (g:=fun _=>0) (fun q _=>by rw[fv_rep];grind),sm_zero]
  | i+1,hi=>by rw[rprA,rprJ_ev hp hq z hz m hm i (by omega) (rpr_red p q i) 256 (Nat.le_refl _),rpr_ev hp hq z hz m hm i (by omega)];rfl
/-- The double sum of products is the product of the sums. -/
theorem sum_pm (a b:Nat→F) (z:F) (m:Nat) (hm:m<2):sm (fun i=>sm (fun j=>a i*b j*yp z (i+j) m) 256) 256=pm z (ev2 a z 0) (ev2 a z 1) (ev2 b z 0) (ev2 b z 1) m:=by
  have lin:∀ (c d:F) (f g:Nat→F) (n:Nat),sm (fun j=>c*f j+d*g j) n=c*sm f n+d*sm g n:=fun c d f g n=>by rw[sm_add,sm_mul,sm_mul]
  rw[ev2_terms a z 0 (by decide),ev2_terms a z 1 (by decide),ev2_terms b z 0 (by decide),ev2_terms b z 1 (by decide)]
  match m,hm with
  | 0,_=>
    rw[sm_congr 256 (g:=fun i=>sm (fun n=>b n*yp z n 0) 256*(a i*yp z i 0)+(z*sm (fun n=>b n*yp z n 1) 256)*(a i*yp z i 1)) (fun i _=>by
      rw[sm_congr 256 (g:=fun j=>(a i*yp z i 0)*(b j*yp z j 0)+(z*(a i*yp z i 1))*(b j*yp z j 1)) (fun j _=>by rw[yp_mul0];grind),lin];grind),lin]
    unfold pm;rw[if_pos rfl];grind
  | 1,_=>
    rw[sm_congr 256 (g:=fun i=>sm (fun n=>b n*yp z n 1) 256*(a i*yp z i 0)+sm (fun n=>b n*yp z n 0) 256*(a i*yp z i 1)) (fun i _=>by
      rw[sm_congr 256 (g:=fun j=>(a i*yp z i 0)*(b j*yp z j 1)+(a i*yp z i 1)*(b j*yp z j 0)) (fun j _=>by rw[yp_mul1];grind),lin];grind),lin]
    unfold pm;rw[if_neg (by decide)];grind
theorem fwd_rpr (p q:List Int) (hp:Red p) (hq:Red q):fwd (rprA p q 256)=tms (fwd p) (fwd q):=
  red_ext2 (fwd_red _ (rpr_red p q 256).len) (tms_red _ _) fun b hb m hm=>by
    have f1:=fun(k:Nat) (hk:k<2)=>fwd_fv p hp.len b k hb hk;have f2:=fun(k:Nat) (hk:k<2)=>fwd_fv q hq.len b k hb hk;have p0:=f1 0 (by decide);have p1:=f1 1 (by decide);have q0:=f2 0 (by decide);have q1:=f2 1 (by decide);rw[Nat.add_zero] at p0 q0;rw[fwd_fv _ (rpr_red p q 256).len b m hb hm,rpr_ev hp hq _ (zr128 b hb) m hm 256 (Nat.le_refl _),sum_pm _ _ _ m hm,tms_fv _ _ (fwd_red p hp.len).len (fwd_red q hq.len).len b m hb hm,p0,p1,q0,q1]
def prd (p q:List Int):List Int:=inv (tms (fwd p) (fwd q))
theorem fwd_cl (p:List Int) (hp:p.length=256):fwd (cl p)=fwd p:=by
  have e:∀ i,fwL (cl p) i=fwL p i:=by
    intro i
    induction i with
    | zero=>rw[fwL,fwL,cl_of_red (cl_red p hp)]
    | succ i ih=>rw[fwL,fwL,ih]
  rw[fwd,fwd,e]
theorem prd_red (p q:List Int):Red (prd p q):=inv_red _ (tms_red _ _).len
theorem prd_eq (p q:List Int) (hp:p.length=256) (hq:q.length=256):prd p q=rprA (cl p) (cl q) 256:=by
  have h:=inv_fwd (rprA (cl p) (cl q) 256) (rpr_red _ _ _).len;rw[fwd_rpr _ _ (cl_red p hp) (cl_red q hq),fwd_cl p hp,fwd_cl q hq,cl_of_red (rpr_red _ _ _)] at h;exact h
theorem fwd_prd (p q:List Int):fwd (prd p q)=tms (fwd p) (fwd q):=by
  rw[prd,fwd_inv _ (tms_red _ _).len,cl_of_red (tms_red _ _)]

/-! ### Laws -/
theorem fwd_plus (a b:List Int) (ha:a.length=256) (hb:b.length=256):fwd (pl a b)=pl (fwd a) (fwd b):=
  red_ext2 (fwd_red _ (pl_red a b ha).len) (pl_red _ _ (fwd_red a ha).len) fun k hk m hm=>by
    rw[fwd_fv _ (pl_red a b ha).len k m hk hm,pl_fv _ _ (fwd_red a ha).len _ (by omega),fwd_fv a ha k m hk hm,fwd_fv b hb k m hk hm];unfold ev2;rw[← sm_add];exact sm_congr 128 fun q hq=>by rw[pl_fv a b ha _ (by omega)];grind
/-! ### Powers of X -/
end Go.Rx

/- awake's values of layer 11. No program and no memory here. -/
set_option maxRecDepth 100000
namespace Go.Rx
open Go.Rx.Na
theorem rpow_lt (a:Int) (n:Nat):rpow a n<3329:=by unfold rpow;split;decide;exact rp_lt _ _
theorem rootN_lt (i:Nat):rootN i<3329:=rpow_lt _ _
theorem wN_lt (i:Nat):wN i<3329:=rpow_lt _ _
end Go.Rx

/- One step of the document's product, case by case. -/
namespace Go.Rx
theorem rprJ_lt (p q:List Int) (i:Nat) (out:List Int) (j:Nat) (h:i+j<256):rprJ p q i out (j+1)=(rprJ p q i out j).set (i+j) (((tn (rprJ p q i out j) (i+j)+tn p i*tn q j % 3329) % 3329:Nat):Int):=by
  rw[rprJ,if_pos h]
theorem rprJ_ge (p q:List Int) (i:Nat) (out:List Int) (j:Nat) (h:¬i+j<256):rprJ p q i out (j+1)=(rprJ p q i out j).set (i+j - 256) (((tn (rprJ p q i out j) (i+j - 256)+3329 - tn p i*tn q j % 3329) % 3329:Nat):Int):=by
  rw[rprJ,if_neg h]
end Go.Rx

/- Plain functions of layer 13: rows of polynomials, keys, what is encrypted. -/
namespace Go.Rx
abbrev zero768:List Int:=List.replicate 768 0
theorem z768_len:zero768.length=768:=lR
def small2 (seed:List UInt8) (n:Nat):List Int:=noA 2 (prfB (2:Int) seed (UInt8.ofNat n)) 256
theorem small2_len (seed:List UInt8) (n:Nat):(small2 seed n).length=256:=noA_len _ _ _
def smA (seed:List UInt8) (n:Nat):Nat→List Int
  | 0=>zero768
  | i+1=>rs (smA seed n i) i (small2 seed (n+i))
theorem rs_len768 (l:List Int) (i:Nat) (d:List Int) (hl:l.length=768) (hd:d.length=256) (hi:i<3):(rs l i d).length=768:=by rw[rs_len l i d (by omega) hd,hl]
theorem smA_len (seed:List UInt8) (n:Nat):∀ i,i≤3→(smA seed n i).length=768
  | 0,_=>z768_len
  | i+1,h=>by rw[smA];exact rs_len768 _ _ _ (smA_len seed n i (by omega)) (small2_len _ _) (by omega)
def eaR (f:List Int→List Int) (r:List Int):Nat→List Int
  | 0=>r
  | i+1=>rs (eaR f r i) i (f (rg (eaR f r i) i))
theorem eaR_len (f:List Int→List Int) (hf:∀ p,p.length=256→(f p).length=256) (r:List Int) (hr:r.length=768):∀ i,i≤3→(eaR f r i).length=768
  | 0,_=>hr
  | i+1,h=>by
    have ih:=eaR_len f hf r hr i (by omega);rw[eaR];exact rs_len768 _ _ _ ih (hf _ (rg_len _ _ (by omega))) (by omega)
theorem fwd_len (p:List Int) (hp:p.length=256):(fwd p).length=256:=(fwd_red p hp).len
theorem inv_len (p:List Int) (hp:p.length=256):(inv p).length=256:=(inv_red p hp).len
theorem pl_len (p q:List Int) (hp:p.length=256):(pl p q).length=256:=(pl_red p q hp).len
def mat (rho:List UInt8) (i j:Nat):List Int:=uni [rho,([UInt8.ofNat j,UInt8.ofNat i]:List UInt8)].flatten
theorem mat_len (rho:List UInt8) (i j:Nat):(mat rho i j).length=256:=uni_len _
def tiB (M:Nat→Nat→List Int) (r o:List Int) (i:Nat):Nat→List Int
  | 0=>o
  | j+1=>rs (tiB M r o i j) i (pl (rg (tiB M r o i j) i) (tms (M i j) (rg r j)))
theorem tiB_len (M:Nat→Nat→List Int) (r o:List Int) (ho:o.length=768) (i:Nat) (hi:i<3):∀ j,(tiB M r o i j).length=768
  | 0=>ho
  | j+1=>by
    have ih:=tiB_len M r o ho i hi j;rw[tiB];exact rs_len768 _ _ _ ih (pl_len _ _ (rg_len _ _ (by omega))) hi
def tiA (M:Nat→Nat→List Int) (r:List Int):Nat→List Int
  | 0=>zero768
  | i+1=>tiB M r (tiA M r i) i 3
theorem tiA_len (M:Nat→Nat→List Int) (r:List Int):∀ i,i≤3→(tiA M r i).length=768
  | 0,_=>z768_len
  | i+1,h=>by rw[tiA];exact tiB_len M r _ (tiA_len M r i (by omega)) i (by omega) 3
def plR (r s:List Int):Nat→List Int
  | 0=>r
  | i+1=>rs (plR r s i) i (pl (rg (plR r s i) i) (rg s i))
theorem plR_len (r s:List Int) (hr:r.length=768):∀ i,i≤3→(plR r s i).length=768
  | 0,_=>hr
  | i+1,h=>by
    have ih:=plR_len r s hr i (by omega);rw[plR];exact rs_len768 _ _ _ ih (pl_len _ _ (rg_len _ _ (by omega))) (by omega)
def dotA (a b:List Int):Nat→List Int
  | 0=>zero256
  | i+1=>pl (dotA a b i) (tms (rg a i) (rg b i))
theorem dotA_len (a b:List Int):∀ i,(dotA a b i).length=256
  | 0=>lR
  | i+1=>by rw[dotA];exact pl_len _ _ (dotA_len a b i)
def pkR (d:Nat) (r:List Int):Nat→List UInt8
  | 0=>[]
  | i+1=>pkR d r i++paA d (rg r i) 256
theorem pkR_len (d:Nat) (r:List Int):∀ i,(pkR d r i).length=32*d*i
  | 0=>rfl
  | i+1=>by rw[pkR,lA,pkR_len d r i,paA_len,Nat.mul_succ]
def unR (d:Nat) (b:List UInt8):Nat→List Int
  | 0=>zero768
  | i+1=>rs (unR d b i) i (unA d ((b.drop (32*d*i)).take (32*d)) 256)
theorem unR_len (d:Nat) (b:List UInt8):∀ i,i≤3→(unR d b i).length=768
  | 0,_=>z768_len
  | i+1,h=>by rw[unR];exact rs_len768 _ _ _ (unR_len d b i (by omega)) (unA_len _ _ _) (by omega)
theorem cut0 {α:Type} (l:List α) (n:Nat):(l.drop 0).take (n - 0)=l.take n:=by simp
theorem cutE {α:Type} (l:List α) (k n:Nat) (h:l.length=n):(l.drop k).take (n - k)=l.drop k:=List.take_of_length_le (by rw[List.length_drop];omega)
theorem cutM {α:Type} (l:List α) (k n m:Nat) (h:m=k+n):(l.drop k).take (m - k)=(l.drop k).take n:=by rw[h,Nat.add_sub_cancel_left]
/-! ### Keys -/
def gG (d:List UInt8):List UInt8:=sum512 [d,([3]:List UInt8)].flatten
theorem gG_len (d:List UInt8):(gG d).length=64:=sum512_len _
def gRho (d:List UInt8):List UInt8:=(gG d).take 32
theorem gRho_len (d:List UInt8):(gRho d).length=32:=by rw[gRho,List.length_take,gG_len];rfl
def gSeed (d:List UInt8):List UInt8:=(gG d).drop 32
theorem gSeed_len (d:List UInt8):(gSeed d).length=32:=by rw[gSeed,List.length_drop,gG_len]
def gS (d:List UInt8):List Int:=eaR fwd (smA (gSeed d) 0 3) 3
def gT (d:List UInt8):List Int:=plR (tiA (mat (gRho d)) (gS d) 3) (eaR fwd (smA (gSeed d) 3 3) 3) 3
def ek1 (d:List UInt8):List UInt8:=[pkR 12 (gT d) 3,gRho d].flatten
def dk1 (d:List UInt8):List UInt8:=pkR 12 (gS d) 3
theorem ek1_len (d:List UInt8):(ek1 d).length=1184:=by
  have h1:=pkR_len 12 (gT d) 3;have h2:=gRho_len d;simp only[ek1,List.flatten_cons,List.flatten_nil,List.append_nil,lA];omega
theorem dk1_len (d:List UInt8):(dk1 d).length=1152:=pkR_len 12 (gS d) 3
/-! ### What is encrypted -/
def matT (rho:List UInt8) (i j:Nat):List Int:=mat rho j i
theorem matT_len (rho:List UInt8) (i j:Nat):(matT rho i j).length=256:=uni_len _
def sq10 (p:List Int):List Int:=sqA (10:Int) p 256
theorem sq10_len (p:List Int) (hp:p.length=256):(sq10 p).length=256:=by rw[sq10,sqA_len,hp]
def fsp (p:List Int):List Int:=fwd (spA (10:Int) p 256)
theorem fsp_len (p:List Int) (hp:p.length=256):(fsp p).length=256:=fwd_len _ (by rw[spA_len,hp])
def eY (r:List UInt8):List Int:=eaR fwd (smA r 0 3) 3
def eU0 (ek r:List UInt8):List Int:=eaR inv (tiA (matT (ek.drop 1152)) (eY r) 3) 3
theorem eU0_len (ek r:List UInt8):(eU0 ek r).length=768:=eaR_len _ inv_len _ (tiA_len _ _ 3 (by omega)) 3 (by omega)
def eU (ek r:List UInt8):List Int:=plR (eU0 ek r) (smA r 3 3) 3
theorem eU_len (ek r:List UInt8):(eU ek r).length=768:=plR_len _ _ (eU0_len ek r) 3 (by omega)
def eV (ek m r:List UInt8):List Int:=pl (pl (inv (dotA (unR 12 (ek.take 1152) 3) (eY r) 3)) (small2 r 6)) (spA (1:Int) (unA 1 m 256) 256)
def enc1 (ek m r:List UInt8):List UInt8:=[pkR 10 (eaR sq10 (eU ek r) 3) 3,paA 4 (sqA (4:Int) (eV ek m r) 256) 256].flatten
theorem enc1_len (ek m r:List UInt8):(enc1 ek m r).length=1088:=by
  have h1:=pkR_len 10 (eaR sq10 (eU ek r) 3) 3;have h2:=paA_len 4 (sqA (4:Int) (eV ek m r) 256) 256;simp only[enc1,List.flatten_cons,List.flatten_nil,List.append_nil,lA];omega
def dU (c:List UInt8):List Int:=eaR fsp (unR 10 (c.take 960) 3) 3
def dW (dk c:List UInt8):List Int:=mi (spA (4:Int) (unA 4 (c.drop 960) 256) 256) (inv (dotA (unR 12 dk 3) (dU c) 3))
def dec1 (dk c:List UInt8):List UInt8:=paA 1 (sqA (1:Int) (dW dk c) 256) 256
theorem dec1_len (dk c:List UInt8):(dec1 dk c).length=32:=paA_len _ _ _
end Go.Rx

/- The permutation over plain numbers, in a form that the kernel reckons fast; it is the permutation of words. No program and no memory here. -/
namespace Go.Rx
set_option maxRecDepth 100000
set_option maxHeartbeats 4000000
set_option linter.unusedVariables false

def nrot (x k j:Nat):Nat:=Nat.lor (Nat.mod (Nat.shiftLeft x k) 18446744073709551616) (Nat.shiftRight x j)
def nchi (x y z:Nat):Nat:=Nat.xor x (Nat.land z (Nat.xor y 18446744073709551615))
def nmix (p q:Nat):Nat:=Nat.xor p (nrot q 1 63)
def nfive (a b c d e:Nat):Nat:=Nat.xor (Nat.xor (Nat.xor (Nat.xor a b) c) d) e
def nchiR {α:Type} (c a0 a1 a2 a3 a4 a5 a6 a7 a8 a9 a10 a11 a12 a13 a14 a15 a16 a17 a18 a19 a20 a21 a22 a23 a24:Nat) (K:Nat→Nat→Nat→Nat→Nat→Nat→Nat→Nat→Nat→Nat→Nat→Nat→Nat→Nat→Nat→Nat→Nat→Nat→Nat→Nat→Nat→Nat→Nat→Nat→Nat→α):α:=
  K (Nat.xor (nchi a0 a1 a2) c) (nchi a1 a2 a3) (nchi a2 a3 a4) (nchi a3 a4 a0) (nchi a4 a0 a1) (nchi a5 a6 a7) (nchi a6 a7 a8) (nchi a7 a8 a9) (nchi a8 a9 a5) (nchi a9 a5 a6) (nchi a10 a11 a12) (nchi a11 a12 a13) (nchi a12 a13 a14) (nchi a13 a14 a10) (nchi a14 a10 a11) (nchi a15 a16 a17) (nchi a16 a17 a18) (nchi a17 a18 a19) (nchi a18 a19 a15) (nchi a19 a15 a16) (nchi a20 a21 a22) (nchi a21 a22 a23) (nchi a22 a23 a24) (nchi a23 a24 a20) (nchi a24 a20 a21)
def nrhoR {α:Type} (c a0 a1 a2 a3 a4 a5 a6 a7 a8 a9 a10 a11 a12 a13 a14 a15 a16 a17 a18 a19 a20 a21 a22 a23 a24:Nat) (K:Nat→Nat→Nat→Nat→Nat→Nat→Nat→Nat→Nat→Nat→Nat→Nat→Nat→Nat→Nat→Nat→Nat→Nat→Nat→Nat→Nat→Nat→Nat→Nat→Nat→α):α:=
  nchiR c (nrot a0 0 64) (nrot a6 44 20) (nrot a12 43 21) (nrot a18 21 43) (nrot a24 14 50) (nrot a3 28 36) (nrot a9 20 44) (nrot a10 3 61) (nrot a16 45 19) (nrot a22 61 3) (nrot a1 1 63) (nrot a7 6 58) (nrot a13 25 39) (nrot a19 8 56) (nrot a20 18 46) (nrot a4 27 37) (nrot a5 36 28) (nrot a11 10 54) (nrot a17 15 49) (nrot a23 56 8) (nrot a2 62 2) (nrot a8 55 9) (nrot a14 39 25) (nrot a15 41 23) (nrot a21 2 62) K
def nthR {α:Type} (c a0 a1 a2 a3 a4 a5 a6 a7 a8 a9 a10 a11 a12 a13 a14 a15 a16 a17 a18 a19 a20 a21 a22 a23 a24 d0 d1 d2 d3 d4:Nat) (K:Nat→Nat→Nat→Nat→Nat→Nat→Nat→Nat→Nat→Nat→Nat→Nat→Nat→Nat→Nat→Nat→Nat→Nat→Nat→Nat→Nat→Nat→Nat→Nat→Nat→α):α:=
  nrhoR c (Nat.xor a0 d0) (Nat.xor a1 d1) (Nat.xor a2 d2) (Nat.xor a3 d3) (Nat.xor a4 d4) (Nat.xor a5 d0) (Nat.xor a6 d1) (Nat.xor a7 d2) (Nat.xor a8 d3) (Nat.xor a9 d4) (Nat.xor a10 d0) (Nat.xor a11 d1) (Nat.xor a12 d2) (Nat.xor a13 d3) (Nat.xor a14 d4) (Nat.xor a15 d0) (Nat.xor a16 d1) (Nat.xor a17 d2) (Nat.xor a18 d3) (Nat.xor a19 d4) (Nat.xor a20 d0) (Nat.xor a21 d1) (Nat.xor a22 d2) (Nat.xor a23 d3) (Nat.xor a24 d4) K
def ncR {α:Type} (c a0 a1 a2 a3 a4 a5 a6 a7 a8 a9 a10 a11 a12 a13 a14 a15 a16 a17 a18 a19 a20 a21 a22 a23 a24 c0 c1 c2 c3 c4:Nat) (K:Nat→Nat→Nat→Nat→Nat→Nat→Nat→Nat→Nat→Nat→Nat→Nat→Nat→Nat→Nat→Nat→Nat→Nat→Nat→Nat→Nat→Nat→Nat→Nat→Nat→α):α:=
  nthR c a0 a1 a2 a3 a4 a5 a6 a7 a8 a9 a10 a11 a12 a13 a14 a15 a16 a17 a18 a19 a20 a21 a22 a23 a24 (nmix c4 c1) (nmix c0 c2) (nmix c1 c3) (nmix c2 c4) (nmix c3 c0) K
def nround {α:Type} (c a0 a1 a2 a3 a4 a5 a6 a7 a8 a9 a10 a11 a12 a13 a14 a15 a16 a17 a18 a19 a20 a21 a22 a23 a24:Nat) (K:Nat→Nat→Nat→Nat→Nat→Nat→Nat→Nat→Nat→Nat→Nat→Nat→Nat→Nat→Nat→Nat→Nat→Nat→Nat→Nat→Nat→Nat→Nat→Nat→Nat→α):α:=
  ncR c a0 a1 a2 a3 a4 a5 a6 a7 a8 a9 a10 a11 a12 a13 a14 a15 a16 a17 a18 a19 a20 a21 a22 a23 a24 (nfive a0 a5 a10 a15 a20) (nfive a1 a6 a11 a16 a21) (nfive a2 a7 a12 a17 a22) (nfive a3 a8 a13 a18 a23) (nfive a4 a9 a14 a19 a24) K
def nrounds:List Nat→Nat→Nat→Nat→Nat→Nat→Nat→Nat→Nat→Nat→Nat→Nat→Nat→Nat→Nat→Nat→Nat→Nat→Nat→Nat→Nat→Nat→Nat→Nat→Nat→Nat→List Nat
  | [],a0,a1,a2,a3,a4,a5,a6,a7,a8,a9,a10,a11,a12,a13,a14,a15,a16,a17,a18,a19,a20,a21,a22,a23,a24=>[a0,a1,a2,a3,a4,a5,a6,a7,a8,a9,a10,a11,a12,a13,a14,a15,a16,a17,a18,a19,a20,a21,a22,a23,a24]
  | c::cs,a0,a1,a2,a3,a4,a5,a6,a7,a8,a9,a10,a11,a12,a13,a14,a15,a16,a17,a18,a19,a20,a21,a22,a23,a24=>nround c a0 a1 a2 a3 a4 a5 a6 a7 a8 a9 a10 a11 a12 a13 a14 a15 a16 a17 a18 a19 a20 a21 a22 a23 a24 (nrounds cs)
def nconsts:List Nat:=[0x0000000000000001,0x0000000000008082,0x800000000000808a,0x8000000080008000,0x000000000000808b,0x0000000080000001,0x8000000080008081,0x8000000000008009,0x000000000000008a,0x0000000000000088,0x0000000080008009,0x000000008000000a,0x000000008000808b,0x800000000000008b,0x8000000000008089,0x8000000000008003,0x8000000000008002,0x8000000000000080,0x000000000000800a,0x800000008000000a,0x8000000080008081,0x8000000000008080,0x0000000080000001,0x8000000080008008]
def nkf (l:List Nat):List Nat:=match l with
  | [a0,a1,a2,a3,a4,a5,a6,a7,a8,a9,a10,a11,a12,a13,a14,a15,a16,a17,a18,a19,a20,a21,a22,a23,a24]=>nrounds nconsts a0 a1 a2 a3 a4 a5 a6 a7 a8 a9 a10 a11 a12 a13 a14 a15 a16 a17 a18 a19 a20 a21 a22 a23 a24
  | _=>[]

theorem nrot_eq (x:UInt64) (k j:Nat) (hk:k<64) (hj:j=64 - k):(rotl x k).toNat=nrot x.toNat k j:=by
  subst hj;have hx:=x.toNat_lt;unfold rotl nrot shrG;rw[Nat.mod_eq_of_lt (show k<2 ^ 6 by omega)];rw[UInt64.toNat_or,UInt64.toNat_shiftLeft];have e1:(UInt64.ofNat k).toNat % 64=k:=by rw[UInt64.toNat_ofNat'];omega
  rw[e1]
  split
  · rename_i h
    have h0:k=0:=by omega
    subst h0;have e2:Nat.shiftRight x.toNat (64 - 0)=0:=by
      show x.toNat >>> 64=0;rw[Nat.shiftRight_eq_div_pow];omega
    rw[e2];rfl
  · rename_i h
    rw[UInt64.toNat_shiftRight];have e2:(UInt64.ofNat (64 - k)).toNat % 64=64 - k:=by rw[UInt64.toNat_ofNat'];omega
    rw[e2];rfl
theorem nchi_eq (x y z:UInt64):(x^^^(z&&& ~~~y)).toNat=nchi x.toNat y.toNat z.toNat:=by
  have hy:(~~~y).toNat=Nat.xor y.toNat 18446744073709551615:=by
    have h:(~~~y)=y^^^18446744073709551615:=UInt64.toBitVec_inj.1 (by show ~~~y.toBitVec=y.toBitVec^^^BitVec.allOnes 64;rw[BitVec.xor_allOnes]);rw[h,UInt64.toNat_xor];rfl
  rw[UInt64.toNat_xor,UInt64.toNat_and,hy];rfl
theorem nmix_eq (x y:UInt64):(x^^^rotl y 1).toNat=nmix x.toNat y.toNat:=by rw[UInt64.toNat_xor,nrot_eq y 1 63 (by omega) rfl];rfl

theorem thC_of (x0 x1 x2 x3 x4 x5 x6 x7 x8 x9 x10 x11 x12 x13 x14 x15 x16 x17 x18 x19 x20 x21 x22 x23 x24:UInt64):thC [x0,x1,x2,x3,x4,x5,x6,x7,x8,x9,x10,x11,x12,x13,x14,x15,x16,x17,x18,x19,x20,x21,x22,x23,x24] 5=[(x0^^^x5^^^x10^^^x15^^^x20),(x1^^^x6^^^x11^^^x16^^^x21),(x2^^^x7^^^x12^^^x17^^^x22),(x3^^^x8^^^x13^^^x18^^^x23),(x4^^^x9^^^x14^^^x19^^^x24)]:=by kernel_rfl
def thB (l C:List UInt64):Nat→List UInt64
  | 0=>l
  | k+1=>(thB l C k).set k ((thB l C k).getD k 0^^^(C.getD ((k % 5+4) % 5) 0^^^rotl (C.getD ((k % 5+1) % 5) 0) 1))
theorem thB_eq (l C:List UInt64) (h:thC l 5=C):∀ k,thA l k=thB l C k
  | 0=>rfl
  | k+1=>by rw[thA,thB,thB_eq l C h k,h]
theorem theta_of (x0 x1 x2 x3 x4 x5 x6 x7 x8 x9 x10 x11 x12 x13 x14 x15 x16 x17 x18 x19 x20 x21 x22 x23 x24:UInt64) (c0 c1 c2 c3 c4:UInt64) (h:thC [x0,x1,x2,x3,x4,x5,x6,x7,x8,x9,x10,x11,x12,x13,x14,x15,x16,x17,x18,x19,x20,x21,x22,x23,x24] 5=[c0,c1,c2,c3,c4]):theta [x0,x1,x2,x3,x4,x5,x6,x7,x8,x9,x10,x11,x12,x13,x14,x15,x16,x17,x18,x19,x20,x21,x22,x23,x24]=[x0^^^(c4^^^rotl c1 1),x1^^^(c0^^^rotl c2 1),x2^^^(c1^^^rotl c3 1),x3^^^(c2^^^rotl c4 1),x4^^^(c3^^^rotl c0 1),x5^^^(c4^^^rotl c1 1),x6^^^(c0^^^rotl c2 1),x7^^^(c1^^^rotl c3 1),x8^^^(c2^^^rotl c4 1),x9^^^(c3^^^rotl c0 1),x10^^^(c4^^^rotl c1 1),x11^^^(c0^^^rotl c2 1),x12^^^(c1^^^rotl c3 1),x13^^^(c2^^^rotl c4 1),x14^^^(c3^^^rotl c0 1),x15^^^(c4^^^rotl c1 1),x16^^^(c0^^^rotl c2 1),x17^^^(c1^^^rotl c3 1),x18^^^(c2^^^rotl c4 1),x19^^^(c3^^^rotl c0 1),x20^^^(c4^^^rotl c1 1),x21^^^(c0^^^rotl c2 1),x22^^^(c1^^^rotl c3 1),x23^^^(c2^^^rotl c4 1),x24^^^(c3^^^rotl c0 1)]:=by
  rw[theta,thB_eq _ _ h];kernel_rfl
theorem rho_of (x0 x1 x2 x3 x4 x5 x6 x7 x8 x9 x10 x11 x12 x13 x14 x15 x16 x17 x18 x19 x20 x21 x22 x23 x24:UInt64):rho [x0,x1,x2,x3,x4,x5,x6,x7,x8,x9,x10,x11,x12,x13,x14,x15,x16,x17,x18,x19,x20,x21,x22,x23,x24]=[rotl x0 0,rotl x1 1,rotl x2 62,rotl x3 28,rotl x4 27,rotl x5 36,rotl x6 44,rotl x7 6,rotl x8 55,rotl x9 20,rotl x10 3,rotl x11 10,rotl x12 43,rotl x13 25,rotl x14 39,rotl x15 41,rotl x16 45,rotl x17 15,rotl x18 21,rotl x19 8,rotl x20 18,rotl x21 2,rotl x22 61,rotl x23 56,rotl x24 14]:=by kernel_rfl
theorem pi_of (x0 x1 x2 x3 x4 x5 x6 x7 x8 x9 x10 x11 x12 x13 x14 x15 x16 x17 x18 x19 x20 x21 x22 x23 x24:UInt64):pi [x0,x1,x2,x3,x4,x5,x6,x7,x8,x9,x10,x11,x12,x13,x14,x15,x16,x17,x18,x19,x20,x21,x22,x23,x24]=[x0,x6,x12,x18,x24,x3,x9,x10,x16,x22,x1,x7,x13,x19,x20,x4,x5,x11,x17,x23,x2,x8,x14,x15,x21]:=by kernel_rfl
theorem chi_of (x0 x1 x2 x3 x4 x5 x6 x7 x8 x9 x10 x11 x12 x13 x14 x15 x16 x17 x18 x19 x20 x21 x22 x23 x24:UInt64):chi [x0,x1,x2,x3,x4,x5,x6,x7,x8,x9,x10,x11,x12,x13,x14,x15,x16,x17,x18,x19,x20,x21,x22,x23,x24]=[x0^^^(x2&&& ~~~x1),x1^^^(x3&&& ~~~x2),x2^^^(x4&&& ~~~x3),x3^^^(x0&&& ~~~x4),x4^^^(x1&&& ~~~x0),x5^^^(x7&&& ~~~x6),x6^^^(x8&&& ~~~x7),x7^^^(x9&&& ~~~x8),x8^^^(x5&&& ~~~x9),x9^^^(x6&&& ~~~x5),x10^^^(x12&&& ~~~x11),x11^^^(x13&&& ~~~x12),x12^^^(x14&&& ~~~x13),x13^^^(x10&&& ~~~x14),x14^^^(x11&&& ~~~x10),x15^^^(x17&&& ~~~x16),x16^^^(x18&&& ~~~x17),x17^^^(x19&&& ~~~x18),x18^^^(x15&&& ~~~x19),x19^^^(x16&&& ~~~x15),x20^^^(x22&&& ~~~x21),x21^^^(x23&&& ~~~x22),x22^^^(x24&&& ~~~x23),x23^^^(x20&&& ~~~x24),x24^^^(x21&&& ~~~x20)]:=by kernel_rfl

def uchiR {α:Type} (c a0 a1 a2 a3 a4 a5 a6 a7 a8 a9 a10 a11 a12 a13 a14 a15 a16 a17 a18 a19 a20 a21 a22 a23 a24:UInt64) (K:UInt64→UInt64→UInt64→UInt64→UInt64→UInt64→UInt64→UInt64→UInt64→UInt64→UInt64→UInt64→UInt64→UInt64→UInt64→UInt64→UInt64→UInt64→UInt64→UInt64→UInt64→UInt64→UInt64→UInt64→UInt64→α):α:=
  K ((a0^^^(a2&&& ~~~a1))^^^c) (a1^^^(a3&&& ~~~a2)) (a2^^^(a4&&& ~~~a3)) (a3^^^(a0&&& ~~~a4)) (a4^^^(a1&&& ~~~a0)) (a5^^^(a7&&& ~~~a6)) (a6^^^(a8&&& ~~~a7)) (a7^^^(a9&&& ~~~a8)) (a8^^^(a5&&& ~~~a9)) (a9^^^(a6&&& ~~~a5)) (a10^^^(a12&&& ~~~a11)) (a11^^^(a13&&& ~~~a12)) (a12^^^(a14&&& ~~~a13)) (a13^^^(a10&&& ~~~a14)) (a14^^^(a11&&& ~~~a10)) (a15^^^(a17&&& ~~~a16)) (a16^^^(a18&&& ~~~a17)) (a17^^^(a19&&& ~~~a18)) (a18^^^(a15&&& ~~~a19)) (a19^^^(a16&&& ~~~a15)) (a20^^^(a22&&& ~~~a21)) (a21^^^(a23&&& ~~~a22)) (a22^^^(a24&&& ~~~a23)) (a23^^^(a20&&& ~~~a24)) (a24^^^(a21&&& ~~~a20))
def urhoR {α:Type} (c a0 a1 a2 a3 a4 a5 a6 a7 a8 a9 a10 a11 a12 a13 a14 a15 a16 a17 a18 a19 a20 a21 a22 a23 a24:UInt64) (K:UInt64→UInt64→UInt64→UInt64→UInt64→UInt64→UInt64→UInt64→UInt64→UInt64→UInt64→UInt64→UInt64→UInt64→UInt64→UInt64→UInt64→UInt64→UInt64→UInt64→UInt64→UInt64→UInt64→UInt64→UInt64→α):α:=
  uchiR c (rotl a0 0) (rotl a6 44) (rotl a12 43) (rotl a18 21) (rotl a24 14) (rotl a3 28) (rotl a9 20) (rotl a10 3) (rotl a16 45) (rotl a22 61) (rotl a1 1) (rotl a7 6) (rotl a13 25) (rotl a19 8) (rotl a20 18) (rotl a4 27) (rotl a5 36) (rotl a11 10) (rotl a17 15) (rotl a23 56) (rotl a2 62) (rotl a8 55) (rotl a14 39) (rotl a15 41) (rotl a21 2) K
def uthR {α:Type} (c a0 a1 a2 a3 a4 a5 a6 a7 a8 a9 a10 a11 a12 a13 a14 a15 a16 a17 a18 a19 a20 a21 a22 a23 a24 d0 d1 d2 d3 d4:UInt64) (K:UInt64→UInt64→UInt64→UInt64→UInt64→UInt64→UInt64→UInt64→UInt64→UInt64→UInt64→UInt64→UInt64→UInt64→UInt64→UInt64→UInt64→UInt64→UInt64→UInt64→UInt64→UInt64→UInt64→UInt64→UInt64→α):α:=
  urhoR c (a0^^^d0) (a1^^^d1) (a2^^^d2) (a3^^^d3) (a4^^^d4) (a5^^^d0) (a6^^^d1) (a7^^^d2) (a8^^^d3) (a9^^^d4) (a10^^^d0) (a11^^^d1) (a12^^^d2) (a13^^^d3) (a14^^^d4) (a15^^^d0) (a16^^^d1) (a17^^^d2) (a18^^^d3) (a19^^^d4) (a20^^^d0) (a21^^^d1) (a22^^^d2) (a23^^^d3) (a24^^^d4) K
def ucR {α:Type} (c a0 a1 a2 a3 a4 a5 a6 a7 a8 a9 a10 a11 a12 a13 a14 a15 a16 a17 a18 a19 a20 a21 a22 a23 a24 c0 c1 c2 c3 c4:UInt64) (K:UInt64→UInt64→UInt64→UInt64→UInt64→UInt64→UInt64→UInt64→UInt64→UInt64→UInt64→UInt64→UInt64→UInt64→UInt64→UInt64→UInt64→UInt64→UInt64→UInt64→UInt64→UInt64→UInt64→UInt64→UInt64→α):α:=
  uthR c a0 a1 a2 a3 a4 a5 a6 a7 a8 a9 a10 a11 a12 a13 a14 a15 a16 a17 a18 a19 a20 a21 a22 a23 a24 (c4^^^rotl c1 1) (c0^^^rotl c2 1) (c1^^^rotl c3 1) (c2^^^rotl c4 1) (c3^^^rotl c0 1) K
def uround {α:Type} (c a0 a1 a2 a3 a4 a5 a6 a7 a8 a9 a10 a11 a12 a13 a14 a15 a16 a17 a18 a19 a20 a21 a22 a23 a24:UInt64) (K:UInt64→UInt64→UInt64→UInt64→UInt64→UInt64→UInt64→UInt64→UInt64→UInt64→UInt64→UInt64→UInt64→UInt64→UInt64→UInt64→UInt64→UInt64→UInt64→UInt64→UInt64→UInt64→UInt64→UInt64→UInt64→α):α:=
  ucR c a0 a1 a2 a3 a4 a5 a6 a7 a8 a9 a10 a11 a12 a13 a14 a15 a16 a17 a18 a19 a20 a21 a22 a23 a24 (a0^^^a5^^^a10^^^a15^^^a20) (a1^^^a6^^^a11^^^a16^^^a21) (a2^^^a7^^^a12^^^a17^^^a22) (a3^^^a8^^^a13^^^a18^^^a23) (a4^^^a9^^^a14^^^a19^^^a24) K
theorem nchiR_eq {α:Type} (c a0 a1 a2 a3 a4 a5 a6 a7 a8 a9 a10 a11 a12 a13 a14 a15 a16 a17 a18 a19 a20 a21 a22 a23 a24:UInt64) (K:Nat→Nat→Nat→Nat→Nat→Nat→Nat→Nat→Nat→Nat→Nat→Nat→Nat→Nat→Nat→Nat→Nat→Nat→Nat→Nat→Nat→Nat→Nat→Nat→Nat→α):nchiR c.toNat a0.toNat a1.toNat a2.toNat a3.toNat a4.toNat a5.toNat a6.toNat a7.toNat a8.toNat a9.toNat a10.toNat a11.toNat a12.toNat a13.toNat a14.toNat a15.toNat a16.toNat a17.toNat a18.toNat a19.toNat a20.toNat a21.toNat a22.toNat a23.toNat a24.toNat K=uchiR c a0 a1 a2 a3 a4 a5 a6 a7 a8 a9 a10 a11 a12 a13 a14 a15 a16 a17 a18 a19 a20 a21 a22 a23 a24 (fun a0 a1 a2 a3 a4 a5 a6 a7 a8 a9 a10 a11 a12 a13 a14 a15 a16 a17 a18 a19 a20 a21 a22 a23 a24=>K a0.toNat a1.toNat a2.toNat a3.toNat a4.toNat a5.toNat a6.toNat a7.toNat a8.toNat a9.toNat a10.toNat a11.toNat a12.toNat a13.toNat a14.toNat a15.toNat a16.toNat a17.toNat a18.toNat a19.toNat a20.toNat a21.toNat a22.toNat a23.toNat a24.toNat):=by
  simp only[nchiR,uchiR,UInt64.toNat_xor,← nchi_eq];rfl
theorem nrhoR_eq {α:Type} (c a0 a1 a2 a3 a4 a5 a6 a7 a8 a9 a10 a11 a12 a13 a14 a15 a16 a17 a18 a19 a20 a21 a22 a23 a24:UInt64) (K:Nat→Nat→Nat→Nat→Nat→Nat→Nat→Nat→Nat→Nat→Nat→Nat→Nat→Nat→Nat→Nat→Nat→Nat→Nat→Nat→Nat→Nat→Nat→Nat→Nat→α):nrhoR c.toNat a0.toNat a1.toNat a2.toNat a3.toNat a4.toNat a5.toNat a6.toNat a7.toNat a8.toNat a9.toNat a10.toNat a11.toNat a12.toNat a13.toNat a14.toNat a15.toNat a16.toNat a17.toNat a18.toNat a19.toNat a20.toNat a21.toNat a22.toNat a23.toNat a24.toNat K=urhoR c a0 a1 a2 a3 a4 a5 a6 a7 a8 a9 a10 a11 a12 a13 a14 a15 a16 a17 a18 a19 a20 a21 a22 a23 a24 (fun a0 a1 a2 a3 a4 a5 a6 a7 a8 a9 a10 a11 a12 a13 a14 a15 a16 a17 a18 a19 a20 a21 a22 a23 a24=>K a0.toNat a1.toNat a2.toNat a3.toNat a4.toNat a5.toNat a6.toNat a7.toNat a8.toNat a9.toNat a10.toNat a11.toNat a12.toNat a13.toNat a14.toNat a15.toNat a16.toNat a17.toNat a18.toNat a19.toNat a20.toNat a21.toNat a22.toNat a23.toNat a24.toNat):=by
  unfold nrhoR urhoR;rw[← nrot_eq a0 0 64 (by omega) rfl,← nrot_eq a1 1 63 (by omega) rfl,← nrot_eq a2 62 2 (by omega) rfl,← nrot_eq a3 28 36 (by omega) rfl,← nrot_eq a4 27 37 (by omega) rfl,← nrot_eq a5 36 28 (by omega) rfl,← nrot_eq a6 44 20 (by omega) rfl,← nrot_eq a7 6 58 (by omega) rfl,← nrot_eq a8 55 9 (by omega) rfl,← nrot_eq a9 20 44 (by omega) rfl,← nrot_eq a10 3 61 (by omega) rfl,← nrot_eq a11 10 54 (by omega) rfl,← nrot_eq a12 43 21 (by omega) rfl,← nrot_eq a13 25 39 (by omega) rfl,← nrot_eq a14 39 25 (by omega) rfl,← nrot_eq a15 41 23 (by omega) rfl,← nrot_eq a16 45 19 (by omega) rfl,← nrot_eq a17 15 49 (by omega) rfl,← nrot_eq a18 21 43 (by omega) rfl,← nrot_eq a19 8 56 (by omega) rfl,← nrot_eq a20 18 46 (by omega) rfl,← nrot_eq a21 2 62 (by omega) rfl,← nrot_eq a22 61 3 (by omega) rfl,← nrot_eq a23 56 8 (by omega) rfl,← nrot_eq a24 14 50 (by omega) rfl];exact nchiR_eq c _ _ _ _ _ _ _ _ _ _ _ _ _ _ _ _ _ _ _ _ _ _ _ _ _ K
theorem nxor_eq (x y:UInt64):Nat.xor x.toNat y.toNat=(x^^^y).toNat:=(UInt64.toNat_xor x y).symm
theorem nthR_eq {α:Type} (c a0 a1 a2 a3 a4 a5 a6 a7 a8 a9 a10 a11 a12 a13 a14 a15 a16 a17 a18 a19 a20 a21 a22 a23 a24 d0 d1 d2 d3 d4:UInt64) (K:Nat→Nat→Nat→Nat→Nat→Nat→Nat→Nat→Nat→Nat→Nat→Nat→Nat→Nat→Nat→Nat→Nat→Nat→Nat→Nat→Nat→Nat→Nat→Nat→Nat→α):nthR c.toNat a0.toNat a1.toNat a2.toNat a3.toNat a4.toNat a5.toNat a6.toNat a7.toNat a8.toNat a9.toNat a10.toNat a11.toNat a12.toNat a13.toNat a14.toNat a15.toNat a16.toNat a17.toNat a18.toNat a19.toNat a20.toNat a21.toNat a22.toNat a23.toNat a24.toNat d0.toNat d1.toNat d2.toNat d3.toNat d4.toNat K=uthR c a0 a1 a2 a3 a4 a5 a6 a7 a8 a9 a10 a11 a12 a13 a14 a15 a16 a17 a18 a19 a20 a21 a22 a23 a24 d0 d1 d2 d3 d4 (fun a0 a1 a2 a3 a4 a5 a6 a7 a8 a9 a10 a11 a12 a13 a14 a15 a16 a17 a18 a19 a20 a21 a22 a23 a24=>K a0.toNat a1.toNat a2.toNat a3.toNat a4.toNat a5.toNat a6.toNat a7.toNat a8.toNat a9.toNat a10.toNat a11.toNat a12.toNat a13.toNat a14.toNat a15.toNat a16.toNat a17.toNat a18.toNat a19.toNat a20.toNat a21.toNat a22.toNat a23.toNat a24.toNat):=by
  unfold nthR uthR;simp only[nxor_eq];exact nrhoR_eq c _ _ _ _ _ _ _ _ _ _ _ _ _ _ _ _ _ _ _ _ _ _ _ _ _ K
theorem ncR_eq {α:Type} (c a0 a1 a2 a3 a4 a5 a6 a7 a8 a9 a10 a11 a12 a13 a14 a15 a16 a17 a18 a19 a20 a21 a22 a23 a24 c0 c1 c2 c3 c4:UInt64) (K:Nat→Nat→Nat→Nat→Nat→Nat→Nat→Nat→Nat→Nat→Nat→Nat→Nat→Nat→Nat→Nat→Nat→Nat→Nat→Nat→Nat→Nat→Nat→Nat→Nat→α):ncR c.toNat a0.toNat a1.toNat a2.toNat a3.toNat a4.toNat a5.toNat a6.toNat a7.toNat a8.toNat a9.toNat a10.toNat a11.toNat a12.toNat a13.toNat a14.toNat a15.toNat a16.toNat a17.toNat a18.toNat a19.toNat a20.toNat a21.toNat a22.toNat a23.toNat a24.toNat c0.toNat c1.toNat c2.toNat c3.toNat c4.toNat K=ucR c a0 a1 a2 a3 a4 a5 a6 a7 a8 a9 a10 a11 a12 a13 a14 a15 a16 a17 a18 a19 a20 a21 a22 a23 a24 c0 c1 c2 c3 c4 (fun a0 a1 a2 a3 a4 a5 a6 a7 a8 a9 a10 a11 a12 a13 a14 a15 a16 a17 a18 a19 a20 a21 a22 a23 a24=>K a0.toNat a1.toNat a2.toNat a3.toNat a4.toNat a5.toNat a6.toNat a7.toNat a8.toNat a9.toNat a10.toNat a11.toNat a12.toNat a13.toNat a14.toNat a15.toNat a16.toNat a17.toNat a18.toNat a19.toNat a20.toNat a21.toNat a22.toNat a23.toNat a24.toNat):=by
  unfold ncR ucR;simp only[← nmix_eq];exact nthR_eq c a0 a1 a2 a3 a4 a5 a6 a7 a8 a9 a10 a11 a12 a13 a14 a15 a16 a17 a18 a19 a20 a21 a22 a23 a24 _ _ _ _ _ K
theorem nround_eq {α:Type} (c a0 a1 a2 a3 a4 a5 a6 a7 a8 a9 a10 a11 a12 a13 a14 a15 a16 a17 a18 a19 a20 a21 a22 a23 a24:UInt64) (K:Nat→Nat→Nat→Nat→Nat→Nat→Nat→Nat→Nat→Nat→Nat→Nat→Nat→Nat→Nat→Nat→Nat→Nat→Nat→Nat→Nat→Nat→Nat→Nat→Nat→α):nround c.toNat a0.toNat a1.toNat a2.toNat a3.toNat a4.toNat a5.toNat a6.toNat a7.toNat a8.toNat a9.toNat a10.toNat a11.toNat a12.toNat a13.toNat a14.toNat a15.toNat a16.toNat a17.toNat a18.toNat a19.toNat a20.toNat a21.toNat a22.toNat a23.toNat a24.toNat K=uround c a0 a1 a2 a3 a4 a5 a6 a7 a8 a9 a10 a11 a12 a13 a14 a15 a16 a17 a18 a19 a20 a21 a22 a23 a24 (fun a0 a1 a2 a3 a4 a5 a6 a7 a8 a9 a10 a11 a12 a13 a14 a15 a16 a17 a18 a19 a20 a21 a22 a23 a24=>K a0.toNat a1.toNat a2.toNat a3.toNat a4.toNat a5.toNat a6.toNat a7.toNat a8.toNat a9.toNat a10.toNat a11.toNat a12.toNat a13.toNat a14.toNat a15.toNat a16.toNat a17.toNat a18.toNat a19.toNat a20.toNat a21.toNat a22.toNat a23.toNat a24.toNat):=by
  unfold nround uround nfive;simp only[nxor_eq];exact ncR_eq c a0 a1 a2 a3 a4 a5 a6 a7 a8 a9 a10 a11 a12 a13 a14 a15 a16 a17 a18 a19 a20 a21 a22 a23 a24 _ _ _ _ _ K

/-- Rounds by a list of constants. -/
def iotaC (c:UInt64) (l:List UInt64):List UInt64:=l.set 0 (l.getD 0 0^^^c)
def kperm (l:List UInt64):List UInt64:=chi (pi (rho (theta l)))
def kstep (l:List UInt64) (c:UInt64):List UInt64:=iotaC c (kperm l)
def krs (l:List UInt64):List UInt64→List UInt64
  | []=>l
  | c::cs=>krs (kstep l c) cs
def krsA (l cs:List UInt64):Nat→List UInt64
  | 0=>l
  | k+1=>kstep (krsA l cs k) (cs.getD k 0)
theorem krsA_cons (l:List UInt64) (c:UInt64) (cs:List UInt64):∀ k,krsA l (c::cs) (k+1)=krsA (kstep l c) cs k
  | 0=>by simp only[krsA,List.getD_cons_zero]
  | k+1=>by rw[krsA,krsA_cons l c cs k,krsA,List.getD_cons_succ]
theorem krs_eq:∀ (cs l:List UInt64),krs l cs=krsA l cs cs.length
  | [],l=>by simp only[krs,krsA,List.length_nil]
  | c::cs,l=>by rw[krs,krs_eq cs,List.length_cons,krsA_cons]
theorem kstep_round (l:List UInt64) (k:Nat):kstep l (consts.getD k 0)=kround l k:=by unfold kstep iotaC kround iota kperm;exact Eq.refl _
theorem krsA_kfA (l:List UInt64):∀ k,krsA l consts k=kfA l k
  | 0=>by simp only[krsA,kfA]
  | k+1=>by simp only[krsA,kfA,krsA_kfA l k,kstep_round]
theorem krs_kf (l:List UInt64):krs l consts=kf l:=by
  have h:consts.length=24:=rfl;rw[krs_eq,h,krsA_kfA];unfold kf;exact Eq.refl _
theorem uround_get (c:UInt64) (x0 x1 x2 x3 x4 x5 x6 x7 x8 x9 x10 x11 x12 x13 x14 x15 x16 x17 x18 x19 x20 x21 x22 x23 x24:UInt64):uround c x0 x1 x2 x3 x4 x5 x6 x7 x8 x9 x10 x11 x12 x13 x14 x15 x16 x17 x18 x19 x20 x21 x22 x23 x24 (fun a0 a1 a2 a3 a4 a5 a6 a7 a8 a9 a10 a11 a12 a13 a14 a15 a16 a17 a18 a19 a20 a21 a22 a23 a24=>[a0,a1,a2,a3,a4,a5,a6,a7,a8,a9,a10,a11,a12,a13,a14,a15,a16,a17,a18,a19,a20,a21,a22,a23,a24])=kstep [x0,x1,x2,x3,x4,x5,x6,x7,x8,x9,x10,x11,x12,x13,x14,x15,x16,x17,x18,x19,x20,x21,x22,x23,x24] c:=by
  unfold kstep iotaC kperm;have h:=thC_of x0 x1 x2 x3 x4 x5 x6 x7 x8 x9 x10 x11 x12 x13 x14 x15 x16 x17 x18 x19 x20 x21 x22 x23 x24;rw[theta_of x0 x1 x2 x3 x4 x5 x6 x7 x8 x9 x10 x11 x12 x13 x14 x15 x16 x17 x18 x19 x20 x21 x22 x23 x24 _ _ _ _ _ h,rho_of,pi_of,chi_of];show(_:List UInt64)=_;kernel_rfl
theorem uround_fold (c x0 x1 x2 x3 x4 x5 x6 x7 x8 x9 x10 x11 x12 x13 x14 x15 x16 x17 x18 x19 x20 x21 x22 x23 x24:UInt64) (cs:List UInt64):uround c x0 x1 x2 x3 x4 x5 x6 x7 x8 x9 x10 x11 x12 x13 x14 x15 x16 x17 x18 x19 x20 x21 x22 x23 x24 (fun a0 a1 a2 a3 a4 a5 a6 a7 a8 a9 a10 a11 a12 a13 a14 a15 a16 a17 a18 a19 a20 a21 a22 a23 a24=>(krs [a0,a1,a2,a3,a4,a5,a6,a7,a8,a9,a10,a11,a12,a13,a14,a15,a16,a17,a18,a19,a20,a21,a22,a23,a24] cs).map (·.toNat))=(krs (uround c x0 x1 x2 x3 x4 x5 x6 x7 x8 x9 x10 x11 x12 x13 x14 x15 x16 x17 x18 x19 x20 x21 x22 x23 x24 (fun a0 a1 a2 a3 a4 a5 a6 a7 a8 a9 a10 a11 a12 a13 a14 a15 a16 a17 a18 a19 a20 a21 a22 a23 a24=>[a0,a1,a2,a3,a4,a5,a6,a7,a8,a9,a10,a11,a12,a13,a14,a15,a16,a17,a18,a19,a20,a21,a22,a23,a24])) cs).map (·.toNat):=by kernel_rfl
theorem nrounds_eq:∀ (cs:List UInt64) (x0 x1 x2 x3 x4 x5 x6 x7 x8 x9 x10 x11 x12 x13 x14 x15 x16 x17 x18 x19 x20 x21 x22 x23 x24:UInt64),nrounds (cs.map (·.toNat)) x0.toNat x1.toNat x2.toNat x3.toNat x4.toNat x5.toNat x6.toNat x7.toNat x8.toNat x9.toNat x10.toNat x11.toNat x12.toNat x13.toNat x14.toNat x15.toNat x16.toNat x17.toNat x18.toNat x19.toNat x20.toNat x21.toNat x22.toNat x23.toNat x24.toNat=(krs [x0,x1,x2,x3,x4,x5,x6,x7,x8,x9,x10,x11,x12,x13,x14,x15,x16,x17,x18,x19,x20,x21,x22,x23,x24] cs).map (·.toNat)
  | [],x0,x1,x2,x3,x4,x5,x6,x7,x8,x9,x10,x11,x12,x13,x14,x15,x16,x17,x18,x19,x20,x21,x22,x23,x24=>rfl
  | c::cs,x0,x1,x2,x3,x4,x5,x6,x7,x8,x9,x10,x11,x12,x13,x14,x15,x16,x17,x18,x19,x20,x21,x22,x23,x24=>by
    show nround c.toNat x0.toNat x1.toNat x2.toNat x3.toNat x4.toNat x5.toNat x6.toNat x7.toNat x8.toNat x9.toNat x10.toNat x11.toNat x12.toNat x13.toNat x14.toNat x15.toNat x16.toNat x17.toNat x18.toNat x19.toNat x20.toNat x21.toNat x22.toNat x23.toNat x24.toNat (nrounds (cs.map (·.toNat)))=_;have ih:(fun a0 a1 a2 a3 a4 a5 a6 a7 a8 a9 a10 a11 a12 a13 a14 a15 a16 a17 a18 a19 a20 a21 a22 a23 a24=>nrounds (cs.map (·.toNat)) a0.toNat a1.toNat a2.toNat a3.toNat a4.toNat a5.toNat a6.toNat a7.toNat a8.toNat a9.toNat a10.toNat a11.toNat a12.toNat a13.toNat a14.toNat a15.toNat a16.toNat a17.toNat a18.toNat a19.toNat a20.toNat a21.toNat a22.toNat a23.toNat a24.toNat)=(fun a0 a1 a2 a3 a4 a5 a6 a7 a8 a9 a10 a11 a12 a13 a14 a15 a16 a17 a18 a19 a20 a21 a22 a23 a24=>(krs [a0,a1,a2,a3,a4,a5,a6,a7,a8,a9,a10,a11,a12,a13,a14,a15,a16,a17,a18,a19,a20,a21,a22,a23,a24] cs).map (·.toNat)):=by funext a0 a1 a2 a3 a4 a5 a6 a7 a8 a9 a10 a11 a12 a13 a14 a15 a16 a17 a18 a19 a20 a21 a22 a23 a24;exact nrounds_eq cs a0 a1 a2 a3 a4 a5 a6 a7 a8 a9 a10 a11 a12 a13 a14 a15 a16 a17 a18 a19 a20 a21 a22 a23 a24
    rw[nround_eq,ih,krs,← uround_get c x0 x1 x2 x3 x4 x5 x6 x7 x8 x9 x10 x11 x12 x13 x14 x15 x16 x17 x18 x19 x20 x21 x22 x23 x24];exact uround_fold c x0 x1 x2 x3 x4 x5 x6 x7 x8 x9 x10 x11 x12 x13 x14 x15 x16 x17 x18 x19 x20 x21 x22 x23 x24 cs
theorem nkf_eq (l:List UInt64) (h:l.length=25):nkf (l.map (·.toNat))=(kf l).map (·.toNat):=by
  match l,h with
  | [x0,x1,x2,x3,x4,x5,x6,x7,x8,x9,x10,x11,x12,x13,x14,x15,x16,x17,x18,x19,x20,x21,x22,x23,x24],_=>
    rw[← krs_kf,← nrounds_eq]
    rfl
end Go.Rx

/- The states that have taken in nothing, reckoned by the kernel. -/
namespace Go.Rx
set_option maxRecDepth 100000
end Go.Rx

/- Plain laws of layer 12: what the statements' first look sees, coefficients one by one. -/
namespace Go.Rx
theorem noA_get (eta:Nat) (b:List UInt8):∀ i k,i≤256→k<i→(noA eta b i).getD k 0=((zsub ((onesN b (2*k*eta) eta:Nat):Int) ((onesN b (2*k*eta+eta) eta:Nat):Int):Nat):Int)
  | 0,k,_,h=>by omega
  | i+1,k,hi,h=>by
    rw[noA,getD_set_eq _ _ _ _ _ (by rw[noA_len];omega)];by_cases e:i=k
    · subst e;rw[if_pos rfl]
    · rw[if_neg e];exact noA_get eta b i k (by omega) (by omega)
theorem unA_get (d:Nat) (b:List UInt8):∀ i k,i≤256→k<i→(unA d b i).getD k 0=((zmod ((btA b (d*k) d:Nat):Int):Nat):Int)
  | 0,k,_,h=>by omega
  | i+1,k,hi,h=>by
    rw[unA,getD_set_eq _ _ _ _ _ (by rw[unA_len];omega)];by_cases e:i=k
    · subst e;rw[if_pos rfl]
    · rw[if_neg e];exact unA_get d b i k (by omega) (by omega)
theorem sqA_get (d:Int) (p:List Int) (hp:p.length=256):∀ i k,i≤256→(sqA d p i).getD k 0=if k<i then((zcompZ d (p.getD k 0):Nat):Int) else p.getD k 0
  | 0,k,_=>by rw[sqA,if_neg (by omega)]
  | i+1,k,hi=>by
    rw[sqA,getD_set_eq _ _ _ _ _ (by rw[sqA_len];omega),sqA_get d p hp i i (by omega),sqA_get d p hp i k (by omega),if_neg (Nat.lt_irrefl i)];by_cases e:i=k
    · subst e;rw[if_pos rfl,if_pos (by omega)]
    · rw[if_neg e];by_cases e2:k<i
      · rw[if_pos e2,if_pos (by omega)]
      · rw[if_neg e2,if_neg (by omega)]
theorem spA_get (d:Int) (p:List Int) (hp:p.length=256):∀ i k,i≤256→(spA d p i).getD k 0=if k<i then((zdecZ d (p.getD k 0):Nat):Int) else p.getD k 0
  | 0,k,_=>by rw[spA,if_neg (by omega)]
  | i+1,k,hi=>by
    rw[spA,getD_set_eq _ _ _ _ _ (by rw[spA_len];omega),spA_get d p hp i i (by omega),spA_get d p hp i k (by omega),if_neg (Nat.lt_irrefl i)];by_cases e:i=k
    · subst e;rw[if_pos rfl,if_pos (by omega)]
    · rw[if_neg e];by_cases e2:k<i
      · rw[if_pos e2,if_pos (by omega)]
      · rw[if_neg e2,if_neg (by omega)]
set_option maxRecDepth 100000
theorem back_map12 (l m:List UInt64) (h:l.length=25) (e:(nkf (l.map (·.toNat))).map UInt64.ofNat=m):kf l=m:=by
  rw[← e,nkf_eq l h,List.map_map];have:(UInt64.ofNat ∘ fun x:UInt64=>x.toNat)=id:=by funext x;exact UInt64.ofNat_toNat
  rw[this,List.map_id]
end Go.Rx

/- Plain laws of layer 12: there and back. -/
namespace Go.Rx
theorem exq256 (a b:List Int) (ha:a.length=256) (hb:b.length=256) (h:∀ k,k<256→a.getD k 0=b.getD k 0):a=b:=
  ext_getD 0 a b (by rw[ha,hb]) fun i hi=>h i (by omega)
theorem zero_get (k:Nat):zero256.getD k 0=(0:Int):=by
  simp only[List.getD_eq_getElem?_getD,List.getElem?_replicate];split <;> rfl
theorem btA_of (b:List UInt8) (o X:Nat):∀ n,(∀ j,j<n→bitN b (o+j)=X / 2 ^ j % 2)→btA b o n=X % 2 ^ n
  | 0,_=>by rw[btA,Nat.pow_zero,Nat.mod_one]
  | n+1,h=>by rw[btA,btA_of b o X n (fun j hj=>h j (by omega)),h n (by omega),Nat.mod_pow_succ,Nat.mul_comm]
def wA (d:Nat) (p:List Int):Nat→List Int
  | 0=>cl p
  | i+1=>(wA d p i).set i ((((wA d p i).getD i 0 % (2 ^ d:Nat)).toNat:Nat):Int)
theorem cl_len (p:List Int):(cl p).length=p.length:=by rw[cl];exact eaA_len _ _ _ 256
theorem cl_get (p:List Int) (hp:p.length=256) (k:Nat) (hk:k<256):(cl p).getD k 0=((zmod (p.getD k 0):Nat):Int):=by
  rw[cl,eaA_get _ p p hp 256 (Nat.le_refl _) k,if_pos hk]
/-! ### Small ones are small -/
def ffA (n:Nat):Nat→List UInt8
  | 0=>List.replicate n 0
  | i+1=>(ffA n i).set i 255
theorem ffA_len (n:Nat):∀ i,(ffA n i).length=n
  | 0=>lR
  | i+1=>by rw[ffA,List.length_set];exact ffA_len n i
theorem ffA_get (n:Nat):∀ i k,i≤n→k<i→(ffA n i).getD k 0=255
  | 0,k,_,h=>by omega
  | i+1,k,hi,h=>by
    rw[ffA,getD_set_eq _ _ _ _ _ (by rw[ffA_len];omega)];by_cases e:i=k
    · rw[if_pos e]
    · rw[if_neg e];exact ffA_get n i k (by omega) (by omega)
theorem ff_bit (n k:Nat) (h:k<8*n):bitN (ffA n n) k=1:=by
  rw[bitN,ffA_get n n _ (Nat.le_refl _) (by omega)];have h8:k % 8<8:=Nat.mod_lt _ (by omega);generalize k % 8=j at*;rcases(show j=0∨j=1∨j=2∨j=3∨j=4∨j=5∨j=6∨j=7 by omega) with rfl | rfl | rfl | rfl | rfl | rfl | rfl | rfl <;> rfl
end Go.Rx

/- The document's keys are the program's. -/
namespace Go.Rx
set_option maxRecDepth 100000
theorem mat_app (rho:List UInt8) (i j:Nat):uni (rho++[UInt8.ofNat j,UInt8.ofNat i])=mat rho i j:=by
  have e:[rho,([UInt8.ofNat j,UInt8.ofNat i]:List UInt8)].flatten=rho++[UInt8.ofNat j,UInt8.ofNat i]:=by simp
  rw[mat,e]
theorem rg_rs (l:List Int) (i j:Nat) (d:List Int) (hl:l.length=768) (hd:d.length=256) (hi:i<3) (hj:j<3):rg (rs l i d) j=if i=j then d else rg l j:=by
  have hlen:=rs_len768 l i d hl hd hi;by_cases e:i=j
  · subst e
    rw[if_pos rfl,rg,rs,List.append_assoc,List.drop_append_of_le_length (by rw[List.length_take];omega),List.drop_of_length_le (by rw[List.length_take];omega),List.nil_append,List.take_append_of_le_length (by omega),List.take_of_length_le (by omega)]
  · rw[if_neg e]
    refine ext_getD 0 _ _ (by rw[rg_len _ _ (by omega),rg_len _ _ (by omega)]) fun k hk=>?_;rw[rg_len _ _ (by omega)] at hk;have g:∀ (m:List Int),(rg m j).getD k 0=m.getD (j*256+k) 0:=fun m=>by
      rw[rg];simp only[List.getD_eq_getElem?_getD];rw[List.getElem?_take,if_pos hk,List.getElem?_drop]
    rw[g,g,rs];simp only[List.getD_eq_getElem?_getD];rcases Nat.lt_or_ge j i with h | h
    · rw[List.append_assoc,List.getElem?_append_left (by rw[List.length_take];omega),List.getElem?_take,if_pos (by omega)]
    · rw[List.getElem?_append_right (by simp only[lA,List.length_take];omega),List.getElem?_drop]
      congr 2
      simp only[lA,List.length_take];omega
theorem rg_app_lt (a b:List Int) (j:Nat) (h:j*256+256≤a.length):rg (a++b) j=rg a j:=by
  rw[rg,rg,List.drop_append_of_le_length (by omega),List.take_append_of_le_length (by rw[List.length_drop];omega)]
theorem rg_app_eq (a b:List Int) (j:Nat) (h:a.length=j*256) (hb:b.length=256):rg (a++b) j=b:=by
  rw[rg,← h,List.drop_left,List.take_of_length_le (by omega)]
theorem rg_zero (j:Nat) (hj:j<3):rg zero768 j=zero256:=by
  rw[rg,List.drop_replicate,List.take_replicate];congr 1;omega
theorem smA_get (seed:List UInt8) (n:Nat):∀ i j,i≤3→j<i→rg (smA seed n i) j=small2 seed (n+j)
  | 0,j,_,h=>by omega
  | i+1,j,hi,h=>by
    rw[smA,rg_rs _ _ _ _ (smA_len _ _ _ (by omega)) (small2_len _ _) (by omega) (by omega)];by_cases e:i=j
    · subst e;rw[if_pos rfl]
    · rw[if_neg e];exact smA_get seed n i j (by omega) (by omega)
theorem eaR_get (f:List Int→List Int) (hf:∀ p,p.length=256→(f p).length=256) (r:List Int) (hr:r.length=768):∀ i j,i≤3→j<3→rg (eaR f r i) j=if j<i then f (rg r j) else rg r j
  | 0,j,_,_=>by rw[eaR,if_neg (by omega)]
  | i+1,j,hi,hj=>by
    have hl:=eaR_len f hf r hr i (by omega);rw[eaR,rg_rs _ _ _ _ hl (hf _ (rg_len _ _ (by omega))) (by omega) hj,eaR_get f hf r hr i i (by omega) (by omega),eaR_get f hf r hr i j (by omega) hj,if_neg (Nat.lt_irrefl i)];by_cases e:i=j
    · subst e;rw[if_pos rfl,if_pos (by omega)]
    · rw[if_neg e];by_cases e2:j<i
      · rw[if_pos e2,if_pos (by omega)]
      · rw[if_neg e2,if_neg (by omega)]
theorem plR_get (r s:List Int) (hr:r.length=768):∀ i j,i≤3→j<3→rg (plR r s i) j=if j<i then pl (rg r j) (rg s j) else rg r j
  | 0,j,_,_=>by rw[plR,if_neg (by omega)]
  | i+1,j,hi,hj=>by
    have hl:=plR_len r s hr i (by omega);rw[plR,rg_rs _ _ _ _ hl (pl_len _ _ (rg_len _ _ (by omega))) (by omega) hj,plR_get r s hr i i (by omega) (by omega),plR_get r s hr i j (by omega) hj,if_neg (Nat.lt_irrefl i)];by_cases e:i=j
    · subst e;rw[if_pos rfl,if_pos (by omega)]
    · rw[if_neg e];by_cases e2:j<i
      · rw[if_pos e2,if_pos (by omega)]
      · rw[if_neg e2,if_neg (by omega)]
/-- A sum of products, from some start on. -/
def chn (M:Nat→List Int) (r:Nat→List Int) (o:List Int):Nat→List Int
  | 0=>o
  | j+1=>pl (chn M r o j) (tms (M j) (r j))
theorem chn_len (M r:Nat→List Int) (o:List Int) (ho:o.length=256):∀ j,(chn M r o j).length=256
  | 0=>ho
  | j+1=>by rw[chn];exact pl_len _ _ (chn_len M r o ho j)
theorem tiB_get (M:Nat→Nat→List Int) (r o:List Int) (ho:o.length=768) (i:Nat) (hi:i<3) (k:Nat) (hk:k<3):∀ j,rg (tiB M r o i j) k=if i=k then chn (M i) (rg r) (rg o i) j else rg o k
  | 0=>by rw[tiB,chn];by_cases e:i=k <;> simp[e]
  | j+1=>by
    have hl:=tiB_len M r o ho i hi j;rw[tiB,rg_rs _ _ _ _ hl (pl_len _ _ (rg_len _ _ (by omega))) hi hk];by_cases e:i=k
    · subst e;rw[if_pos rfl,if_pos rfl,chn,tiB_get M r o ho i hi i hk j,if_pos rfl]
    · rw[if_neg e,if_neg e,tiB_get M r o ho i hi k hk j,if_neg e]
theorem tiA_get (M:Nat→Nat→List Int) (r:List Int):∀ i k,i≤3→k<3→rg (tiA M r i) k=if k<i then chn (M k) (rg r) zero256 3 else zero256
  | 0,k,_,hk=>by rw[tiA,if_neg (by omega),rg_zero k hk]
  | i+1,k,hi,hk=>by
    rw[tiA,tiB_get M r _ (tiA_len M r i (by omega)) i (by omega) k hk 3,tiA_get M r i i (by omega) (by omega),tiA_get M r i k (by omega) hk,if_neg (Nat.lt_irrefl i)];by_cases e:i=k
    · subst e;rw[if_pos rfl,if_pos (by omega)]
    · rw[if_neg e];by_cases e2:k<i
      · rw[if_pos e2,if_pos (by omega)]
      · rw[if_neg e2,if_neg (by omega)]
theorem pl_get (p q:List Int) (hp:p.length=256) (k:Nat) (hk:k<256):(pl p q).getD k 0=((zadd (p.getD k 0) (q.getD k 0):Nat):Int):=by
  rw[pl,eaA_get _ p q hp 256 (Nat.le_refl _) k,if_pos hk]
/-- The start may come last. -/
theorem chn_last (M r:Nat→List Int) (e:List Int) (he:e.length=256):pl (chn M r zero256 3) e=chn M r e 3:=by
  have hz:zero256.length=256:=lR;refine exq256 _ _ (pl_len _ _ (chn_len M r _ hz 3)) (chn_len M r e he 3) fun k hk=>?_;have g:∀ o:List Int,o.length=256→(chn M r o 3).getD k 0=((zadd ((zadd ((zadd (o.getD k 0) ((tms (M 0) (r 0)).getD k 0):Nat):Int) ((tms (M 1) (r 1)).getD k 0):Nat):Int) ((tms (M 2) (r 2)).getD k 0):Nat):Int):=fun o ho=>by
    rw[chn,pl_get _ _ (chn_len M r o ho 2) k hk,chn,pl_get _ _ (chn_len M r o ho 1) k hk,chn,pl_get _ _ (chn_len M r o ho 0) k hk,chn]
  rw[pl_get _ _ (chn_len M r _ hz 3) k hk,g _ hz,g _ he,zero_get];simp only[zadd_eq,zmod_nat];have h0:zmod 0=0:=rfl;have h1:=zmod_lt (e.getD k 0);rw[h0];omega
theorem gS_get (d:List UInt8) (j:Nat) (hj:j<3):rg (gS d) j=fwd (small2 (gSeed d) j):=by
  rw[gS,eaR_get _ fwd_len _ (smA_len _ _ 3 (by omega)) 3 j (by omega) hj,if_pos hj,smA_get _ _ 3 j (by omega) hj,Nat.zero_add]
theorem gT_get (d:List UInt8) (i:Nat) (hi:i<3):rg (gT d) i=chn (mat (gRho d) i) (rg (gS d)) (fwd (small2 (gSeed d) (3+i))) 3:=by
  have hf:(fwd (small2 (gSeed d) (3+i))).length=256:=fwd_len _ (small2_len _ _);rw[gT,plR_get _ _ (tiA_len _ _ 3 (by omega)) 3 i (by omega) hi,if_pos hi,tiA_get _ _ 3 i (by omega) hi,if_pos hi,eaR_get _ fwd_len _ (smA_len _ _ 3 (by omega)) 3 i (by omega) hi,if_pos hi,smA_get _ _ 3 i (by omega) hi,chn_last _ _ _ hf]
/-! ### As the document has them -/
def rowF (s:List UInt8):Nat→List Int
  | 0=>[]
  | i+1=>rowF s i++fwd (small2 s i)
theorem rowF_len (s:List UInt8):∀ i,(rowF s i).length=i*256
  | 0=>rfl
  | i+1=>by rw[rowF,lA,rowF_len s i,fwd_len _ (small2_len _ _)];omega
theorem rowF_get (s:List UInt8):∀ i j,j<i→rg (rowF s i) j=fwd (small2 s j)
  | 0,j,h=>by omega
  | i+1,j,h=>by
    have hl:=rowF_len s i;rw[rowF];rcases Nat.lt_or_ge j i with h1 | h1
    · rw[rg_app_lt _ _ _ (by omega)];exact rowF_get s i j h1
    · obtain rfl:j=i:=by omega
      exact rg_app_eq _ _ _ hl (fwd_len _ (small2_len _ _))
theorem chn_congr (M r q:Nat→List Int) (o:List Int) (h:∀ j,j<3→r j=q j):∀ n,n≤3→chn M r o n=chn M q o n
  | 0,_=>rfl
  | n+1,hn=>by rw[chn,chn,chn_congr M r q o h n (by omega),h n (by omega)]
end Go.Rx

/- What the document encrypts and decrypts is the program's. -/
namespace Go.Rx
set_option maxRecDepth 100000
def parA (d:Nat) (b:List UInt8) (i:Nat):List Int:=unA d ((b.drop (32*d*i)).take (32*d)) 256
theorem parA_len (d:Nat) (b:List UInt8) (i:Nat):(parA d b i).length=256:=unA_len _ _ _
theorem unR_get (d:Nat) (b:List UInt8):∀ i j,i≤3→j<i→rg (unR d b i) j=parA d b j
  | 0,j,_,h=>by omega
  | i+1,j,hi,h=>by
    rw[unR,rg_rs _ _ _ _ (unR_len d b i (by omega)) (unA_len _ _ _) (by omega) (by omega)];by_cases e:i=j
    · subst e;rw[if_pos rfl];rfl
    · rw[if_neg e];exact unR_get d b i j (by omega) (by omega)
theorem cut_take {α:Type} (l:List α) (k n m:Nat) (h:k+n≤m):((l.take m).drop k).take n=(l.drop k).take n:=by
  rw[List.drop_take,List.take_take,Nat.min_eq_left (by omega)]
theorem parA_take (d:Nat) (b:List UInt8) (i m:Nat) (h:32*d*i+32*d≤m):parA d (b.take m) i=parA d b i:=by
  rw[parA,parA,cut_take _ _ _ _ h]
/-! ### What is encrypted -/
def uF (rho r:List UInt8) (i:Nat):Nat→List Int:=chn (matT rho i) (rg (rowF r 3)) zero256
theorem uF_len (rho r:List UInt8) (i j:Nat):(uF rho r i j).length=256:=chn_len _ _ _ lR j
def uE (rho r:List UInt8) (i:Nat):List Int:=pl (inv (uF rho r i 3)) (small2 r (3+i))
def ctF (rho r:List UInt8):Nat→List UInt8
  | 0=>[]
  | i+1=>ctF rho r i++paA 10 (sqA (10:Int) (uE rho r i) 256) 256
theorem ctF_len (rho r:List UInt8):∀ i,(ctF rho r i).length=320*i
  | 0=>rfl
  | i+1=>by rw[ctF,lA,ctF_len rho r i,paA_len];omega
def vF (ek r:List UInt8):Nat→List Int
  | 0=>zero256
  | i+1=>pl (vF ek r i) (tms (parA 12 ek i) (rg (rowF r 3) i))
theorem vF_len (ek r:List UInt8):∀ i,(vF ek r i).length=256
  | 0=>lR
  | i+1=>by rw[vF];exact pl_len _ _ (vF_len ek r i)
def vE (ek m r:List UInt8):List Int:=pl (pl (inv (vF ek r 3)) (small2 r 6)) (spA (1:Int) (unA 1 m 256) 256)
theorem eY_get (r:List UInt8) (j:Nat) (hj:j<3):rg (eY r) j=rg (rowF r 3) j:=by
  rw[rowF_get _ 3 j hj,eY,eaR_get _ fwd_len _ (smA_len _ _ 3 (by omega)) 3 j (by omega) hj,if_pos hj,smA_get _ _ 3 j (by omega) hj,Nat.zero_add]
theorem eU_get (ek r:List UInt8) (i:Nat) (hi:i<3):rg (eU ek r) i=uE (ek.drop 1152) r i:=by
  rw[eU,plR_get _ _ (eU0_len ek r) 3 i (by omega) hi,if_pos hi,eU0,eaR_get _ inv_len _ (tiA_len _ _ 3 (by omega)) 3 i (by omega) hi,if_pos hi,tiA_get _ _ 3 i (by omega) hi,if_pos hi,smA_get _ _ 3 i (by omega) hi,uE,uF];rw[chn_congr (matT (ek.drop 1152) i) (rg (eY r)) (rg (rowF r 3)) zero256 (fun j hj=>eY_get r j hj) 3 (by omega)]
theorem eC_get (ek r:List UInt8) (i:Nat) (hi:i<3):rg (eaR sq10 (eU ek r) 3) i=sqA (10:Int) (uE (ek.drop 1152) r i) 256:=by
  rw[eaR_get _ sq10_len _ (eU_len ek r) 3 i (by omega) hi,if_pos hi,eU_get ek r i hi,sq10]
theorem dotA_vF (ek r:List UInt8):∀ i,i≤3→dotA (unR 12 (ek.take 1152) 3) (eY r) i=vF ek r i
  | 0,_=>rfl
  | i+1,hi=>by rw[dotA,vF,dotA_vF ek r i (by omega),unR_get _ _ 3 i (by omega) (by omega),eY_get r i (by omega),parA_take _ _ _ _ (by omega)]
theorem eV_eq (ek m r:List UInt8):eV ek m r=vE ek m r:=by rw[eV,vE,dotA_vF ek r 3 (by omega)]
theorem enc_eq (ek m r:List UInt8):ctF (ek.drop 1152) r 3++paA 4 (sqA (4:Int) (vE ek m r) 256) 256=enc1 ek m r:=by
  have e:∀ a b:List UInt8,[a,b].flatten=a++b:=fun a b=>by simp
  rw[enc1,e,eV_eq,ctF,ctF,ctF,ctF,pkR,pkR,pkR,pkR,eC_get ek r 0 (by omega),eC_get ek r 1 (by omega),eC_get ek r 2 (by omega)]
/-! ### What is decrypted -/
def wdF (dk c:List UInt8):Nat→List Int
  | 0=>zero256
  | i+1=>pl (wdF dk c i) (prd (inv (parA 12 dk i)) (spA (10:Int) (parA 10 c i) 256))
theorem wdF_len (dk c:List UInt8):∀ i,(wdF dk c i).length=256
  | 0=>lR
  | i+1=>by rw[wdF];exact pl_len _ _ (wdF_len dk c i)
def wE (dk c:List UInt8):List Int:=mi (spA (4:Int) (unA 4 (c.drop 960) 256) 256) (wdF dk c 3)
theorem cl_red_id {p:List Int} (h:Red p):cl p=p:=
  exq256 _ _ (by rw[cl_len,h.len]) h.len fun k hk=>by
    rw[cl_get p h.len k hk];have:=h.rng k;obtain⟨n,hn⟩:=Int.eq_ofNat_of_zero_le this.1;rw[hn,zmod_nat,Nat.mod_eq_of_lt (by omega)]
theorem wdF_red (dk c:List UInt8) (i:Nat):Red (wdF dk c (i+1)):=by rw[wdF];exact pl_red _ _ (wdF_len dk c i)
theorem tms_cl (a b:List Int) (ha:a.length=256):tms (cl a) b=tms a b:=by rw[tms,tms,cl_red_id (cl_red a ha)]
theorem fwd_zero:fwd zero256=zero256:=by
  have h0:zero256.length=256:=lR;have h:pl (fwd zero256) (fwd zero256)=fwd zero256:=by
    have hz:pl zero256 zero256=zero256:=exq256 _ _ (pl_len _ _ h0) h0 fun k hk=>by rw[pl_get _ _ h0 k hk,zero_get];decide
    rw[← fwd_plus _ _ h0 h0,hz]
  refine exq256 _ _ (fwd_len _ h0) h0 fun k hk=>?_;have hk2:(pl (fwd zero256) (fwd zero256)).getD k 0=(fwd zero256).getD k 0:=by rw[h]
  rw[pl_get _ _ (fwd_len _ h0) k hk,zadd_eq] at hk2;have hb:=(fwd_red _ h0).rng k;obtain⟨n,hn⟩:=Int.eq_ofNat_of_zero_le hb.1;rw[hn] at hk2 hb ⊢;rw[zmod_nat,Nat.mod_eq_of_lt (by omega)] at hk2;rw[zero_get];omega
theorem fwd_wdF (dk c:List UInt8) (hc:c.length=1088):∀ i,i≤3→fwd (wdF dk c i)=dotA (unR 12 dk 3) (dU c) i
  | 0,_=>fwd_zero
  | i+1,hi=>by
    have hp:(prd (inv (parA 12 dk i)) (spA (10:Int) (parA 10 c i) 256)).length=256:=(prd_red _ _).len;rw[wdF,fwd_plus _ _ (wdF_len _ _ _) hp,fwd_wdF dk c hc i (by omega),dotA,fwd_prd,fwd_inv _ (parA_len _ _ _),tms_cl _ _ (parA_len _ _ _),unR_get _ _ 3 i (by omega) (by omega)];rw[dU,eaR_get _ fsp_len _ (unR_len _ _ 3 (by omega)) 3 i (by omega) (by omega),if_pos (by omega),unR_get _ _ 3 i (by omega) (by omega),fsp,parA_take _ _ _ _ (by omega)]
theorem wdF_eq (dk c:List UInt8) (hc:c.length=1088):inv (dotA (unR 12 dk 3) (dU c) 3)=wdF dk c 3:=by
  rw[← fwd_wdF dk c hc 3 (by omega),inv_fwd _ (wdF_len _ _ _),cl_red_id (wdF_red dk c 2)]
theorem dec_eq (dk c:List UInt8) (hc:c.length=1088):paA 1 (sqA (1:Int) (wE dk c) 256) 256=dec1 dk c:=by rw[dec1,dW,wdF_eq dk c hc,wE]
end Go.Rx

/- Keys, encryption and decryption, or refused. -/
namespace Go.Rx
end Go.Rx

/- Plain functions of layer 14: what a key may be, secrets, and that program and document agree on them. -/
namespace Go.Rx
set_option maxRecDepth 100000
/-- The document's words of a public key: all below 3329. -/
def ckA (b:List UInt8):Nat→Prop
  | 0=>True
  | i+1=>ckA b i∧btA b (12*i) 12<3329
theorem ckA_iff (b:List UInt8):∀ n,ckA b n↔∀ i,i<n→btA b (12*i) 12<3329
  | 0=>⟨fun _ i h=>by omega,fun _=>trivial⟩
  | n+1=>by
    rw[ckA,ckA_iff b n];constructor
    · rintro⟨h1,h2⟩ i hi
      rcases Nat.lt_or_ge i n with h | h
      · exact h1 i h
      · obtain rfl:i=n:=by omega
        exact h2
    · intro h;exact⟨fun i hi=>h i (by omega),h n (by omega)⟩
def cut (b:List UInt8) (i:Nat):List UInt8:=(b.drop (384*i)).take 384
theorem cut_len (b:List UInt8) (i:Nat) (h:384*i+384≤b.length):(cut b i).length=384:=by rw[cut,List.length_take,List.length_drop];omega
/-- The program's: each row of 384 is its own packed rests. -/
def ckP (b:List UInt8):Nat→Prop
  | 0=>True
  | i+1=>ckP b i∧paA 12 (unA 12 (cut b i) 256) 256=cut b i
theorem ckP_iff (b:List UInt8):∀ n,ckP b n↔∀ i,i<n→paA 12 (unA 12 (cut b i) 256) 256=cut b i
  | 0=>⟨fun _ i h=>by omega,fun _=>trivial⟩
  | n+1=>by
    rw[ckP,ckP_iff b n];constructor
    · rintro⟨h1,h2⟩ i hi
      rcases Nat.lt_or_ge i n with h | h
      · exact h1 i h
      · obtain rfl:i=n:=by omega
        exact h2
    · intro h;exact⟨fun i hi=>h i (by omega),h n (by omega)⟩
theorem btA_pa (p:List Int) (k:Nat) (hk:k<256):btA (paA 12 p 256) (12*k) 12=zmod (p.getD k 0):=by
  have hm:=Nat.mul_le_mul_left 12 (show k+1≤256 by omega);have hz:=zmod_lt (p.getD k 0);rw[btA_of _ _ (zmod (p.getD k 0)) 12,Nat.mod_eq_of_lt (by omega)];intro j hj;have e1:(12*k+j) / 12=k:=by omega
  have e2:(12*k+j) % 12=j:=by omega
  rw[paA_bit 12 (by omega) p 256 (Nat.le_refl _),if_pos (by omega),e1,e2]
theorem pa_un12 (b:List UInt8) (hb:b.length=384):paA 12 (unA 12 b 256) 256=b↔∀ k,k<256→btA b (12*k) 12<3329:=by
  constructor
  · intro h k hk
    rw[← h,btA_pa _ k hk];exact zmod_lt _
  · intro h
    refine bytes_ext _ _ (by rw[paA_len,hb]) fun k hk=>?_;rw[paA_len] at hk;have hq:k / 12<256:=by omega
    rw[paA_bit 12 (by omega) _ 256 (Nat.le_refl _),if_pos (by omega),unA_get _ _ 256 _ (by omega) hq,zmod_zmod,zmod_of_lt (h _ hq),bt_bit _ _ _ _ (Nat.mod_lt _ (by omega)),Nat.div_add_mod]
theorem bit_cut (b:List UInt8) (i k:Nat) (hk:k<3072):bitN (cut b i) k=bitN b (3072*i+k):=by
  have e1:(3072*i+k) / 8=384*i+k / 8:=by omega
  have e2:(3072*i+k) % 8=k % 8:=by omega
  rw[bitN,bitN,cut,getD_drop_take,if_pos (by omega),e1,e2]
theorem btA_cong (a b:List UInt8) (o p:Nat):∀ n,(∀ j,j<n→bitN a (o+j)=bitN b (p+j))→btA a o n=btA b p n
  | 0,_=>rfl
  | n+1,h=>by rw[btA,btA,btA_cong a b o p n (fun j hj=>h j (by omega)),h n (by omega)]
theorem btA_cut (b:List UInt8) (i k:Nat) (hk:k<256):btA (cut b i) (12*k) 12=btA b (12*(256*i+k)) 12:=
  btA_cong _ _ _ _ 12 fun j hj=>by rw[bit_cut b i _ (by omega)];congr 1;omega
theorem btA_take (b:List UInt8) (n o:Nat) (h:o+12≤8*n):btA (b.take n) o 12=btA b o 12:=
  btA_cong _ _ _ _ 12 fun j hj=>by
    have e:(b.take n).getD ((o+j) / 8) 0=b.getD ((o+j) / 8) 0:=by simp only[List.getD_eq_getElem?_getD];rw[List.getElem?_take,if_pos (by omega)]
    rw[bitN,bitN,e]
theorem ck_eq (b:List UInt8) (hb:b.length=1184):ckP b 3↔ckA (b.take 1152) 768:=by
  rw[ckP_iff,ckA_iff];constructor
  · intro h i hi
    have h1:=(pa_un12 (cut b (i / 256)) (cut_len b _ (by omega))).1 (h (i / 256) (by omega)) (i % 256) (Nat.mod_lt _ (by omega));rw[btA_cut b _ _ (Nat.mod_lt _ (by omega)),Nat.div_add_mod] at h1;rw[btA_take b 1152 _ (by omega)];exact h1
  · intro h i hi
    refine(pa_un12 (cut b i) (cut_len b i (by omega))).2 fun k hk=>?_;rw[btA_cut b i k hk,← btA_take b 1152 _ (by omega)];exact h _ (by omega)
open Classical in
/-- What the check says: 0, 1 (of another length), 12 (not in range). -/
noncomputable def ckE (b:List UInt8):Nat:=if b.length=1184 then(if ckP b 3 then 0 else 12) else 1
theorem ckE_len {b:List UInt8} (h:b.length≠1184):ckE b=1:=by rw[ckE,if_neg h]
theorem ckE_ok {b:List UInt8} (h:b.length=1184) (hc:ckP b 3):ckE b=0:=by rw[ckE,if_pos h,if_pos hc]
theorem ckE_no {b:List UInt8} (h:b.length=1184) {i:Nat} (hi:i<3) (hc:¬paA 12 (unA 12 (cut b i) 256) 256=cut b i):ckE b=12:=by
  rw[ckE,if_pos h,if_neg];intro hp;exact hc ((ckP_iff b 3).1 hp i hi)
theorem ckE_no' {b:List UInt8} (h:b.length=1184) {i:Nat} (hi:i<768) (hc:3329≤btA (b.take 1152) (12*i) 12):ckE b=12:=by
  rw[ckE,if_pos h,if_neg];intro hp;have:=(ckA_iff _ 768).1 ((ck_eq b h).1 hp) i hi;omega
theorem ckE_or (b:List UInt8):(b.length≠1184∧ckE b=1)∨(b.length=1184∧(ckE b=0∨ckE b=12)):=by
  by_cases h:b.length=1184
  · right;refine⟨h,?_⟩;by_cases hc:ckP b 3
    · left;exact ckE_ok h hc
    · right;rw[ckE,if_pos h,if_neg hc]
  · left;exact⟨h,ckE_len h⟩
theorem fl2 (a b:List UInt8):[a,b].flatten=a++b:=by simp
/-! ### Keys -/
def kdk (d z:List UInt8):List UInt8:=[dk1 d,ek1 d,sum256 (ek1 d),z].flatten
theorem kdk_len (d z:List UInt8) (hz:z.length=32):(kdk d z).length=2400:=by
  have h1:=dk1_len d;have h2:=ek1_len d;have h3:=sum256_len (ek1 d);simp only[kdk,List.flatten_cons,List.flatten_nil,List.append_nil,lA];omega
def kOk (d z:List UInt8):Prop:=d.length=32∧z.length=32
instance (d z:List UInt8):Decidable (kOk d z):=inferInstanceAs (Decidable (_∧_))
/-! ### What a private key may be -/
def ekS (dk:List UInt8):List UInt8:=(dk.drop 1152).take 1184
def hS (dk:List UInt8):List UInt8:=(dk.drop 2336).take 32
def zS (dk:List UInt8):List UInt8:=dk.drop 2368
def sS (dk:List UInt8):List UInt8:=dk.take 1152
def cpE (dk:List UInt8):Nat:=if dk.length=2400 then(if sum256 (ekS dk)=hS dk then 0 else 12) else 1
theorem cpE_len {b:List UInt8} (h:b.length≠2400):cpE b=1:=by rw[cpE,if_neg h]
theorem cpE_ok {b:List UInt8} (h:b.length=2400) (hc:sum256 (ekS b)=hS b):cpE b=0:=by rw[cpE,if_pos h,if_pos hc]
theorem cpE_no {b:List UInt8} (h:b.length=2400) (hc:¬sum256 (ekS b)=hS b):cpE b=12:=by rw[cpE,if_pos h,if_neg hc]
theorem cpE_or (b:List UInt8):(b.length≠2400∧cpE b=1)∨(b.length=2400∧(cpE b=0∨cpE b=12)):=by
  by_cases h:b.length=2400
  · right;refine⟨h,?_⟩;by_cases hc:sum256 (ekS b)=hS b
    · left;exact cpE_ok h hc
    · right;exact cpE_no h hc
  · left;exact⟨h,cpE_len h⟩
theorem cut_app (a b:List UInt8) (n m:Nat) (ha:a.length=n) (hb:b.length=m) (c:List UInt8):((a++(b++c)).drop n).take m=b:=by
  rw[List.drop_left' ha,List.take_left' hb]
theorem kdk_s (d z:List UInt8):sS (kdk d z)=dk1 d:=by
  simp only[sS,kdk,List.flatten_cons];exact List.take_left' (dk1_len d)
theorem kdk_ek (d z:List UInt8):ekS (kdk d z)=ek1 d:=by
  simp only[ekS,kdk,List.flatten_cons,List.flatten_nil,List.append_nil];exact cut_app _ _ _ _ (dk1_len d) (ek1_len d) _
theorem kdk_h (d z:List UInt8):hS (kdk d z)=sum256 (ek1 d):=by
  have e:kdk d z=(dk1 d++ek1 d)++(sum256 (ek1 d)++z):=by simp only[kdk,List.flatten_cons,List.flatten_nil,List.append_nil,List.append_assoc]
  rw[hS,e];exact cut_app _ _ _ _ (by rw[lA,dk1_len,ek1_len]) (sum256_len _) _
theorem cpE_kdk (d z:List UInt8) (hz:z.length=32):cpE (kdk d z)=0:=cpE_ok (kdk_len d z hz) (by rw[kdk_ek,kdk_h])
theorem cut3 (A B C D:List UInt8) (h0:A.length=384) (h1:B.length=384) (h2:C.length=384):cut (A++(B++(C++D))) 0=A∧cut (A++(B++(C++D))) 1=B∧cut (A++(B++(C++D))) 2=C:=by
  have d1:(A++(B++(C++D))).drop 384=B++(C++D):=List.drop_left' h0;have d2:(A++(B++(C++D))).drop 768=C++D:=by rw[show 768=384+384 from rfl,← List.drop_drop,d1];exact List.drop_left' h1
  refine⟨?_,?_,?_⟩
  · rw[cut,show 384*0=0 from rfl,List.drop_zero];exact List.take_left' h0
  · rw[cut,show 384*1=384 from rfl,d1];exact List.take_left' h1
  · rw[cut,show 384*2=768 from rfl,d2];exact List.take_left' h2
theorem cut_pk (r:List Int) (c:List UInt8) (i:Nat) (hi:i<3):cut (pkR 12 r 3++c) i=paA 12 (rg r i) 256:=by
  have e:pkR 12 r 3++c=paA 12 (rg r 0) 256++(paA 12 (rg r 1) 256++(paA 12 (rg r 2) 256++c)):=by
    rw[pkR,pkR,pkR,pkR,List.nil_append,List.append_assoc,List.append_assoc]
  have h0:=paA_len 12 (rg r 0) 256;have h1:=paA_len 12 (rg r 1) 256;have h2:=paA_len 12 (rg r 2) 256;rw[e];generalize h0e:paA 12 (rg r 0) 256=A at*;generalize h1e:paA 12 (rg r 1) 256=B at*;generalize h2e:paA 12 (rg r 2) 256=C at*;have h:=cut3 A B C c h0 h1 h2
  match i,hi with
  | 0,_=>rw[h.1,h0e]
  | 1,_=>rw[h.2.1,h1e]
  | 2,_=>rw[h.2.2,h2e]
theorem ckE_ek1 (d:List UInt8):ckE (ek1 d)=0:=by
  refine ckE_ok (ek1_len d) ((ckP_iff _ 3).2 fun i hi=>?_);rw[ek1,fl2,cut_pk _ _ i hi];exact(pa_un12 _ (paA_len _ _ _)).2 fun k hk=>by rw[btA_pa _ k hk];exact zmod_lt _
/-! ### Sealed -/
def hK (l:List UInt8):List UInt8:=(sum512 l).take 32
def hR (l:List UInt8):List UInt8:=(sum512 l).drop 32
theorem hK_len (l:List UInt8):(hK l).length=32:=by rw[hK,List.length_take,sum512_len];rfl
theorem hR_len (l:List UInt8):(hR l).length=32:=by rw[hR,List.length_drop,sum512_len]
def ecS (ek m:List UInt8):List UInt8:=[m,sum256 ek].flatten
def ecK (ek m:List UInt8):List UInt8:=hK (ecS ek m)
def ecC (ek m:List UInt8):List UInt8:=enc1 ek m (hR (ecS ek m))
/-! ### Opened -/
def deM (dk c:List UInt8):List UInt8:=dec1 (sS dk) c
def deS (dk c:List UInt8):List UInt8:=[deM dk c,hS dk].flatten
def deA (dk c:List UInt8):List UInt8:=enc1 (ekS dk) (deM dk c) (hR (deS dk c))
def deO (dk c:List UInt8):List UInt8:=sqz (absR 136 31 noughts [zS dk,c].flatten) 136 32
def deK (dk c:List UInt8):List UInt8:=if deA dk c=c then hK (deS dk c) else deO dk c
theorem deO_len (dk c:List UInt8):(deO dk c).length=32:=sqz_len _ _ _ (by omega)
theorem deK_len (dk c:List UInt8):(deK dk c).length=32:=by rw[deK];split;exact hK_len _;exact deO_len _ _
theorem ekS_len {dk:List UInt8} (h:dk.length=2400):(ekS dk).length=1184:=by rw[ekS,List.length_take,List.length_drop];omega
theorem hS_len {dk:List UInt8} (h:dk.length=2400):(hS dk).length=32:=by rw[hS,List.length_take,List.length_drop];omega
theorem zS_len {dk:List UInt8} (h:dk.length=2400):(zS dk).length=32:=by rw[zS,List.length_drop];omega
theorem sS_len {dk:List UInt8} (h:dk.length=2400):(sS dk).length=1152:=by rw[sS,List.length_take];omega
/-- One of two rows of bytes, by a mask. -/
def selA (m:UInt8) (p q:List UInt8):Nat→List UInt8
  | 0=>List.replicate p.length 0
  | i+1=>(selA m p q i).set i ((p.getD i 0&&& ~~~m)|||(q.getD i 0&&&m))
theorem selA_len (m:UInt8) (p q:List UInt8):∀ i,(selA m p q i).length=p.length
  | 0=>lR
  | i+1=>by rw[selA,List.length_set];exact selA_len m p q i
theorem selA_get (m:UInt8) (p q:List UInt8):∀ i k,i≤p.length→k<i→(selA m p q i).getD k 0=(p.getD k 0&&& ~~~m)|||(q.getD k 0&&&m)
  | 0,k,_,h=>by omega
  | i+1,k,hi,h=>by
    rw[selA,getD_set_eq _ _ _ _ _ (by rw[selA_len];omega)];by_cases e:i=k
    · subst e;rw[if_pos rfl]
    · rw[if_neg e];exact selA_get m p q i k (by omega) (by omega)
theorem sel0 (p q:List UInt8):selA (UInt8.ofInt 0) p q p.length=p:=by
  refine ext_getD 0 _ _ (selA_len _ _ _ _) fun k hk=>?_;rw[selA_len] at hk;rw[selA_get _ _ _ _ k (Nat.le_refl _) hk];have e:∀ x y:UInt8,(x&&& ~~~(UInt8.ofInt 0))|||(y&&&UInt8.ofInt 0)=x:=fun x y=>by
    have h0:UInt8.ofInt 0=0:=rfl;rw[h0];apply UInt8.toBitVec_inj.1;simp
  exact e _ _
theorem sel1 (p q:List UInt8) (h:p.length=q.length):selA (UInt8.ofInt (-1)) p q p.length=q:=by
  refine ext_getD 0 _ _ (by rw[selA_len,h]) fun k hk=>?_;rw[selA_len] at hk;rw[selA_get _ _ _ _ k (Nat.le_refl _) hk];have e:∀ x y:UInt8,(x&&& ~~~(UInt8.ofInt (-1)))|||(y&&&UInt8.ofInt (-1))=y:=fun x y=>by
    have h0:UInt8.ofInt (-1)=255:=rfl;rw[h0];apply UInt8.toBitVec_inj.1;have h1:∀ u v:BitVec 8,(u&&& ~~~(BitVec.allOnes 8))|||(v&&&BitVec.allOnes 8)=v:=fun u v=>by rw[BitVec.and_allOnes,BitVec.not_allOnes,BitVec.and_zero,BitVec.zero_or]
    exact h1 x.toBitVec y.toBitVec
  exact e _ _
theorem deK_t {dk c:List UInt8} (h:deA dk c=c):hK [dec1 (sS dk) c,hS dk].flatten=deK dk c:=by rw[deK,if_pos h,deS,deM]
theorem deK_f {dk c:List UInt8} (h:¬deA dk c=c):(xrun 136 (32:Int).toNat (absR 136 31 noughts [zS dk,c].flatten,tk (absR 136 31 noughts [zS dk,c].flatten) 136,[])).2.2=deK dk c:=by
  have e:(32:Int).toNat=32:=rfl;rw[deK,if_neg h,deO,e];exact xr_sqz _ (absR_len _ _ _) 136 32 (by omega)
theorem rdeK_t {dk c:List UInt8} (h:enc1 (ekS dk) (dec1 (sS dk) c) (hR (dec1 (sS dk) c++hS dk))=c):hK (dec1 (sS dk) c++hS dk)=deK dk c:=by
  rw[← fl2] at h ⊢;exact deK_t h
theorem rdeK_f {dk c:List UInt8} (h:¬enc1 (ekS dk) (dec1 (sS dk) c) (hR (dec1 (sS dk) c++hS dk))=c):sqz (absR 136 31 noughts (zS dk++c)) 136 32=deK dk c:=by
  rw[← fl2] at h ⊢;have h2:¬deA dk c=c:=h;rw[deK,if_neg h2,deO]
theorem ecK_len (ek m:List UInt8):(ecK ek m).length=32:=hK_len _
theorem ecC_len (ek m:List UInt8):(ecC ek m).length=1088:=enc1_len _ _ _
end Go.Rx
