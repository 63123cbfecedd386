/- Texts of this claim, one behind the other: RxV, H3, Cl, Cm. -/
import Derived.Test.YtdhgkfmniebghaaDoorHn1
import Derived.WalkKit
import Derived.ProofKit
import Derived.OpenShut
import Derived.Deep.DeepHandedRow
import Derived.Lib.LaidTab
import Derived.Lib.LaidU8
import Derived.Below
import GoSem.ClaimSeven
import Derived.WideKeyArgs
import Derived.ChangeSlices
import Derived.ChangeMaps5
set_option linter.unusedVariables false
set_option linter.unusedSimpArgs false
/- append of a new slice of zeros to an owned slice. -/
namespace Go.Rx
open Go.RowKit
section
variable {P:Program} {n:Nat} {env:Env} {a:Act} {w w':World} {dst:Option Tmp} {ty:TypeId} {pos:String} {af:Array Edge} {g:Option (Nat × Bool)} {x y z:Operand} {t tn:TypeId} {v u:Value}
variable {ops:Array Oper} {Q:Exit→Act→World→Prop} {rest:List Oper} {d:Nat}

theorem run_appZ {e:Nat} {ti:TypeInfo} {zv:Value} {base k m:Nat} {C:List Value} {kn kq:IntKind} (ht:P.underlying t=some (.slice e)) (htn:P.underlying tn=some (.int kn)) (hi:P.info? e=some ti) (hz:ti.zero=some zv) (hsz:ti.size=1) (hzc:zv.cells= #[zv])
    (hown:w.ownsRow base e 1 v k C) (h1:zv.oneCell'=true) (hbd:(k+m)*ti.bytes≤140737488355328) (hbd2:k+m≤140737488355328) (hbase:base≤w.heap.size):
    ∃ v' w',(Builtin.append_ #[t,tn] ty #[v,.int kq m]).run P w=.ok v' w'∧w'.ownsRow base e 1 v' (k+m) (C++List.replicate m zv)∧w.grownBy w' v.ownBlock∧(v'=.slice none 0 0→k+m=0)∧(∀ j,v'.ownBlock=some j→v.ownBlock=some j∨w.heap.size≤j):=by
  have hmx:k+m≤maxLen:=by unfold maxLen;omega
  have hw:IntKind.i64.wrap (m:Int)=m:=by rw[IntKind.wrap_i64];omega
  have hneg:¬((m:Int)<0):=by omega
  have hb1:m*ti.bytes≤140737488355328:=Nat.le_trans (Nat.mul_le_mul_right _ (Nat.le_add_left m k)) hbd;have h48i:¬(281474976710656<(m:Int)*(ti.bytes:Int)):=by
    rw[← Int.natCast_mul];omega
  have hrep:(Builtin.zeroCells zv.cells m).toList=List.replicate m zv:=by rw[zc_one hzc]
  rcases hown.2 with⟨hv,hk⟩ | ⟨g,c,cur,hv,hbg,hg,hkc,hcm,hcs,htake⟩
  · subst hv;subst hk
    have hC:C=[]:=List.eq_nil_of_length_eq_zero (by simpa using hown.1);subst hC;rcases Nat.eq_zero_or_pos m with rfl | hm
    · refine⟨.slice none 0 0,w,?_,by simpa using hown,⟨rfl,rfl,rfl,Nat.le_refl _,fun _ _ _=>rfl⟩,fun _=>rfl,fun j hj=>.inl hj⟩
      simp[Builtin.append_,run_underlying ht,run_underlying htn,sizeOf,typeInfo,hi,asInt,asIntOf,hw,IntKind.wrap_i64]
    · have hm0:m≠0:=by omega
      have h63':¬(9223372036854775807<(m:Int)):=by omega
      have h48':¬(281474976710656<Builtin.nextslicecap m 0*ti.bytes):=by rw[nextslicecap_zero hm];omega
      have hcl:grownCap w m 0 e≤maxLen:=grownCap_le_maxLen w _ _ e (by simpa using hmx);have hcg:=grownCap_ge w m 0 e;refine⟨.slice (some ⟨w.heap.size,0,none⟩) m (grownCap w m 0 e),w.drew.alloc (.cells (Builtin.zeroCells zv.cells m++Builtin.zeroCells zv.cells (grownCap w m 0 e - m)) e),?_,⟨by simp,.inr ⟨w.heap.size,_,_,by simp,hbase,heap_alloc_new w.drew _,by simpa using hcg,hcl,?_,?_⟩⟩,⟨rfl,rfl,rfl,by simp,fun j hj _=>heap_alloc_old w.drew _ hj⟩,fun e=>(by cases e),fun j hj=>?_⟩
      · simp[Builtin.append_,run_underlying ht,run_underlying htn,sizeOf,typeInfo,zeroValue,hi,hz,hsz,asInt,asIntOf,hw,hm0,hneg,h63',h48',h48i,Question.forced,run_firstCells_none,newRow,grownCap]
      · rw[zc_one hzc,zc_one hzc];simp;omega
      · rw[zc_one hzc,zc_one hzc];simp
      · simp[Value.ownBlock] at hj;exact .inr (by omega)
  · subst hv
    have hkl:C.length=k:=by have:=hown.1;omega
    by_cases hroom:k+m≤c
    · have hst:=run_storeCells_at P g (k*1) e (List.replicate m zv) 0 cur w hg (by simp;omega) (fun q hq=>by rw[List.eq_of_mem_replicate hq];exact h1)
      refine⟨.slice (some ⟨g,0,none⟩) (k+m) c,_,?_,⟨by simp[hown.1],.inr ⟨g,c,_,rfl,hbg,setRow_heap w g cur (cur.toList.take (k*1+0)++List.replicate m zv++cur.toList.drop (k*1+0+(List.replicate m zv).length)).toArray e _ hg,hroom,hcm,?_,?_⟩⟩,⟨rfl,rfl,rfl,by simp,fun j _ hj=>setRow_other w g j _ (fun e=>hj (by simp[Value.ownBlock,e]))⟩,fun e=>(by cases e),fun j hj=>Or.inl hj⟩
      · rcases Nat.eq_zero_or_pos m with rfl | hm
        · simp[Builtin.append_,run_underlying ht,run_underlying htn,sizeOf,typeInfo,hi,asInt,asIntOf,hw,IntKind.wrap_i64,hsz,hkc,storeCells,setRow_self w g cur e (0,0) hg]
        · have hm0:m≠0:=by omega
          simp only[Nat.mul_one,Nat.add_zero] at hst;simp[Builtin.append_,run_underlying ht,run_underlying htn,sizeOf,typeInfo,zeroValue,hi,hz,hsz,asInt,asIntOf,hw,hm0,hneg,h48i,hroom,zc_one hzc,Addr.add_lit,hst]
      · simp;omega
      · rw[Nat.mul_one] at htake
        simp only[Nat.mul_one,Nat.add_zero,htake];rw[← hkl,show C.length+m=(C++List.replicate m zv).length by simp];exact List.take_left
    · have hm0:m≠0:=by omega
      have h63':¬(9223372036854775807<((k:Int)+(m:Int))):=by omega
      have h48':¬(281474976710656<Builtin.nextslicecap (k+m) c*ti.bytes):=by have:=growslice_fits (need:=k+m) (old:=c) (bytes:=ti.bytes) (by omega) hbd;omega
      have hf:=run_firstCells_some (P:=P) w.drew ti.size k ⟨g,0,none⟩ k c C (by rw[hsz];exact hown.1) (by simpa using hown.cells (g:=g) rfl);rw[hsz] at hf;have hcl:grownCap w (k+m) c e≤maxLen:=grownCap_le_maxLen w _ _ e hmx;have hcg:=grownCap_ge w (k+m) c e;refine⟨.slice (some ⟨w.heap.size,0,none⟩) (k+m) (grownCap w (k+m) c e),w.drew.alloc (.cells (C.toArray++Builtin.zeroCells zv.cells m++Builtin.zeroCells zv.cells (grownCap w (k+m) c e - (k+m))) e),?_,⟨by simp[hown.1],.inr ⟨w.heap.size,_,_,rfl,hbase,heap_alloc_new w.drew _,hcg,hcl,?_,?_⟩⟩,⟨rfl,rfl,rfl,by simp,fun j hj _=>heap_alloc_old w.drew _ hj⟩,fun e=>(by cases e),fun j hj=>?_⟩
      · simp[Builtin.append_,run_underlying ht,run_underlying htn,sizeOf,typeInfo,zeroValue,hi,hz,hsz,asInt,asIntOf,hw,hroom,hm0,hneg,h63',h48',h48i,Question.forced,hf,newRow,grownCap]
      · rw[zc_one hzc,zc_one hzc];simp[hkl];omega
      · rw[zc_one hzc,zc_one hzc]
        simp only[Array.toList_append,Nat.mul_one];rw[show k+m=(C++List.replicate m zv).length by simp[hkl]];exact List.take_left
      · simp[Value.ownBlock] at hj;exact .inr (by omega)

/-- append of zeros, in the walk: the destination owned. -/
theorem sappZ (ha:Has n env a) {e:Nat} {ti:TypeInfo} {zv:Value} {base k m:Nat} {C:List Value} {kn:IntKind} (hx:ev env x=some v) (hy:ev env y=some (en m)) (ht:P.underlying t=some (.slice e)) (htn:P.underlying tn=some (.int kn)) (hi:P.info? e=some ti) (hz:ti.zero=some zv) (hsz:ti.size=1) (hzc:zv.cells= #[zv])
    (hown:w.ownsRow base e 1 v k C) (h1:zv.oneCell'=true) (hbd:(k+m)*ti.bytes≤140737488355328) (hbd2:k+m≤140737488355328) (hbase:base≤w.heap.size) (hn:Nat.blt d n=true)
    (K:∀ a' w' v',Has n ((d,v')::env) a'→w.grownBy w' v.ownBlock→w'.ownsRow base e 1 v' (k+m) (C++List.replicate m zv)→(v'=.slice none 0 0→k+m=0)→(∀ j,v'.ownBlock=some j→v.ownBlock=some j∨w.heap.size≤j)→wpList P ops Q rest a' w'):
    wpList P ops Q (⟨some d,.call ⟨.builtin .append,#[x,y],#[t,tn]⟩,ty,pos,af,none⟩::rest) a w:=by
  obtain⟨v',w',hr,ho,hg,hnl,hj⟩:=run_appZ (P:=P) (w:=w) (ty:=ty) (kq:=.i64) ht htn hi hz hsz hzc hown h1 hbd hbd2 hbase;have hr':(execOp a.eval ⟨some d,.call ⟨.builtin .append,#[x,y],#[t,tn]⟩,ty,pos,af,none⟩).run P w=.ok (.value v') w':=by
    simp only[execOp,resolve,ha.ev hx,ha.ev hy,invoke,builtin,Sem.run_bind,Sem.run_pure,Result.andThen_ok,List.map_toArray,List.map_cons,List.map_nil,hr]
  exact sv ha hr' rfl rfl hn fun a' ha'=>K a' w' v' ha' hg ho hnl hj
end
end Go.Rx

/- WALKS written by gen.py (own program) out of specs. -/
namespace Go.Proofs.YtdhgkfmniebghaaDoor
open Go.RowKit Go.Rx
set_option maxRecDepth 100000
set_option maxHeartbeats 4000000
set_option linter.unusedVariables false
set_option linter.unusedSimpArgs false

theorem c_awake04 (w0:World) (hG:Glob w0):
    Calls Tryd.prog 30 #[] w0 fun e w'=>e=.returned (.bool true)∧Below w0.heap.size w0 w':=by
 refine enter (args:=[]) Tryd.func30 rfl Tryd.ntmps30 rfl ?_;intro a ha;have hB:=Below.refl w0.heap.size w0;refine qr fun K1 k2=>?_;refine s1 ha rfl (av rfl) ?_;intro a ha;refine k2 _ _ ?_;refine qr fun K3 k4=>?_;refine sc ha (r_call ha [_,_] rfl Tryd.call31) rfl rfl rfl (c_mac (.slice none 0 0) ([]:List UInt8) (.slice none 0 0) ([]:List UInt8) _ (Sl.nil _) (Sl.nil _) (by show 0≤50000;omega) (glob_keep hG hB)) ?_;rintro e w5 ⟨u6,rfl,hBc,hs6,hd6⟩;have hg:=grown_call hBc;replace hd6:∀ j,u6.ownBlock=some j→w0.heap.size≤j:=fun j hj=>Nat.le_trans hB.size (hd6 j hj);have hB:=keepB0 hg hB;refine⟨_,rfl,?_⟩;intro a ha;refine s1 ha rfl (av rfl) ?_;intro a ha;refine k4 _ _ ?_;refine qr fun K7 k8=>?_;refine sbuildS ha [(0,.int .u8 1)] (([(1:UInt8)]:List UInt8).map e8) rfl Tryd.runUnderlying22 Tryd.sizeOf5 Tryd.zeroValue5 rfl rfl rfl rfl rfl ?_;intro a w9 b10 ha hg hb10 hge10 hlt10;have hz10:=bz hB hge10;have hne_hs6_b10:∀ j,Value.ownBlock u6=some j→j≠b10:=fun j hj=>by have:=hs6.lt j hj;omega
 have hB:=keepB0 hg hB;have hs6:=keepS0 hg hs6;refine sc ha (r_call ha [_,_] rfl Tryd.call33) rfl rfl rfl (c_two (.slice (some ⟨b10,0,none⟩) 1 1) ([(1:UInt8)]:List UInt8) (.slice none 0 0) ([]:List UInt8) _ (Sl.ofBlockM hb10 (by rw[show([(1:UInt8)]:List UInt8).length=1 from rfl]) (Nat.le_refl _)) (Sl.nil _) (by show 0≤50000;omega) (glob_keep hG hB)) ?_;rintro e w11 ⟨u12,u13,rfl,hBc,hs12,hd12,hs13,hd13⟩;have hg:=grown_call hBc;have hds_hs12_hs6:=nds hd12 (fun j hj=>hs6.lt j hj);replace hd12:∀ j,u12.ownBlock=some j→w0.heap.size≤j:=fun j hj=>Nat.le_trans hB.size (hd12 j hj);have hds_hs13_hs6:=nds hd13 (fun j hj=>hs6.lt j hj);replace hd13:∀ j,u13.ownBlock=some j→w0.heap.size≤j:=fun j hj=>Nat.le_trans hB.size (hd13 j hj);have hB:=keepB0 hg hB;have hs6:=keepS0 hg hs6;refine⟨_,rfl,?_⟩;intro a ha;refine s5 ha rfl (mv rfl) (fun _ ha=>r_extract ha rfl rfl) (fun _ ha=>r_extract ha rfl rfl) (av rfl) (av rfl) ?_;intro a ha;refine k8 _ _ ?_;refine qr fun K14 k15=>?_;refine sbuildS ha [(0,.int .u8 1)] (([(1:UInt8)]:List UInt8).map e8) rfl Tryd.runUnderlying22 Tryd.sizeOf5 Tryd.zeroValue5 rfl rfl rfl rfl rfl ?_;intro a w16 b17 ha hg hb17 hge17 hlt17;have hz17:=bz hB hge17;have hne_hs6_b17:∀ j,Value.ownBlock u6=some j→j≠b17:=fun j hj=>by have:=hs6.lt j hj;omega
 have hne_hs12_b17:∀ j,Value.ownBlock u12=some j→j≠b17:=fun j hj=>by have:=hs12.lt j hj;omega
 have hne_hs13_b17:∀ j,Value.ownBlock u13=some j→j≠b17:=fun j hj=>by have:=hs13.lt j hj;omega
 have hB:=keepB0 hg hB;have hs6:=keepS0 hg hs6;have hs12:=keepS0 hg hs12;have hs13:=keepS0 hg hs13;refine sc ha (r_call ha [_,_] rfl Tryd.call34) rfl rfl rfl (c_three (.slice (some ⟨b17,0,none⟩) 1 1) ([(1:UInt8)]:List UInt8) (.slice none 0 0) ([]:List UInt8) _ (Sl.ofBlockM hb17 (by rw[show([(1:UInt8)]:List UInt8).length=1 from rfl]) (Nat.le_refl _)) (Sl.nil _) (by show 0≤50000;omega) (glob_keep hG hB)) ?_;rintro e w18 ⟨u19,u20,u21,rfl,hBc,hs19,hd19,hs20,hd20,hs21,hd21⟩;have hg:=grown_call hBc;have hds_hs19_hs6:=nds hd19 (fun j hj=>hs6.lt j hj);have hds_hs19_hs12:=nds hd19 (fun j hj=>hs12.lt j hj);have hds_hs19_hs13:=nds hd19 (fun j hj=>hs13.lt j hj);replace hd19:∀ j,u19.ownBlock=some j→w0.heap.size≤j:=fun j hj=>Nat.le_trans hB.size (hd19 j hj);have hds_hs20_hs6:=nds hd20 (fun j hj=>hs6.lt j hj);have hds_hs20_hs12:=nds hd20 (fun j hj=>hs12.lt j hj);have hds_hs20_hs13:=nds hd20 (fun j hj=>hs13.lt j hj);replace hd20:∀ j,u20.ownBlock=some j→w0.heap.size≤j:=fun j hj=>Nat.le_trans hB.size (hd20 j hj);have hds_hs21_hs6:=nds hd21 (fun j hj=>hs6.lt j hj);have hds_hs21_hs12:=nds hd21 (fun j hj=>hs12.lt j hj);have hds_hs21_hs13:=nds hd21 (fun j hj=>hs13.lt j hj);replace hd21:∀ j,u21.ownBlock=some j→w0.heap.size≤j:=fun j hj=>Nat.le_trans hB.size (hd21 j hj);have hB:=keepB0 hg hB;have hs6:=keepS0 hg hs6;have hs12:=keepS0 hg hs12;have hs13:=keepS0 hg hs13;refine⟨_,rfl,?_⟩;intro a ha;refine s6 ha rfl (mv rfl) (fun _ ha=>r_extract ha rfl rfl) (fun _ ha=>r_extract ha rfl rfl) (fun _ ha=>r_extract ha rfl rfl) (av rfl) (av rfl) ?_;intro a ha;refine s1 ha rfl (av rfl) ?_;intro a ha;refine k15 _ _ ?_;refine qr fun K22 k23=>?_;refine s4 ha rfl (mv rfl) (fun _ ha=>r_lenS ha Tryd.runUnderlying22 hs6 rfl (by first | rw[lM,mac_len] | rw[lM])) (fun _ ha=>r_eql ha ((32:Nat):Int) 32 true rfl rfl (decide_eq_true rfl)) (mv rfl) ?_;intro a ha;refine svg ha (r_move ha rfl) rfl rfl rfl rfl rfl ?_;intro a ha;refine svg ha (r_indexS (i:=0) ha Tryd.runUnderlying22 Tryd.sizeOf5 hs6 (C:=(mac ([]:List UInt8) ([]:List UInt8)).map e8) rfl rfl (by rw[lM,mac_len];omega)) rfl rfl rfl rfl rfl ?_;intro a ha;refine svg ha (r_loadS ha rfl Tryd.isAgg5 hs6 (get_map e8 (mac ([]:List UInt8) ([]:List UInt8)) 0 0 (by rw[mac_len];omega))) rfl rfl rfl rfl rfl ?_;intro a ha;refine svg ha (r_eql ha (((mac ([]:List UInt8) ([]:List UInt8)).getD 0 0).toNat:Int) 232 true rfl rfl (decide_eq_true (by rw[mac_nil];rfl))) rfl rfl rfl rfl rfl ?_;intro a ha;refine s2 ha rfl (fun _ ha=>r_pick ha true rfl rfl) (mv rfl) ?_;intro a ha;refine svg ha (r_move ha rfl) rfl rfl rfl rfl rfl ?_;intro a ha;refine svg ha (r_indexS (i:=1) ha Tryd.runUnderlying22 Tryd.sizeOf5 hs6 (C:=(mac ([]:List UInt8) ([]:List UInt8)).map e8) rfl rfl (by rw[lM,mac_len];omega)) rfl rfl rfl rfl rfl ?_;intro a ha;refine svg ha (r_loadS ha rfl Tryd.isAgg5 hs6 (get_map e8 (mac ([]:List UInt8) ([]:List UInt8)) 0 1 (by rw[mac_len];omega))) rfl rfl rfl rfl rfl ?_;intro a ha;refine svg ha (r_eql ha (((mac ([]:List UInt8) ([]:List UInt8)).getD 1 0).toNat:Int) 65 true rfl rfl (decide_eq_true (by rw[mac_nil];rfl))) rfl rfl rfl rfl rfl ?_;intro a ha;refine s2 ha rfl (fun _ ha=>r_pick ha true rfl rfl) (mv rfl) ?_;intro a ha;refine svg ha (r_move ha rfl) rfl rfl rfl rfl rfl ?_;intro a ha;refine svg ha (r_lenS ha Tryd.runUnderlying22 hs12 rfl (by first | rw[lM,th1_len] | rw[lM])) rfl rfl rfl rfl rfl ?_;intro a ha;refine svg ha (r_eql ha ((32:Nat):Int) 32 true rfl rfl (decide_eq_true rfl)) rfl rfl rfl rfl rfl ?_;intro a ha;refine s2 ha rfl (fun _ ha=>r_pick ha true rfl rfl) (mv rfl) ?_;intro a ha;refine svg ha (r_move ha rfl) rfl rfl rfl rfl rfl ?_;intro a ha;refine svg ha (r_lenS ha Tryd.runUnderlying22 hs13 rfl (by first | rw[lM,th2_len] | rw[lM])) rfl rfl rfl rfl rfl ?_;intro a ha;refine svg ha (r_eql ha ((32:Nat):Int) 32 true rfl rfl (decide_eq_true rfl)) rfl rfl rfl rfl rfl ?_;intro a ha;refine s2 ha rfl (fun _ ha=>r_pick ha true rfl rfl) (mv rfl) ?_;intro a ha;refine svg ha (r_move ha rfl) rfl rfl rfl rfl rfl ?_;intro a ha;refine svg ha (r_lenS ha Tryd.runUnderlying22 hs21 rfl (by first | rw[lM,th3_len] | rw[lM])) rfl rfl rfl rfl rfl ?_;intro a ha;refine svg ha (r_eql ha ((32:Nat):Int) 32 true rfl rfl (decide_eq_true rfl)) rfl rfl rfl rfl rfl ?_;intro a ha;refine s2 ha rfl (fun _ ha=>r_pick ha true rfl rfl) (av rfl) ?_;intro a ha;refine k23 _ _ ?_;refine wp_ret ?_;exact ret1 ha Tryd.results30 rfl ⟨rfl,hB⟩

theorem law_HkdfNoughts (v:Value) (key:List UInt8) (n:Int) (u:Value) (b:List UInt8) (w0:World) (hs:Sl w0 v (key.map e8)) (hsu:Sl w0 u (b.map e8)) (hG:Glob w0):
    Calls Tryd.prog 10 #[v,ei n,u] w0 fun e w'=>e=.returned (.bool true)∧Below w0.heap.size w0 w':=by
 refine enter (args:=[_,_,_]) Tryd.func10 rfl Tryd.ntmps10 rfl ?_;intro a ha;have hB:=Below.refl w0.heap.size w0;refine qr fun K1 k2=>?_;refine s1 ha rfl (av rfl) ?_;intro a ha;refine k2 _ _ ?_;refine qr fun K3 k4=>?_;refine scp ha (r_call ha [] rfl Tryd.call30) rfl rfl rfl (c_awake04 _ (glob_keep hG hB)) ?_;intro w5 hg a ha;have hB:=keepB0 hg hB;refine s1 ha rfl (av rfl) ?_;intro a ha;refine k4 _ _ ?_;refine wp_seq_k fun K6 k7=>?_;refine qr fun K8 k9=>?_;refine s2 ha rfl (mv rfl) (fun _ ha=>r_not ha true false rfl rfl) ?_;intro a ha;refine k9 _ _ ?_;refine cond_f ha rfl ?_;refine wp_skip ?_;refine k7 _ _ ?_;refine wp_seq_k fun K10 k11=>?_;refine qr fun K12 k13=>?_;refine s4 ha rfl (mv rfl) (fun _ ha=>r_lenS ha Tryd.runUnderlying22 (hs.below hB) rfl (by rw[lM])) (fun _ ha=>r_gtr ha ((key.length:Nat):Int) 136 (decide (key.length>136)) rfl rfl (dD (by omega))) (mv rfl) ?_;intro a ha
 cases hq14:(decide (key.length>136))
 all_goals rw[hq14] at ha
 case false=>
  have hq14:=of_decide_eq_false hq14;refine svg ha (r_move ha rfl) rfl rfl rfl rfl rfl ?_;intro a ha;refine svg ha (r_lenS ha Tryd.runUnderlying22 (hsu.below hB) rfl (by rw[lM])) rfl rfl rfl rfl rfl ?_;intro a ha;refine svg ha (r_gtr ha ((b.length:Nat):Int) 1000 (decide (b.length>1000)) rfl rfl (dD (by omega))) rfl rfl rfl rfl rfl ?_;intro a ha;refine s1 ha rfl (fun _ ha=>r_pick ha false rfl rfl) ?_;intro a ha;refine k13 _ _ ?_;refine cond_if ha rfl (fun hc15=>?_) (fun hc15=>?_)
  ·skip
   have hc15:=dT hc15;refine qr fun K16 k17=>?_;refine s1 ha rfl (av rfl) ?_;intro a ha;refine k17 _ _ ?_;refine wp_ret (t_ret ?_);exact ret1 ha Tryd.results10 rfl ⟨rfl,hB⟩
  ·skip
   have hc15:=dF hc15;refine wp_skip ?_;refine k11 _ _ ?_;refine qr fun K18 k19=>?_;refine s3 ha rfl (mv rfl) (fun _ ha=>r_mask ha n 8 (by omega) (m:=255) rfl rfl rfl) (av rfl) ?_;intro a ha;refine k19 _ _ ?_;refine wp_seq_k fun K20 k21=>?_;refine qr fun K22 k23=>?_;refine s5 ha rfl (mv rfl) (mv rfl) (fun _ ha=>r_lenS ha Tryd.runUnderlying22 (hs.below hB) rfl (by rw[lM])) (fun _ ha=>rn_sub ha 136 key.length rfl rfl (by omega) (by omega)) (fun _ ha=>r_gtr ha (((n % (2 ^ 8:Nat)).toNat:Nat):Int) ((136 - key.length:Nat):Int) (decide ((n % (2 ^ 8:Nat)).toNat>136 - key.length)) rfl rfl (dD (by omega))) ?_;intro a ha;refine k23 _ _ ?_;refine cond_if ha rfl (fun hc24=>?_) (fun hc24=>?_)
   ·skip
    have hc24:=dT hc24;refine region ?_;refine s4 ha rfl (mv rfl) (fun _ ha=>r_lenS ha Tryd.runUnderlying22 (hs.below hB) rfl (by rw[lM])) (fun _ ha=>rn_sub ha 136 key.length rfl rfl (by omega) (by omega)) (av rfl) ?_;intro a ha;refine k21 _ _ ?_;refine qr fun K25 k26=>?_;refine s1 ha rfl (av rfl) ?_;intro a ha;refine k26 _ _ ?_;refine qr fun K27 k28=>?_;refine s2 ha rfl (mv rfl) (mv rfl) ?_;intro a ha;refine sapp (C:=(([]:List UInt8)).map e8) (D:=(key).map e8) ha rfl rfl Tryd.underlying22 rfl rfl rfl rfl (World.ownsRow_nil w5 w0.heap.size 5 1) (hs.below hB) (one_e8 _) (by simp only[lM,lA,lR,List.length_cons,List.length_nil,inA_len,sum256_len,th1_len,th2_len,mac_len];show _*1≤_;omega) (by simp only[lM,lA,lR,List.length_cons,List.length_nil,inA_len,sum256_len,th1_len,th2_len,mac_len];omega) hB.size rfl ?_;intro a w30 v29 ha hg ho29 hnl29 hpl29;rw[← List.map_append,lM] at ho29;rw[List.nil_append,Nat.zero_add] at ho29;have hg:World.grownBy w5 w30 none:=hg;have hB:=keepB0 hg hB;refine s1 ha rfl (av rfl) ?_;intro a ha;refine k28 _ _ ?_;refine qr fun K31 k32=>?_;refine s2 ha rfl (mv rfl) (mv rfl) ?_;intro a ha;refine sappZ (m:=136 - key.length) (C:=(key).map e8) ha rfl rfl Tryd.underlying22 Tryd.underlying3 rfl rfl rfl rfl ho29 rfl (by show _*1≤_;omega) (by omega) hB.size rfl ?_;intro a w34 v33 ha hg ho33 hnl33 hpl33;have ho33:w34.ownsRow w0.heap.size 5 1 v33 (key.length+(136 - key.length)) ((key++List.replicate (136 - key.length) (0:UInt8)).map e8):=by rw[List.map_append,List.map_replicate];exact ho33
    have hB:=keepBR hg (own_row ho29) hB;refine s1 ha rfl (av rfl) ?_;intro a ha;refine k32 _ _ ?_;refine wp_seq_k fun K35 k36=>?_;refine regionD (S:=fun w=>Below w0.heap.size w0 w∧w.ownsRow w0.heap.size 5 1 v33 (key.length+(136 - key.length)) ((key++(List.replicate (136 - key.length) (0:UInt8))).map e8)∧True) [] [0,1,4,5,3,7,8,9] [0,1,4,5,2,3,6,7,8,9] mixed (by kernel_rfl) (fun w hg=>⟨keepB0 hg hB,keepW0 hg ho33,trivial⟩) ?_;intro w37 hg;have hB:=keepB0 hg hB;have ho33:=keepW0 hg ho33;refine c4 ha rfl (cmv rfl) (cmv rfl) (cmv rfl) (cmv rfl) ?_;intro a ha;refine ccx ha rfl rfl (r_call ha [_,_] rfl Tryd.call31) rfl rfl rfl (c_mac v key u b _ (hs.below hB) (hsu.below hB) (by omega) (glob_keep hG hB)) ?_;rintro e w38 ⟨u39,rfl,hBc,hs39,hd39⟩;have hg:=grown_call hBc;have hds_hs39_ho33:=nds hd39 (fun j hj=>(ho33.lt j hj).2);replace hd39:∀ j,u39.ownBlock=some j→w0.heap.size≤j:=fun j hj=>Nat.le_trans hB.size (hd39 j hj);have hB:=keepB0 hg hB;have ho33:=keepW0 hg ho33;refine⟨fun w=>(Sl w u39 ((mac key b).map e8))∧Below w0.heap.size w0 w∧w.ownsRow w0.heap.size 5 1 v33 (key.length+(136 - key.length)) ((key++(List.replicate (136 - key.length) (0:UInt8))).map e8)∧True,fun w h=>h.2,fun _=>⟨hs39,hB,ho33,trivial⟩,_,rfl,?_⟩;intro a ha;refine c1 ha rfl (fun w ⟨hs39,_⟩ _ ha=>r_str (l:=mac key b) ha Tryd.underlying22 Tryd.underlying5 Tryd.underlying9 rfl hs39) ?_;intro a ha;refine ccx ha rfl rfl (r_call ha [_,_] rfl Tryd.call31) rfl rfl rfl (c_mac v33 (key++(List.replicate (136 - key.length) (0:UInt8))) u b _ (Sl.ofOwns ho33) (hsu.below hB) (by omega) (glob_keep hG hB)) ?_;rintro e w40 ⟨u41,rfl,hBc,hs41,hd41⟩;have hg:=grown_call hBc;have hds_hs41_ho33:=nds hd41 (fun j hj=>(ho33.lt j hj).2);have hds_hs41_hs39:=nds hd41 (fun j hj=>hs39.lt j hj);replace hd41:∀ j,u41.ownBlock=some j→w0.heap.size≤j:=fun j hj=>Nat.le_trans hB.size (hd41 j hj);have hB:=keepB0 hg hB;have ho33:=keepW0 hg ho33;have hs39:=keepS0 hg hs39;refine⟨fun w=>(Sl w u41 ((mac (key++(List.replicate (136 - key.length) (0:UInt8))) b).map e8))∧(Sl w u39 ((mac key b).map e8))∧Below w0.heap.size w0 w∧w.ownsRow w0.heap.size 5 1 v33 (key.length+(136 - key.length)) ((key++(List.replicate (136 - key.length) (0:UInt8))).map e8)∧True,fun w h=>h.2,fun _=>⟨hs41,hs39,hB,ho33,trivial⟩,_,rfl,?_⟩;intro a ha;refine c3 ha rfl (fun w ⟨hs41,_⟩ _ ha=>r_str (l:=mac (key++(List.replicate (136 - key.length) (0:UInt8))) b) ha Tryd.underlying22 Tryd.underlying5 Tryd.underlying9 rfl hs41) (fun w _ _ ha=>r_eqlS ha (mac key b) (mac (key++(List.replicate (136 - key.length) (0:UInt8))) b) true rfl rfl (decide_eq_true (mac_more _ _ _ (by omega)))) (cav rfl) ?_;intro a ha;refine cfin (k36 _ _ ?_);refine wp_ret ?_;exact ret1 ha Tryd.results10 rfl ⟨rfl,hB⟩
   ·skip
    have hc24:=dF hc24;refine wp_skip ?_;refine k21 _ _ ?_;refine qr fun K42 k43=>?_;refine s1 ha rfl (av rfl) ?_;intro a ha;refine k43 _ _ ?_;refine qr fun K44 k45=>?_;refine s2 ha rfl (mv rfl) (mv rfl) ?_;intro a ha;refine sapp (C:=(([]:List UInt8)).map e8) (D:=(key).map e8) ha rfl rfl Tryd.underlying22 rfl rfl rfl rfl (World.ownsRow_nil w5 w0.heap.size 5 1) (hs.below hB) (one_e8 _) (by simp only[lM,lA,lR,List.length_cons,List.length_nil,inA_len,sum256_len,th1_len,th2_len,mac_len];show _*1≤_;omega) (by simp only[lM,lA,lR,List.length_cons,List.length_nil,inA_len,sum256_len,th1_len,th2_len,mac_len];omega) hB.size rfl ?_;intro a w47 v46 ha hg ho46 hnl46 hpl46;rw[← List.map_append,lM] at ho46;rw[List.nil_append,Nat.zero_add] at ho46;have hg:World.grownBy w5 w47 none:=hg;have hB:=keepB0 hg hB;refine s1 ha rfl (av rfl) ?_;intro a ha;refine k45 _ _ ?_;refine qr fun K48 k49=>?_;refine s2 ha rfl (mv rfl) (mv rfl) ?_;intro a ha;refine sappZ (m:=(n % (2 ^ 8:Nat)).toNat) (C:=(key).map e8) ha rfl rfl Tryd.underlying22 Tryd.underlying3 rfl rfl rfl rfl ho46 rfl (by show _*1≤_;omega) (by omega) hB.size rfl ?_;intro a w51 v50 ha hg ho50 hnl50 hpl50;have ho50:w51.ownsRow w0.heap.size 5 1 v50 (key.length+((n % (2 ^ 8:Nat)).toNat)) ((key++List.replicate ((n % (2 ^ 8:Nat)).toNat) (0:UInt8)).map e8):=by rw[List.map_append,List.map_replicate];exact ho50
    have hB:=keepBR hg (own_row ho46) hB;refine s1 ha rfl (av rfl) ?_;intro a ha;refine k49 _ _ ?_;refine wp_seq_k fun K52 k53=>?_;refine regionD (S:=fun w=>Below w0.heap.size w0 w∧w.ownsRow w0.heap.size 5 1 v50 (key.length+((n % (2 ^ 8:Nat)).toNat)) ((key++(List.replicate ((n % (2 ^ 8:Nat)).toNat) (0:UInt8))).map e8)∧True) [] [0,1,4,5,3,7,8,9] [0,1,4,5,2,3,6,7,8,9] mixed (by kernel_rfl) (fun w hg=>⟨keepB0 hg hB,keepW0 hg ho50,trivial⟩) ?_;intro w54 hg;have hB:=keepB0 hg hB;have ho50:=keepW0 hg ho50;refine c4 ha rfl (cmv rfl) (cmv rfl) (cmv rfl) (cmv rfl) ?_;intro a ha;refine ccx ha rfl rfl (r_call ha [_,_] rfl Tryd.call31) rfl rfl rfl (c_mac v key u b _ (hs.below hB) (hsu.below hB) (by omega) (glob_keep hG hB)) ?_;rintro e w55 ⟨u56,rfl,hBc,hs56,hd56⟩;have hg:=grown_call hBc;have hds_hs56_ho50:=nds hd56 (fun j hj=>(ho50.lt j hj).2);replace hd56:∀ j,u56.ownBlock=some j→w0.heap.size≤j:=fun j hj=>Nat.le_trans hB.size (hd56 j hj);have hB:=keepB0 hg hB;have ho50:=keepW0 hg ho50;refine⟨fun w=>(Sl w u56 ((mac key b).map e8))∧Below w0.heap.size w0 w∧w.ownsRow w0.heap.size 5 1 v50 (key.length+((n % (2 ^ 8:Nat)).toNat)) ((key++(List.replicate ((n % (2 ^ 8:Nat)).toNat) (0:UInt8))).map e8)∧True,fun w h=>h.2,fun _=>⟨hs56,hB,ho50,trivial⟩,_,rfl,?_⟩;intro a ha;refine c1 ha rfl (fun w ⟨hs56,_⟩ _ ha=>r_str (l:=mac key b) ha Tryd.underlying22 Tryd.underlying5 Tryd.underlying9 rfl hs56) ?_;intro a ha;refine ccx ha rfl rfl (r_call ha [_,_] rfl Tryd.call31) rfl rfl rfl (c_mac v50 (key++(List.replicate ((n % (2 ^ 8:Nat)).toNat) (0:UInt8))) u b _ (Sl.ofOwns ho50) (hsu.below hB) (by omega) (glob_keep hG hB)) ?_;rintro e w57 ⟨u58,rfl,hBc,hs58,hd58⟩;have hg:=grown_call hBc;have hds_hs58_ho50:=nds hd58 (fun j hj=>(ho50.lt j hj).2);have hds_hs58_hs56:=nds hd58 (fun j hj=>hs56.lt j hj);replace hd58:∀ j,u58.ownBlock=some j→w0.heap.size≤j:=fun j hj=>Nat.le_trans hB.size (hd58 j hj);have hB:=keepB0 hg hB;have ho50:=keepW0 hg ho50;have hs56:=keepS0 hg hs56;refine⟨fun w=>(Sl w u58 ((mac (key++(List.replicate ((n % (2 ^ 8:Nat)).toNat) (0:UInt8))) b).map e8))∧(Sl w u56 ((mac key b).map e8))∧Below w0.heap.size w0 w∧w.ownsRow w0.heap.size 5 1 v50 (key.length+((n % (2 ^ 8:Nat)).toNat)) ((key++(List.replicate ((n % (2 ^ 8:Nat)).toNat) (0:UInt8))).map e8)∧True,fun w h=>h.2,fun _=>⟨hs58,hs56,hB,ho50,trivial⟩,_,rfl,?_⟩;intro a ha;refine c3 ha rfl (fun w ⟨hs58,_⟩ _ ha=>r_str (l:=mac (key++(List.replicate ((n % (2 ^ 8:Nat)).toNat) (0:UInt8))) b) ha Tryd.underlying22 Tryd.underlying5 Tryd.underlying9 rfl hs58) (fun w _ _ ha=>r_eqlS ha (mac key b) (mac (key++(List.replicate ((n % (2 ^ 8:Nat)).toNat) (0:UInt8))) b) true rfl rfl (decide_eq_true (mac_more _ _ _ (by omega)))) (cav rfl) ?_;intro a ha;refine cfin (k53 _ _ ?_);refine wp_ret ?_;exact ret1 ha Tryd.results10 rfl ⟨rfl,hB⟩
 case true=>
  have hq14:=of_decide_eq_true hq14;refine sno ha rfl rfl rfl rfl rfl rfl ?_;intro a ha;refine sno ha rfl rfl rfl rfl rfl rfl ?_;intro a ha;refine sno ha rfl rfl rfl rfl rfl rfl ?_;intro a ha;refine s1 ha rfl (fun _ ha=>r_pick ha true rfl rfl) ?_;intro a ha;refine k13 _ _ ?_;refine cond_t ha rfl ?_;refine qr fun K59 k60=>?_;refine s1 ha rfl (av rfl) ?_;intro a ha;refine k60 _ _ ?_;refine wp_ret (t_ret ?_);exact ret1 ha Tryd.results10 rfl ⟨rfl,hB⟩
end Go.Proofs.YtdhgkfmniebghaaDoor

/- Closers: from a walk over arrays of integers to the row's contract. -/
namespace Go.Rx
open Go.RowKit Go.ChangeShapes Go.WideShapes

section
variable {H:Type} {enc:TypeId × Value→H} {P:Program} {w w':World} {base:Nat} {spare:Nat→Bool} {held:Bool}

/-- 'post', where nothing below the heap's old size has turned. -/
theorem post_below {f:Func} {s:ChangeSpec} {apart fresh handsOn again:Bool} {W W':World} {args:Array Value} {v:Value} {ds gs:List (DataW H)} {before pa pv:List MemPlace}
    (hW:DataW.Whole enc P f.params.toList s.vars apart W args.toList ds gs before)
    (hres:∀ (b:Nat) (sp:Nat→Bool) (hd:Bool),DataW.TrodAll enc P W' b sp hd f.resultTypes.toList (v.resultList f.resultTypes.size) (s.fn H (ds++gs)).results [])
    (hargs:∀ sp:Nat→Bool,(∀ p ∈ before,sp p.block=true)→DataW.TrodAll enc P W' 0 sp true f.params.toList args.toList (s.fn H (ds++gs)).args pa)
    (hvars:∀ sp:Nat→Bool,(∀ p ∈ before,sp p.block=true)→DataW.TrodVars enc P W' sp s.vars (s.fn H (ds++gs)).vars pv)
    (hps:before=pa++pv) (hb:Below W.heap.size W W')
    (hok:∀ (j:Nat) (t:TypeId) (r:Value),f.resultTypes[j]?=some t→(v.resultList f.resultTypes.size)[j]?=some r→Value.okWide P W' .any 0 t r):
    s.post enc P f apart fresh handsOn again W args v W':=by
  have hold:∀ p ∈ before,(fun b=>decide (b<W.heap.size)) p.block=true:=fun p hp=>by simpa using hW.lt p hp
  have hlt:=hW.lt;refine⟨ds,gs,before,[],pa,pv,hW,hres _ _ _,hargs _ hold,hvars _ hold,World.keptBut_mono (fun p hp=>⟨hp,?_⟩) (hb.frame (· ∈ before)),fun _=>?_⟩
  · rw[hps,List.mem_append] at hp
    exact Or.inr hp
  · obtain⟨_,_,_,_,_,hz,hn⟩:=hW
    refine⟨hok,_,_,([]++pa)++pv,⟨[]++pa,pv,trodAll_append (hargs _ (fun _ _=>rfl)) (hres _ _ _),hvars _ (fun _ _=>rfl),rfl,?_,?_⟩,?_⟩
    · intro b off hp
      have hp':MemPlace.cell b off ∈ before:=by rw[hps];simpa using hp
      rw[hb.frozen (p:=⟨b,off,none⟩) (hlt _ hp')];exact hz b off hp'
    · intro ha
      have:=hn ha;rw[hps] at this;simpa using this
    · intro p hp _
      rw[hps];simpa using hp

/-- A heap where block g holds C. -/
def layAt (g:Nat) (C:List Value) (h:Array Obj):Array Obj:=h.modify g fun
  | .cells _ t frozen=>.cells C.toArray t frozen
  | o=>o

/-- A listed table, as a block's cells. -/
theorem glob_of_reads {W:World} {n:String} {k:IntKind} {zs:List Int} {g len:Nat} {t e:TypeId} (h:Lib.VarReads P W n (Lib.tabData k zs)) (hg:P.globalNamed n=some g) (hty:(P.globals[g]?).map (·.type)=some t)
    (ht:P.underlying t=some (.array len e)) (he:P.underlying e=some (.int k)) (hce:P.cellsOf e=1) (hct:P.cellsOf t=len):GlobAt W g (zs.map (Value.int k)):=by
  obtain⟨g',t',cs,fuel,p,h1,h2,h3,h4⟩:=h;obtain rfl:=Option.some.inj (hg.symm.trans h1);obtain rfl:=Option.some.inj (hty.symm.trans h2);have hcs:=Lib.cells_of_tab ht he hce hct h4;simp only[World.var?,hg,Option.bind_some] at h3
  split at h3
  · rename_i cs' ty fr hh
    obtain rfl:=Option.some.inj h3;refine⟨ty,fr,?_⟩;rw[hh,← hcs]
  · cases h3
end
end Go.Rx

/- Closers' lemmas for slices and strings. -/
namespace Go.Rx
open Go.RowKit Go.ChangeShapes Go.WideShapes Go.ChangeAt
section
variable {H:Type} {enc:TypeId × Value→H} {P:Program} {w:World} {base:Nat} {sp:Nat→Bool} {held:Bool} {v:Value} {d:DataW H} {ps:List MemPlace}
theorem trodAll_sp {W W':World} (hl:laidOutB P=true):∀ {ts:List TypeId} {vs:List Value} {ds:List (DataW H)} {ps:List MemPlace},(∀ t ∈ ts,P.readableRec t=true∧t<P.types.size)→
    DataW.TrodAll enc P W 0 (fun _=>true) true ts vs ds ps→Below W.heap.size W W'→(∀ p ∈ ps,p.block<W.heap.size)→(∀ p ∈ ps,sp p.block=true)→DataW.TrodAll enc P W' 0 sp true ts vs ds ps
  | [],[],[],_,_,h,_,_,_=>h
  | t::ts,v::vs,d::ds,_,hT,⟨p,q,h1,h2,e⟩,hb,hlt,hs=>by
    subst e;refine⟨p,q,?_,trodAll_sp hl (fun u hu=>hT u (List.mem_cons_of_mem _ hu)) h2 hb (fun x hx=>hlt x (List.mem_append_right _ hx)) (fun x hx=>hs x (List.mem_append_right _ hx)),rfl⟩;have ht:=hT t (List.mem_cons_self ..);exact WideElems.Trod_stays hl ht.1 ht.2 h1 (fun x hx=>hb.same (hlt x (List.mem_append_left _ hx))) (fun x hx=>hs x (List.mem_append_left _ hx))
theorem slice_of {r:Reach} {b0:Nat} {t e:TypeId} (ht:P.underlying t=some (.slice e)) (hval:Value.okWide P w r b0 t v):
    v=.slice none 0 0∨∃ a len cap,v=.slice (some a) len cap∧a.spot=none∧a.block<w.heap.size:=by
  unfold Value.okWide at hval;rw[ht] at hval;simp only at hval;unfold Cell.okWide at hval;rw[ht] at hval
  cases v <;> simp only at hval <;> (unfold Cell.ok at hval;rw[ht] at hval;simp only at hval)
  rename_i a len cap
  cases a with
  | none=>
    left
    cases len <;> cases cap <;> simp_all
  | some a=>
    right
    obtain⟨_,_,_,hs,row,cells,hsh,_⟩:=hval;refine⟨a,len,cap,rfl,hs,?_⟩;unfold World.shape? at hsh;rcases Nat.lt_or_ge a.block w.heap.size with h | h
    · exact h
    · rw[Array.getElem?_eq_none h] at hsh;simp at hsh
theorem open_slice_ints {r:Reach} {b0:Nat} {t e:TypeId} {k:IntKind} (ht:P.underlying t=some (.slice e)) (he:P.underlying e=some (.int k)) (hc:P.cellsOf e=1) (hval:Value.okWide P w r b0 t v) (hd:DataW.Trod enc P w base (fun _=>true) held t v d ps):
    ∃ zs:List Int,Sl w v (zs.map (Value.int k))∧zs.length≤maxLen∧∀ n ∈ zs,(Lit.int k n).wf=true:=by
  obtain⟨fuel,hf⟩:=hd;rcases slice_of ht hval with rfl | ⟨a,len,cap,rfl,hsp,hlt⟩
  · exact⟨[],Sl.nil w,Nat.zero_le _,by simp⟩
  · rcases open_ints ht he hc hf with⟨h,_⟩ | ⟨a',len',cap',zs,h,_,hl,hm,hz,_,hcell,hwf⟩
    · simp[Value.cells] at h
    · simp[Value.cells] at h
      obtain⟨rfl,rfl,rfl⟩:=h;simp at hz;have hlen:(zs.take len).length=len:=by rw[List.length_take];omega
      refine⟨zs.take len,⟨some a,cap,by rw[lM,hlen],by rw[lM,hlen];exact hl,fun x hx=>?_,fun h=>by cases h⟩,by rw[hlen];omega,fun n hn=>hwf n (List.mem_of_mem_take hn)⟩
      cases hx
      refine⟨hsp,hlt,fun j u hu=>?_⟩;have hj:j<len:=by
        have:=(List.getElem?_eq_some_iff.1 hu).1;rw[lM,hlen] at this;exact this
      have hc':=hcell j (by omega);have ha:a=⟨a.block,a.off,none⟩:=by cases a;simp only at hsp;subst hsp;rfl
      rw[ha,add_zero'] at hc';rw[hc'];rw[List.getElem?_map,List.getElem?_take,if_pos hj] at hu;rw[List.getD_eq_getElem?_getD,List.getElem?_eq_getElem (by omega)];rw[List.getElem?_eq_getElem (by omega)] at hu;simpa using hu
theorem open_bytes {r:Reach} {b0:Nat} {t e:TypeId} (ht:P.underlying t=some (.slice e)) (he:P.underlying e=some (.int .u8)) (hc:P.cellsOf e=1) (hval:Value.okWide P w r b0 t v) (hd:DataW.Trod enc P w base (fun _=>true) held t v d ps):
    ∃ l:List UInt8,Sl w v (l.map e8)∧l.length≤maxLen:=by
  obtain⟨zs,hs,hm,hw⟩:=open_slice_ints ht he hc hval hd;refine⟨zs.map fun n=>UInt8.ofNat n.toNat,?_,by rw[lM];exact hm⟩;have:(zs.map fun n=>UInt8.ofNat n.toNat).map e8=zs.map (Value.int .u8):=by
    rw[List.map_map];apply List.map_congr_left;intro n hn;have h1:=bounds_u8 (hw n hn);show Value.int .u8 ((UInt8.ofNat n.toNat).toNat:Int)=_;rw[UInt8.toNat_ofNat_of_lt' (by show n.toNat<2 ^ 8;omega)]
    congr 1;omega
  rw[this];exact hs
end
end Go.Rx
