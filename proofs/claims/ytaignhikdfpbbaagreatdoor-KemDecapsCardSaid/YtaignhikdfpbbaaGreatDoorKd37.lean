/- Texts of this claim, one behind the other: Cm. -/
import Derived.Test.YtaignhikdfpbbaaGreatDoorKd36
import Derived.Test.YtaignhikdfpbbaaGreatDoorKd31
import Derived.WideKeyArgs
import Derived.ChangeSlices
import Derived.ChangeMaps5
set_option linter.unusedVariables false
set_option linter.unusedSimpArgs false
/- Closers' lemmas for slices and strings. -/
namespace Go.Rx
open Go.RowKit Go.ChangeShapes Go.WideShapes Go.ChangeAt
section
variable {H:Type} {enc:TypeId × Value→H} {P:Program} {w:World} {base:Nat} {sp:Nat→Bool} {held:Bool} {v:Value} {d:DataW H} {ps:List MemPlace}
theorem trodAll_sp {W W':World} (hl:laidOutB P=true):∀ {ts:List TypeId} {vs:List Value} {ds:List (DataW H)} {ps:List MemPlace},(∀ t ∈ ts,P.readableRec t=true∧t<P.types.size)→
    DataW.TrodAll enc P W 0 (fun _=>true) true ts vs ds ps→Below W.heap.size W W'→(∀ p ∈ ps,p.block<W.heap.size)→(∀ p ∈ ps,sp p.block=true)→DataW.TrodAll enc P W' 0 sp true ts vs ds ps
  | [],[],[],_,_,h,_,_,_=>h
  | t::ts,v::vs,d::ds,_,hT,⟨p,q,h1,h2,e⟩,hb,hlt,hs=>by
    subst e;refine⟨p,q,?_,trodAll_sp hl (fun u hu=>hT u (List.mem_cons_of_mem _ hu)) h2 hb (fun x hx=>hlt x (List.mem_append_right _ hx)) (fun x hx=>hs x (List.mem_append_right _ hx)),rfl⟩;have ht:=hT t (List.mem_cons_self ..);exact WideElems.Trod_stays hl ht.1 ht.2 h1 (fun x hx=>hb.same (hlt x (List.mem_append_left _ hx))) (fun x hx=>hs x (List.mem_append_left _ hx))
theorem slice_of {r:Reach} {b0:Nat} {t e:TypeId} (ht:P.underlying t=some (.slice e)) (hval:Value.okWide P w r b0 t v):
    v=.slice none 0 0∨∃ a len cap,v=.slice (some a) len cap∧a.spot=none∧a.block<w.heap.size:=by
  unfold Value.okWide at hval;rw[ht] at hval;simp only at hval;unfold Cell.okWide at hval;rw[ht] at hval
  cases v <;> simp only at hval <;> (unfold Cell.ok at hval;rw[ht] at hval;simp only at hval)
  rename_i a len cap
  cases a with
  | none=>
    left
    cases len <;> cases cap <;> simp_all
  | some a=>
    right
    obtain⟨_,_,_,hs,row,cells,hsh,_⟩:=hval;refine⟨a,len,cap,rfl,hs,?_⟩;unfold World.shape? at hsh;rcases Nat.lt_or_ge a.block w.heap.size with h | h
    · exact h
    · rw[Array.getElem?_eq_none h] at hsh;simp at hsh
theorem open_slice_ints {r:Reach} {b0:Nat} {t e:TypeId} {k:IntKind} (ht:P.underlying t=some (.slice e)) (he:P.underlying e=some (.int k)) (hc:P.cellsOf e=1) (hval:Value.okWide P w r b0 t v) (hd:DataW.Trod enc P w base (fun _=>true) held t v d ps):
    ∃ zs:List Int,Sl w v (zs.map (Value.int k))∧zs.length≤maxLen∧∀ n ∈ zs,(Lit.int k n).wf=true:=by
  obtain⟨fuel,hf⟩:=hd;rcases slice_of ht hval with rfl | ⟨a,len,cap,rfl,hsp,hlt⟩
  · exact⟨[],Sl.nil w,Nat.zero_le _,by simp⟩
  · rcases open_ints ht he hc hf with⟨h,_⟩ | ⟨a',len',cap',zs,h,_,hl,hm,hz,_,hcell,hwf⟩
    · simp[Value.cells] at h
    · simp[Value.cells] at h
      obtain⟨rfl,rfl,rfl⟩:=h;simp at hz;have hlen:(zs.take len).length=len:=by rw[List.length_take];omega
      refine⟨zs.take len,⟨some a,cap,by rw[lM,hlen],by rw[lM,hlen];exact hl,fun x hx=>?_,fun h=>by cases h⟩,by rw[hlen];omega,fun n hn=>hwf n (List.mem_of_mem_take hn)⟩
      cases hx
      refine⟨hsp,hlt,fun j u hu=>?_⟩;have hj:j<len:=by
        have:=(List.getElem?_eq_some_iff.1 hu).1;rw[lM,hlen] at this;exact this
      have hc':=hcell j (by omega);have ha:a=⟨a.block,a.off,none⟩:=by cases a;simp only at hsp;subst hsp;rfl
      rw[ha,add_zero'] at hc';rw[hc'];rw[List.getElem?_map,List.getElem?_take,if_pos hj] at hu;rw[List.getD_eq_getElem?_getD,List.getElem?_eq_getElem (by omega)];rw[List.getElem?_eq_getElem (by omega)] at hu;simpa using hu
theorem open_bytes {r:Reach} {b0:Nat} {t e:TypeId} (ht:P.underlying t=some (.slice e)) (he:P.underlying e=some (.int .u8)) (hc:P.cellsOf e=1) (hval:Value.okWide P w r b0 t v) (hd:DataW.Trod enc P w base (fun _=>true) held t v d ps):
    ∃ l:List UInt8,Sl w v (l.map e8)∧l.length≤maxLen:=by
  obtain⟨zs,hs,hm,hw⟩:=open_slice_ints ht he hc hval hd;refine⟨zs.map fun n=>UInt8.ofNat n.toNat,?_,by rw[lM];exact hm⟩;have:(zs.map fun n=>UInt8.ofNat n.toNat).map e8=zs.map (Value.int .u8):=by
    rw[List.map_map];apply List.map_congr_left;intro n hn;have h1:=bounds_u8 (hw n hn);show Value.int .u8 ((UInt8.ofNat n.toNat).toNat:Int)=_;rw[UInt8.toNat_ofNat_of_lt' (by show n.toNat<2 ^ 8;omega)]
    congr 1;omega
  rw[this];exact hs
/-- A slice of bytes takes no more than the form's reach. -/
theorem bytes_reach {r:Reach} {b0:Nat} {t e:TypeId} (ht:P.underlying t=some (.slice e)) (he:P.underlying e=some (.int .u8)) (hc:P.cellsOf e=1) (hb:P.bytesOf e=1) (hval:Value.okWide P w r b0 t v) (hd:DataW.Trod enc P w base (fun _=>true) held t v d ps)
    {l:List UInt8} (hs:Sl w v (l.map e8)) (hw:(DataW.weights P t d).all (· ≤reachBytes)=true):l.length≤reachBytes:=by
  obtain⟨fuel,hf⟩:=hd;obtain⟨a0,cap0,hv,_⟩:=hs;rw[lM] at hv;rcases slice_of ht hval with rfl | ⟨a,len,cap,rfl,hsp,hlt⟩
  · injection hv with h1 h2 h3
    rw[← h2];exact Nat.zero_le _
  · injection hv with h1 h2 h3
    rcases open_ints ht he hc hf with⟨h,_⟩ | ⟨a',len',cap',zs,h,_,hl,hm,hz,hx,hcell,hwf⟩
    · simp[Value.cells] at h
    · simp[Value.cells] at h
      obtain⟨rfl,rfl,rfl⟩:=h;have hd2:d=.slice (lits .u8 (zs.take len)) (lits .u8 (zs.drop len)):=congrArg Prod.fst hx;subst hd2;have hln:len≤zs.length:=by rw[hz];split <;> omega
      simp only[DataW.weights,ht,hb,List.all_cons,Bool.and_eq_true,decide_eq_true_eq] at hw;have h4:(lits (H:=H) IntKind.u8 (zs.take len)).length=len:=by simp[lits];omega
      omega
theorem open_numbers {r:Reach} {b0:Nat} {t e:TypeId} (ht:P.underlying t=some (.slice e)) (he:P.underlying e=some (.int .i64)) (hc:P.cellsOf e=1) (hval:Value.okWide P w r b0 t v) (hd:DataW.Trod enc P w base (fun _=>true) held t v d ps):
    ∃ l:List Int,Sl w v (l.map ei)∧l.length≤maxLen:=by
  obtain⟨zs,hs,hm,hw⟩:=open_slice_ints ht he hc hval hd;exact⟨zs,hs,hm⟩
end
end Go.Rx
