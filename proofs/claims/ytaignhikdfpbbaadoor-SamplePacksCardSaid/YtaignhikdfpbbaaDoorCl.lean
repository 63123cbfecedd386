/- Closers: from a walk over arrays of integers to the row's contract. -/
import Derived.Test.YtaignhikdfpbbaaDoorRxG
import Derived.WalkKit
import Derived.ProofKit
import Derived.OpenShut
import Derived.Deep.DeepHandedRow
import Derived.Lib.LaidTab
import Derived.Lib.LaidU8
import Derived.Below
import GoSem.ClaimSeven
namespace Go.Rx
open Go.RowKit Go.ChangeShapes Go.WideShapes

section
variable {H : Type} {enc : TypeId × Value → H} {P : Program} {w w' : World} {base : Nat} {spare : Nat → Bool} {held : Bool}

theorem trod_int_any {e : TypeId} {k : IntKind} (he : P.underlying e = some (.int k)) (base' : Nat) (spare' : Nat → Bool) (held' : Bool) (fuel : Nat) (cs : List Value) :
    DataW.trod enc P w base spare held fuel e cs = DataW.trod enc P w' base' spare' held' fuel e cs := by
  cases fuel with
  | zero => rfl
  | succ m =>
    match cs with
    | [] => simp [DataW.trod, he]
    | [c] => cases c <;> simp [DataW.trod, he]
    | _ :: _ :: _ => simp [DataW.trod, he]

theorem trod_arr_any {t e : TypeId} {k : IntKind} {n : Nat} (ht : P.underlying t = some (.array n e)) (he : P.underlying e = some (.int k)) (base' : Nat) (spare' : Nat → Bool) (held' : Bool) (fuel : Nat) (cs : List Value) :
    DataW.trod enc P w base spare held fuel t cs = DataW.trod enc P w' base' spare' held' fuel t cs := by
  cases fuel with
  | zero => rfl
  | succ m => simp only [DataW.trod, ht, fun c => trod_int_any (enc := enc) (w := w) (w' := w') (base := base) (spare := spare) (held := held) he base' spare' held' m c]

theorem open_ints_arr {r : Reach} {b0 : Nat} {t e : TypeId} {k : IntKind} {n : Nat} {v : Value} {d : DataW H} {ps : List MemPlace} (ht : P.underlying t = some (.array n e)) (he : P.underlying e = some (.int k)) (hce : P.cellsOf e = 1)
    (hct : P.cellsOf t = n) (hval : Value.okWide P w r b0 t v) (hd : DataW.Trod enc P w base spare held t v d ps) :
    ∃ zs : List Int, v = .agg (zs.map (Value.int k)).toArray ∧ zs.length = n ∧ (∀ z ∈ zs, (Lit.int k z).wf = true) ∧ ps = [] ∧
      ∀ (w' : World) (base' : Nat) (spare' : Nat → Bool) (held' : Bool), DataW.Trod enc P w' base' spare' held' t v d [] := by
  simp only [Value.okWide, ht] at hval
  obtain ⟨cs, rfl, hsz, _⟩ := hval
  obtain ⟨fuel, hf⟩ := hd
  obtain ⟨xs, m, rfl, hx, hl, hxl, hall⟩ := DataW.trod_array ht hf
  have hcs : cs.toList.length = n := by simp [hsz, hct]
  have helem : ∀ i, i < n → ∃ z, cs.toList[i]? = some (.int k z) ∧ (Lit.int k z).wf = true ∧ xs[i]? = some (.lit (.int k z), []) := by
    intro i hi
    obtain ⟨b, hb⟩ : ∃ b, xs[i]? = some b := ⟨xs[i]'(by omega), List.getElem?_eq_getElem (by omega)⟩
    have h1 := hall i hi
    rw [hb, hce] at h1
    obtain ⟨z, hcz, rfl, hw⟩ := DataW.trod_int he h1
    have h2 : cs.toList[i]? = some (.int k z) := by
      have := congrArg (·[0]?) hcz
      simpa [Value.cells, List.getElem?_take, List.getElem?_drop] using this
    exact ⟨z, h2, hw, hb⟩
  let f : Value → Int := fun | .int _ z => z | _ => 0
  have hzs : cs.toList = (cs.toList.map f).map (Value.int k) := by
    apply List.ext_getElem?
    intro i
    by_cases hi : i < n
    · obtain ⟨z, h1, _, _⟩ := helem i hi
      rw [List.getElem?_map, List.getElem?_map, h1]
      rfl
    · rw [List.getElem?_eq_none (by omega), List.getElem?_eq_none (by simp; omega)]
  have hps : ps = [] := by
    have h1 : ps = xs.flatMap (·.2) := congrArg Prod.snd hx
    rw [h1, List.flatMap_eq_nil_iff]
    intro y hy
    obtain ⟨i, hi, rfl⟩ := List.getElem_of_mem hy
    obtain ⟨z, _, _, h3⟩ := helem i (by omega)
    rw [List.getElem?_eq_getElem hi] at h3
    rw [Option.some.inj h3]
  subst hps
  refine ⟨cs.toList.map f, ?_, by simp [hsz, hct], ?_, rfl, fun w' base' spare' held' => ⟨m + 1, ?_⟩⟩
  · rw [← hzs]
  · intro z hz
    obtain ⟨i, hi, he'⟩ := List.getElem_of_mem hz
    obtain ⟨z', h1, h2, _⟩ := helem i (by simpa [hsz, hct] using hi)
    have h3 : (cs.toList.map f)[i]? = some z := by rw [List.getElem?_eq_getElem hi, he']
    rw [List.getElem?_map, h1] at h3
    cases Option.some.inj h3
    exact h2
  · rw [← hf]
    exact (trod_arr_any ht he base' spare' held' (m + 1) _).symm

theorem open_u64s {r : Reach} {b0 : Nat} {t e : TypeId} {n : Nat} {v : Value} {d : DataW H} {ps : List MemPlace} (ht : P.underlying t = some (.array n e)) (he : P.underlying e = some (.int .u64)) (hce : P.cellsOf e = 1)
    (hct : P.cellsOf t = n) (hval : Value.okWide P w r b0 t v) (hd : DataW.Trod enc P w base spare held t v d ps) :
    ∃ l : List UInt64, v = .agg (l.map e64).toArray ∧ l.length = n ∧ ps = [] ∧ ∀ (w' : World) (base' : Nat) (spare' : Nat → Bool) (held' : Bool), DataW.Trod enc P w' base' spare' held' t v d [] := by
  obtain ⟨zs, rfl, hn, hw, rfl, hr⟩ := open_ints_arr ht he hce hct hval hd
  have hz : zs.map (Value.int .u64) = (zs.map fun z => UInt64.ofNat z.toNat).map e64 := by
    rw [List.map_map]
    apply List.map_congr_left
    intro z hz
    have h1 := bounds_u64 (hw z hz)
    show Value.int .u64 z = Value.int .u64 ((UInt64.ofNat z.toNat).toNat : Int)
    rw [UInt64.toNat_ofNat_of_lt' (by show z.toNat < 2 ^ 64; omega)]
    congr 1; omega
  exact ⟨zs.map fun z => UInt64.ofNat z.toNat, by rw [hz], by simpa using hn, rfl, hr⟩

theorem open_u8s {r : Reach} {b0 : Nat} {t e : TypeId} {n : Nat} {v : Value} {d : DataW H} {ps : List MemPlace} (ht : P.underlying t = some (.array n e)) (he : P.underlying e = some (.int .u8)) (hce : P.cellsOf e = 1)
    (hct : P.cellsOf t = n) (hval : Value.okWide P w r b0 t v) (hd : DataW.Trod enc P w base spare held t v d ps) :
    ∃ l : List UInt8, v = .agg (l.map e8).toArray ∧ l.length = n ∧ ps = [] ∧ ∀ (w' : World) (base' : Nat) (spare' : Nat → Bool) (held' : Bool), DataW.Trod enc P w' base' spare' held' t v d [] := by
  obtain ⟨zs, rfl, hn, hw, rfl, hr⟩ := open_ints_arr ht he hce hct hval hd
  have hz : zs.map (Value.int .u8) = (zs.map fun z => UInt8.ofNat z.toNat).map e8 := by
    rw [List.map_map]
    apply List.map_congr_left
    intro z hz
    have h1 := bounds_u8 (hw z hz)
    show Value.int .u8 z = Value.int .u8 ((UInt8.ofNat z.toNat).toNat : Int)
    rw [UInt8.toNat_ofNat_of_lt' (by show z.toNat < 2 ^ 8; omega)]
    congr 1; omega
  exact ⟨zs.map fun z => UInt8.ofNat z.toNat, by rw [hz], by simpa using hn, rfl, hr⟩

theorem open_i64s {r : Reach} {b0 : Nat} {t e : TypeId} {n : Nat} {v : Value} {d : DataW H} {ps : List MemPlace} (ht : P.underlying t = some (.array n e)) (he : P.underlying e = some (.int .i64)) (hce : P.cellsOf e = 1)
    (hct : P.cellsOf t = n) (hval : Value.okWide P w r b0 t v) (hd : DataW.Trod enc P w base spare held t v d ps) :
    ∃ l : List Int, v = .agg (l.map ei).toArray ∧ l.length = n ∧ ps = [] ∧ ∀ (w' : World) (base' : Nat) (spare' : Nat → Bool) (held' : Bool), DataW.Trod enc P w' base' spare' held' t v d [] := by
  obtain ⟨zs, rfl, hn, _, rfl, hr⟩ := open_ints_arr ht he hce hct hval hd
  exact ⟨zs, rfl, hn, rfl, hr⟩
theorem open_u32 {r : Reach} {b0 : Nat} {t : TypeId} {v : Value} {d : DataW H} {ps : List MemPlace} (ht : P.underlying t = some (.int .u32)) (hval : Value.okWide P w r b0 t v) (hd : DataW.Trod enc P w base spare held t v d ps) :
    ∃ x : UInt32, v = e32 x ∧ ps = [] ∧ ∀ (w' : World) (base' : Nat) (spare' : Nat → Bool) (held' : Bool), DataW.Trod enc P w' base' spare' held' t v d [] := by
  obtain ⟨n, rfl, rfl, rfl, hw⟩ := open_int ht hval hd
  have h1 := bounds_u32 hw
  refine ⟨UInt32.ofNat n.toNat, ?_, rfl, fun _ _ _ _ => shut_int ht hw⟩
  show Value.int .u32 n = Value.int .u32 ((UInt32.ofNat n.toNat).toNat : Int)
  rw [UInt32.toNat_ofNat_of_lt' (by show n.toNat < 2 ^ 32; omega)]
  congr 1; omega
theorem open_u8 {r : Reach} {b0 : Nat} {t : TypeId} {v : Value} {d : DataW H} {ps : List MemPlace} (ht : P.underlying t = some (.int .u8)) (hval : Value.okWide P w r b0 t v) (hd : DataW.Trod enc P w base spare held t v d ps) :
    ∃ x : UInt8, v = e8 x ∧ ps = [] ∧ ∀ (w' : World) (base' : Nat) (spare' : Nat → Bool) (held' : Bool), DataW.Trod enc P w' base' spare' held' t v d [] := by
  obtain ⟨n, rfl, rfl, rfl, hw⟩ := open_int ht hval hd
  have h1 := bounds_u8 hw
  refine ⟨UInt8.ofNat n.toNat, ?_, rfl, fun _ _ _ _ => shut_int ht hw⟩
  show Value.int .u8 n = Value.int .u8 ((UInt8.ofNat n.toNat).toNat : Int)
  rw [UInt8.toNat_ofNat_of_lt' (by show n.toNat < 2 ^ 8; omega)]
  congr 1; omega
theorem open_u64 {r : Reach} {b0 : Nat} {t : TypeId} {v : Value} {d : DataW H} {ps : List MemPlace} (ht : P.underlying t = some (.int .u64)) (hval : Value.okWide P w r b0 t v) (hd : DataW.Trod enc P w base spare held t v d ps) :
    ∃ x : UInt64, v = e64 x ∧ ps = [] ∧ ∀ (w' : World) (base' : Nat) (spare' : Nat → Bool) (held' : Bool), DataW.Trod enc P w' base' spare' held' t v d [] := by
  obtain ⟨n, rfl, rfl, rfl, hw⟩ := open_int ht hval hd
  have h1 := bounds_u64 hw
  refine ⟨UInt64.ofNat n.toNat, ?_, rfl, fun _ _ _ _ => shut_int ht hw⟩
  show Value.int .u64 n = Value.int .u64 ((UInt64.ofNat n.toNat).toNat : Int)
  rw [UInt64.toNat_ofNat_of_lt' (by show n.toNat < 2 ^ 64; omega)]
  congr 1; omega

/-- 'post', where nothing below the heap's old size has turned. -/
theorem post_below {f : Func} {s : ChangeSpec} {apart fresh handsOn again : Bool} {W W' : World} {args : Array Value} {v : Value} {ds gs : List (DataW H)} {before pa pv : List MemPlace}
    (hW : DataW.Whole enc P f.params.toList s.vars apart W args.toList ds gs before)
    (hres : ∀ (b : Nat) (sp : Nat → Bool) (hd : Bool), DataW.TrodAll enc P W' b sp hd f.resultTypes.toList (v.resultList f.resultTypes.size) (s.fn H (ds ++ gs)).results [])
    (hargs : ∀ sp : Nat → Bool, (∀ p ∈ before, sp p.block = true) → DataW.TrodAll enc P W' 0 sp true f.params.toList args.toList (s.fn H (ds ++ gs)).args pa)
    (hvars : ∀ sp : Nat → Bool, (∀ p ∈ before, sp p.block = true) → DataW.TrodVars enc P W' sp s.vars (s.fn H (ds ++ gs)).vars pv)
    (hps : before = pa ++ pv) (hb : Below W.heap.size W W')
    (hok : ∀ (j : Nat) (t : TypeId) (r : Value), f.resultTypes[j]? = some t → (v.resultList f.resultTypes.size)[j]? = some r → Value.okWide P W' .any 0 t r) :
    s.post enc P f apart fresh handsOn again W args v W' := by
  have hold : ∀ p ∈ before, (fun b => decide (b < W.heap.size)) p.block = true := fun p hp => by simpa using hW.lt p hp
  have hlt := hW.lt
  refine ⟨ds, gs, before, [], pa, pv, hW, hres _ _ _, hargs _ hold, hvars _ hold, World.keptBut_mono (fun p hp => ⟨hp, ?_⟩) (hb.frame (· ∈ before)), fun _ => ?_⟩
  · rw [hps, List.mem_append] at hp
    exact Or.inr hp
  · obtain ⟨_, _, _, _, _, hz, hn⟩ := hW
    refine ⟨hok, _, _, ([] ++ pa) ++ pv, ⟨[] ++ pa, pv, trodAll_append (hargs _ (fun _ _ => rfl)) (hres _ _ _), hvars _ (fun _ _ => rfl), rfl, ?_, ?_⟩, ?_⟩
    · intro b off hp
      have hp' : MemPlace.cell b off ∈ before := by rw [hps]; simpa using hp
      rw [hb.frozen (p := ⟨b, off, none⟩) (hlt _ hp')]
      exact hz b off hp'
    · intro ha
      have := hn ha
      rw [hps] at this
      simpa using this
    · intro p hp _
      rw [hps]
      simpa using hp

/-- A heap where block g holds C. -/
def layAt (g : Nat) (C : List Value) (h : Array Obj) : Array Obj := h.modify g fun
  | .cells _ t frozen => .cells C.toArray t frozen
  | o => o

/-- A listed table, as a block's cells. -/
theorem glob_of_reads {W : World} {n : String} {k : IntKind} {zs : List Int} {g len : Nat} {t e : TypeId} (h : Lib.VarReads P W n (Lib.tabData k zs)) (hg : P.globalNamed n = some g) (hty : (P.globals[g]?).map (·.type) = some t)
    (ht : P.underlying t = some (.array len e)) (he : P.underlying e = some (.int k)) (hce : P.cellsOf e = 1) (hct : P.cellsOf t = len) : GlobAt W g (zs.map (Value.int k)) := by
  obtain ⟨g', t', cs, fuel, p, h1, h2, h3, h4⟩ := h
  obtain rfl := Option.some.inj (hg.symm.trans h1)
  obtain rfl := Option.some.inj (hty.symm.trans h2)
  have hcs := Lib.cells_of_tab ht he hce hct h4
  simp only [World.var?, hg, Option.bind_some] at h3
  split at h3
  · rename_i cs' ty fr hh
    obtain rfl := Option.some.inj h3
    refine ⟨ty, fr, ?_⟩
    rw [hh, ← hcs]
  · cases h3
end
end Go.Rx
