/-
  PI: from a function's contract on data to a law's row: true, and all that came in reads as it did.
-/
import Derived.Test.YtiiibhgnmlmoaaaGreatCPD
import Derived.OpenVars
import Derived.Lib.LaidTab
namespace Go.PI
set_option linter.unusedVariables false
set_option linter.unusedSimpArgs false
set_option linter.unnecessarySimpa false
open Go Go.RowKit Go.WideShapes Go.ChangeShapes Go.WideElems
section
variable {H : Type} {enc : TypeId × Value → H} {P : Program}
theorem trodAll_stays (hl : laidOutB P = true) {W W' : World} (hb : Below W.heap.size W W') {sp : Nat → Bool} : ∀ {ts : List TypeId} {vs : List Value} {ds : List (DataW H)} {ps : List MemPlace},
    ts.all (fun t => P.readableRec t && decide (t < P.types.size)) = true → DataW.TrodAll enc P W 0 (fun _ => true) true ts vs ds ps → (∀ p ∈ ps, sp p.block = true) → DataW.TrodAll enc P W' 0 sp true ts vs ds ps
  | [], [], [], _, _, h, _ => h
  | t :: ts, v :: vs, d :: ds, ps, hr, h, hs => by
    have hlt := h.lt
    obtain ⟨p, q, ⟨fuel, h1⟩, h2, e⟩ := h
    simp only [List.all_cons, Bool.and_eq_true, decide_eq_true_eq] at hr
    have hp : ∀ x ∈ p, x.block < W.heap.size := fun x hx => hlt x (by rw [e]; simp [hx])
    exact ⟨p, q, ⟨fuel, DataW.trod_stays (kids_book hl hr.1.1) (book_sized hr.1.1) (fun h => by cases h) ⟨hr.1.2, book_self t⟩ h1 (fun x hx => hb.same (hp x hx)) (fun x hx => hs x (by rw [e]; simp [hx]))⟩,
      trodAll_stays hl hb (by simpa using hr.2) h2 (fun x hx => hs x (by rw [e]; simp [hx])), e⟩
  | [], [], _ :: _, _, _, h, _ => h.elim
  | [], _ :: _, _, _, _, h, _ => h.elim
  | _ :: _, [], _, _, _, h, _ => h.elim
  | _ :: _, _ :: _, [], _, _, h, _ => h.elim
theorem val_slice {w : World} {r : Reach} {b0 : Nat} {t : TypeId} {v : Value} {e : TypeId} (ht : P.underlying t = some (.slice e)) (h : Value.okWide P w r b0 t v) : v.cells = #[v] := by
  simp [Value.okWide, ht, Cell.okWide, Cell.ok] at h
  cases v <;> simp_all [Value.cells]
theorem val_struct {w : World} {r : Reach} {b0 : Nat} {t : TypeId} {v : Value} {fs : Array Field} (ht : P.underlying t = some (.struct fs)) (h : Value.okWide P w r b0 t v) : ∃ cs, v = .agg cs := by
  simp only [Value.okWide, ht] at h
  obtain ⟨cs, h, _⟩ := h
  exact ⟨cs, h⟩
theorem arg_struct {w : World} {r : Reach} {b0 : Nat} {ps : Array TypeId} {args : Array Value} (h : ∀ (j : Nat) t v, ps[j]? = some t → args[j]? = some v → Value.okWide P w r b0 t v) (j : Nat) {t : TypeId} {v : Value} {fs : Array Field} (h1 : ps[j]? = some t) (h2 : args[j]? = some v) (ht : P.underlying t = some (.struct fs)) : ∃ cs, v = .agg cs := val_struct ht (h j t v h1 h2)
theorem arg_slice {w : World} {r : Reach} {b0 : Nat} {ps : Array TypeId} {args : Array Value} (h : ∀ (j : Nat) t v, ps[j]? = some t → args[j]? = some v → Value.okWide P w r b0 t v) (j : Nat) {t : TypeId} {v : Value} {e : TypeId} (h1 : ps[j]? = some t) (h2 : args[j]? = some v) (ht : P.underlying t = some (.slice e)) : v.cells = #[v] := val_slice ht (h j t v h1 h2)
theorem rc_one {w : World} {A : Nat → Prop} {d : PV} {v : Value} (hc : v.cells = #[v]) (h : RC w A [d] v.cells.toList) : RD w A d v := by
  rw [hc] at h
  exact (h.2 0 d rfl).1
theorem rc_agg {w : World} {A : Nat → Prop} {ds : List PV} {v : Value} (hc : ∃ cs, v = .agg cs) (h : RC w A ds v.cells.toList) : RD w A (.agg ds) v := by
  obtain ⟨cs, rfl⟩ := hc
  simp only [Value.cells] at h
  have e : ∀ i, cs.toList.getD i undef = cs.getD i undef := fun i => by simp [Array.getD_eq_getD_getElem?, List.getD_eq_getElem?_getD]
  refine .agg ds cs (by simpa using h.1.symm) (fun i d hd => ?_) (fun i hi => ?_)
  · have := (h.2 i d hd).1; rwa [e] at this
  · have := (h.2 i ds[i] (List.getElem?_eq_getElem hi)).2; rwa [e] at this
/-- The row's last step, where below the heap's old size nothing has turned. -/
theorem post_below {f : Func} {s : ChangeSpec} {W W' : World} {args : Array Value} {v : Value} {ds gs : List (DataW H)} {before pa pv : List MemPlace}
    (hW : DataW.Whole enc P f.params.toList s.vars false W args.toList ds gs before)
    (hres : ∀ (b : Nat) (sp : Nat → Bool) (hd : Bool), DataW.TrodAll enc P W' b sp hd f.resultTypes.toList (v.resultList f.resultTypes.size) (s.fn H (ds ++ gs)).results [])
    (hargs : ∀ sp : Nat → Bool, (∀ p ∈ before, sp p.block = true) → DataW.TrodAll enc P W' 0 sp true f.params.toList args.toList (s.fn H (ds ++ gs)).args pa)
    (hvars : ∀ sp : Nat → Bool, (∀ p ∈ before, sp p.block = true) → DataW.TrodVars enc P W' sp s.vars (s.fn H (ds ++ gs)).vars pv)
    (hps : before = pa ++ pv) (hb : Below W.heap.size W W')
    (hok : ∀ (j : Nat) (t : TypeId) (r : Value), f.resultTypes[j]? = some t → (v.resultList f.resultTypes.size)[j]? = some r → Value.okWide P W' .any 0 t r) :
    s.post enc P f false true false false W args v W' := by
  have hold : ∀ p ∈ before, (fun b => decide (b < W.heap.size)) p.block = true := fun p hp => by simpa using hW.lt p hp
  refine ⟨ds, gs, before, [], pa, pv, hW, hres _ _ _, hargs _ hold, hvars _ hold, World.keptBut_mono (fun p hp => ⟨hp, ?_⟩) (hb.frame (· ∈ before)), fun h => by cases h⟩
  rw [hps, List.mem_append] at hp
  exact Or.inr hp
/-- A LAW, out of its contract on data. -/
theorem law_post {G : Gl} {f : FuncId} {fn : Func} {s : ChangeSpec} {tb : TypeId} (hl : laidOutB P = true) (hr : fn.params.toList.all (fun t => P.readableRec t && decide (t < P.types.size)) = true)
    (hrt : fn.resultTypes = #[tb]) (htb : P.underlying tb = some .bool) (hv : s.vars = [])
    {W : World} {args : Array Value} {ds gs : List (DataW H)} {before : List MemPlace} (hfn : ∀ gs : List (DataW H), gs = [] → s.fn H (ds ++ gs) = { results := [.lit (.bool true)], args := ds })
    (hW : DataW.Whole enc P fn.params.toList s.vars false W args.toList ds gs before) (hg : Gok G W (AllB W)) {pvs : List PV} (hd : RDs W (AllB W) pvs args.toList) (hF : FnC P G f pvs (.data (.bool true))) :
    Calls P f args W fun e W' => ∃ v, e = .returned v ∧ s.post enc P fn false true false false W args v W' := by
  have hc := hF.2 W (AllB W) args.toList (fun _ h => h) hg hd
  rw [Array.toArray_toList] at hc
  refine hc.mono fun e W' ⟨v, he, hb, hh⟩ => ⟨v, he, ?_⟩
  obtain rfl : v = .bool true := by cases (show RD _ _ (.bool true) v from hh); rfl
  have hW0 := hW
  obtain ⟨p, q, hA, hV, rfl, _, _⟩ := hW0
  rw [hv] at hV
  obtain ⟨rfl, rfl⟩ := trodVars_none hV
  have hfn := hfn [] rfl
  refine post_below (pa := p) (pv := []) hW (fun b sp hd => ?_) (fun sp hsp => ?_) (fun sp hsp => ?_) rfl hb (ok_one hrt rfl (okWide_bool_mk htb _))
  · rw [hfn, hrt]
    exact trodAll_cons_mk (shut_bool htb _) trodAll_mk0
  · rw [hfn]
    exact trodAll_stays hl hb hr hA (fun x hx => hsp x (by simp [hx]))
  · rw [hfn, hv]
    rfl
end
end Go.PI
