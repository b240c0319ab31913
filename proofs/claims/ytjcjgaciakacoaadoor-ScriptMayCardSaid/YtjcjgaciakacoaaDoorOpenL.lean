/- The step from a walk to a law's row that lists variables. No condition. -/
import Derived.Test.YtjcjgaciakacoaaDoorOpen
import Derived.LaidMore
import Derived.LaidLaws
import Derived.Handed
import Derived.SevenTiedAt
namespace Go.Proofs.YtjcjgaciakacoaaDoor
open Go.ChangeShapes Go.WideShapes Go.ChangeAt Go.RowKit
set_option linter.unusedSimpArgs false
set_option linter.unusedVariables false
theorem trod_ints_lit {H : Type} {enc : TypeId × Value → H} {P : Program} {w : World} {base : Nat} {spare : Nat → Bool} {held : Bool} {fuel : Nat} {t e : TypeId} {k : IntKind} {cs : List Value} {ns : List Int} {ps : List MemPlace} (hu : P.underlying t = some (.array ns.length e)) (he : P.underlying e = some (.int k)) (hc : P.cellsOf e = 1) (hn : P.cellsOf t = ns.length)
    (h : DataW.trod enc P w base spare held fuel t cs = some (.agg (ns.map fun n => .lit (.int k n)), ps)) : cs = ns.map (.int k) := by
  obtain ⟨xs, m, rfl, hx, hl, hxl, hget⟩ := DataW.trod_array hu h
  simp only [Prod.mk.injEq, DataW.agg.injEq] at hx
  rw [hn] at hl
  apply List.ext_getElem?
  intro i
  by_cases hi : i < ns.length
  · have h1 := hget i hi
    rw [hc, Nat.mul_one, List.getElem?_eq_getElem (by omega : i < xs.length)] at h1
    obtain ⟨v, hv, hv2, _⟩ := DataW.trod_int he h1
    have h2 := congrArg (fun l => l[i]?) hx.1
    simp only [List.getElem?_map, List.getElem?_eq_getElem (by omega : i < xs.length), List.getElem?_eq_getElem hi, Option.map_some, Option.some.injEq] at h2
    rw [hv2] at h2
    simp only [DataW.lit.injEq, Lit.int.injEq, true_and] at h2
    have h3 : cs[i]? = some (.int k v) := by
      have := congrArg (fun l : List Value => l[0]?) hv
      simpa [List.getElem?_take, List.getElem?_drop] using this
    rw [h3, List.getElem?_map, List.getElem?_eq_getElem hi, h2]; rfl
  · rw [List.getElem?_eq_none (by omega), List.getElem?_eq_none (by simp; omega)]
theorem trod_strs_lit {H : Type} {enc : TypeId × Value → H} {P : Program} {w : World} {base : Nat} {spare : Nat → Bool} {held : Bool} {fuel : Nat} {t e : TypeId} {cs : List Value} {ns : List (List UInt8)} {ps : List MemPlace} (hu : P.underlying t = some (.array ns.length e)) (he : P.underlying e = some .string) (hc : P.cellsOf e = 1) (hn : P.cellsOf t = ns.length)
    (h : DataW.trod enc P w base spare held fuel t cs = some (.agg (ns.map fun n => .lit (.string n)), ps)) : cs = ns.map (fun n => .string ⟨n.toArray⟩) := by
  obtain ⟨xs, m, rfl, hx, hl, hxl, hget⟩ := DataW.trod_array hu h
  simp only [Prod.mk.injEq, DataW.agg.injEq] at hx
  rw [hn] at hl
  apply List.ext_getElem?
  intro i
  by_cases hi : i < ns.length
  · have h1 := hget i hi
    rw [hc, Nat.mul_one, List.getElem?_eq_getElem (by omega : i < xs.length)] at h1
    obtain ⟨v, hv, hv2, _⟩ := DataW.trod_string he h1
    have h2 := congrArg (fun l => l[i]?) hx.1
    simp only [List.getElem?_map, List.getElem?_eq_getElem (by omega : i < xs.length), List.getElem?_eq_getElem hi, Option.map_some, Option.some.injEq] at h2
    rw [hv2] at h2
    simp only [DataW.lit.injEq, Lit.string.injEq] at h2
    have h3 : cs[i]? = some (.string v) := by
      have := congrArg (fun l : List Value => l[0]?) hv
      simpa [List.getElem?_take, List.getElem?_drop] using this
    rw [h3, List.getElem?_map, List.getElem?_eq_getElem hi, h2]; simp
  · rw [List.getElem?_eq_none (by omega), List.getElem?_eq_none (by simp; omega)]
theorem law_lifts_laid {C : Checked} {f : FuncId} {fn : Func} {s : ChangeSpec} {tb : TypeId} {ld : List (String × DataW Unit)} (own : ownKnob C.prog.godebug = none) (noInit : C.prog.inits.idxOf? f = none)
    (hfn : C.prog.funcs[f]? = some fn) (laid : laidOutB C.prog = true) (hres : fn.resultTypes = #[tb]) (hb : C.prog.underlying tb = some .bool) (hvars : s.vars = [])
    (hread : ∀ t ∈ fn.params.toList, C.prog.readableRec t = true ∧ t < C.prog.types.size)
    (hs : ∀ (H : Type) (ds : List (DataW H)), ds.length = fn.params.toList.length → s.fn H ds = { results := [.lit (.bool true)], args := ds })
    (os : Os) (started : os.Started) (H : Type) (enc : TypeId × Value → H)
    (witness : ∃ (w : World) (tape : Tape) (i : Input), w.os = os ∧ (w.forCall tape i).Shaped C.prog ∧ i.vars = [] ∧ Input.okWide C.prog (w.forCall tape i) .any w.heap.size f i ∧
      ((s.pre enc C.prog fn [] false (w.forCall tape i).memory i.args ∧ laidMetH C.prog ld (w.forCall tape i).memory) ∧ sizedMet enc C.prog fn (OpenSpec.ofChange s) false (w.forCall tape i).memory i.args) ∧ Assume.holds {} C.prog (lone (Frame.enter C.prog f i.args .normal) [] (w.forCall tape i)))
    (walk : ∀ (W : World) (base : Nat) (args : Array Value) (ds : List (DataW H)) (ps : List MemPlace), Given enc C.prog fn W base args ds ps → laidMetH C.prog ld W → Calls C.prog f args W (Yes W)) :
    ReturnsInHanded {} C os f .any (fun w args => (s.pre enc C.prog fn [] false w args ∧ laidMetH C.prog ld w) ∧ sizedMet enc C.prog fn (OpenSpec.ofChange s) false w args) (s.post enc C.prog fn false true false false) := by
  refine returnsInHanded_of_change_and (X := fun w _ => laidMetH C.prog ld w) (fun _ _ _ hh h => h.of_heap hh) own started noInit hfn witness ?_
  intro W base args ds gs before hval hW _ hsz hL _
  have hW' := hW
  obtain ⟨p, q, hA, hV, rfl, hfz, hnd⟩ := hW
  rw [hvars] at hV
  obtain ⟨rfl, rfl⟩ : gs = [] ∧ q = [] := by
    cases gs with
    | nil => exact ⟨rfl, hV⟩
    | cons g gs => exact hV.elim
  have hsz' : (DataW.weightsEach C.prog fn.params.toList ds).all (· ≤ reachBytes) = true := by
    have e : s.plain.varTypes C.prog = [] := by unfold DataSpec.varTypes; simp [ChangeSpec.plain, hvars]
    rw [e] at hsz
    simpa using hsz
  have lt := trodAll_lt _ _ _ _ hA
  refine (walk W base args ds p ⟨hval, hA, hsz'⟩ hL).mono fun e W' ⟨he, hk⟩ => ?_
  subst he
  have hd := trodAll_len _ _ _ _ hA
  refine ⟨_, rfl, ds, [], p ++ [], [] ++ [], p, [], hW', ?_, ?_, ?_, Below.frame hk _, fun h => by cases h⟩
  · rw [List.append_nil, hs H ds hd, hres]
    exact ⟨[], [], shut_bool hb true, rfl, rfl⟩
  · rw [List.append_nil, hs H ds hd]
    exact Below.trodAll laid hk _ _ _ _ hread lt hA
  · rw [List.append_nil, hs H ds hd, hvars]
    rfl
end Go.Proofs.YtjcjgaciakacoaaDoor
