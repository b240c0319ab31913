/- Reading arguments, and the step from a walk to a law's row, over any program. No condition. -/
import Derived.Test.YtkcpgdkchglhhaaBase
import Derived.ProofKit
import Derived.OpenShut
import Derived.ChangeOld
import Derived.SizedLaws
import Derived.Deep.Slices
import Derived.Lib.SmallJoins
import Derived.Deep.CondSized
import Derived.JoinedCond
namespace Go.Proofs.Ytkcpgdkchglhhaa
open Go.ChangeShapes Go.WideShapes Go.ChangeAt Go.RowKit
set_option linter.unusedSimpArgs false
set_option linter.unusedVariables false

theorem i64_of_wf {n : Int} (h : (Lit.int .i64 n).wf = true) : I64 n := by
  have := bounds_i64 h; unfold I64; omega
theorem u8_of_wf {n : Int} (h : (Lit.int .u8 n).wf = true) : 0 ≤ n ∧ n ≤ 255 := by
  have := bounds_u8 h; omega

section
variable {H : Type} {enc : TypeId × Value → H} {P : Program} {w : World} {base : Nat} {spare : Nat → Bool} {held : Bool} {fuel : Nat} {t : TypeId} {cs : List Value} {x : DataW H × List MemPlace}

/-- The cells of an array of numbers. -/
theorem trod_arr {n : Nat} {e : TypeId} {k : IntKind} (ht : P.underlying t = some (.array n e)) (he : P.underlying e = some (.int k)) (hc : P.cellsOf e = 1) (hn : P.cellsOf t = n)
    (h : DataW.trod enc P w base spare held fuel t cs = some x) : ∃ l : List Int, cs = l.map (Value.int k) ∧ l.length = n ∧ ∀ i, i < n → (Lit.int k (l.getD i 0)).wf = true := by
  obtain ⟨xs, m, rfl, rfl, hl, hx, hi⟩ := DataW.trod_array ht h
  have key : ∀ i, i < n → ∃ v, cs[i]? = some (Value.int k v) ∧ (Lit.int k v).wf = true := by
    intro i hin
    have h1 := hi i hin
    rw [hc, Nat.mul_one] at h1
    rw [List.getElem?_eq_getElem (by omega : i < xs.length)] at h1
    obtain ⟨v, hv, _, hw⟩ := DataW.trod_int he h1
    refine ⟨v, ?_, hw⟩
    have : ((cs.drop i).take 1)[0]? = some (Value.int k v) := by rw [hv]; rfl
    simpa [List.getElem?_take, List.getElem?_drop] using this
  let f : Value → Int := fun v => match v with | .int _ q => q | _ => 0
  refine ⟨cs.map f, ?_, by simp [hl, hn], ?_⟩
  · apply List.ext_getElem?
    intro i
    by_cases hin : i < n
    · obtain ⟨v, hv, _⟩ := key i hin
      simp [hv, f]
    · have : cs.length ≤ i := by omega
      simp [List.getElem?_eq_none this]
  · intro i hin
    obtain ⟨v, hv, hw⟩ := key i hin
    simp [List.getD, hv, f, hw]

theorem okWide_agg_arr {r : Reach} {n : Nat} {e : TypeId} {v : Value} (ht : P.underlying t = some (.array n e)) (hv : Value.okWide P w r base t v) : ∃ cs, v = .agg cs := by
  simp only [Value.okWide, ht] at hv
  obtain ⟨cs, rfl, _⟩ := hv
  exact ⟨cs, rfl⟩
theorem okWide_agg_struct {r : Reach} {fs : Array Field} {v : Value} (ht : P.underlying t = some (.struct fs)) (hv : Value.okWide P w r base t v) : ∃ cs, v = .agg cs := by
  simp only [Value.okWide, ht] at hv
  obtain ⟨cs, rfl, _⟩ := hv
  exact ⟨cs, rfl⟩
/-- An array of numbers among the arguments. -/
theorem open_arr {r : Reach} {b0 n : Nat} {e : TypeId} {k : IntKind} {v : Value} {d : DataW H} {p : List MemPlace} (ht : P.underlying t = some (.array n e)) (he : P.underlying e = some (.int k)) (hc : P.cellsOf e = 1) (hn : P.cellsOf t = n)
    (hv : Value.okWide P w r b0 t v) (h : DataW.Trod enc P w base spare held t v d p) : ∃ l : List Int, v = .agg (l.map (Value.int k)).toArray ∧ l.length = n ∧ ∀ i, i < n → (Lit.int k (l.getD i 0)).wf = true := by
  obtain ⟨cs, rfl⟩ := okWide_agg_arr ht hv
  obtain ⟨fuel, hf⟩ := h
  obtain ⟨l, hl, hn, hw⟩ := trod_arr ht he hc hn hf
  refine ⟨l, ?_, hn, hw⟩
  simp only [Value.cells] at hl
  rw [← hl]
/-- A struct of two numbers. -/
theorem open_ints2 {r : Reach} {b0 : Nat} {f0 f1 : Field} {v : Value} {d : DataW H} {p : List MemPlace} (hs : P.underlying t = some (.struct #[f0, f1])) (hone : Deep.oneCellFields P #[f0, f1] = true) (hC : P.cellsOf t = 2)
    (he : P.underlying f0.type = some (.int .i64)) (hv : Value.okWide P w r b0 t v) (h : DataW.Trod enc P w base spare held t v d p) (he1 : f1.type = f0.type) : ∃ a b : Int, v = .agg #[.int .i64 a, .int .i64 b] ∧ I64 a ∧ I64 b := by
  obtain ⟨v0, v1, y0, y1, n, rfl, _, _, h0, h1⟩ := Joins.open_agg2 hs hone hC hv h
  obtain ⟨a, ha, _, wa⟩ := DataW.trod_int he h0
  obtain ⟨b, hb, _, wb⟩ := DataW.trod_int (by rw [he1]; exact he) h1
  simp at ha hb
  subst ha hb
  exact ⟨a, b, rfl, i64_of_wf wa, i64_of_wf wb⟩
end

/-! ### From a walk to the row -/
theorem Below.trodAll {H : Type} {enc : TypeId × Value → H} {P : Program} (hl : laidOutB P = true) {W W' : World} (hb : Kp W W') :
    ∀ (ts : List TypeId) (vs : List Value) (ds : List (DataW H)) (ps : List MemPlace), (∀ t ∈ ts, P.readableRec t = true ∧ t < P.types.size) → (∀ x ∈ ps, x.block < W.heap.size) →
      DataW.TrodAll enc P W 0 (fun _ => true) true ts vs ds ps → DataW.TrodAll enc P W' 0 (fun b => decide (b < W.heap.size)) true ts vs ds ps
  | [], vs, ds, ps, _, _, h => by
    obtain ⟨rfl, rfl, rfl⟩ := trodAll_nil h
    rfl
  | t :: ts, vs, ds, ps, hr, hlt, h => by
    obtain ⟨v, vs', d, ds', p, q, rfl, rfl, rfl, h1, h2⟩ := trodAll_cons h
    refine ⟨p, q, ?_, ?_, rfl⟩
    · exact Below.trod hl (hr t (by simp)).1 (hr t (by simp)).2 h1 hb (fun x hx => hlt x (by simp [hx]))
    · exact Below.trodAll hl hb ts vs' ds' q (fun t ht => hr t (by simp [ht])) (fun x hx => hlt x (by simp [hx])) h2
theorem trodAll_lt {H : Type} {enc : TypeId × Value → H} {P : Program} {w : World} {base : Nat} {spare : Nat → Bool} {held : Bool} :
    ∀ (ts : List TypeId) (vs : List Value) (ds : List (DataW H)) (ps : List MemPlace), DataW.TrodAll enc P w base spare held ts vs ds ps → ∀ x ∈ ps, x.block < w.heap.size
  | [], vs, ds, ps, h => by
    obtain ⟨rfl, rfl, rfl⟩ := trodAll_nil h
    simp
  | t :: ts, vs, ds, ps, h => by
    obtain ⟨v, vs', d, ds', p, q, rfl, rfl, rfl, ⟨m, h1⟩, h2⟩ := trodAll_cons h
    intro x hx
    rcases List.mem_append.1 hx with hx | hx
    · exact DataW.trod_lt m _ _ _ h1 x hx
    · exact trodAll_lt ts vs' ds' q h2 x hx
theorem trodAll_len {H : Type} {enc : TypeId × Value → H} {P : Program} {w : World} {base : Nat} {spare : Nat → Bool} {held : Bool} :
    ∀ (ts : List TypeId) (vs : List Value) (ds : List (DataW H)) (ps : List MemPlace), DataW.TrodAll enc P w base spare held ts vs ds ps → ds.length = ts.length
  | [], vs, ds, ps, h => by
    obtain ⟨rfl, rfl, rfl⟩ := trodAll_nil h
    rfl
  | t :: ts, vs, ds, ps, h => by
    obtain ⟨v, vs', d, ds', p, q, rfl, rfl, rfl, h1, h2⟩ := trodAll_cons h
    simp [trodAll_len ts vs' ds' q h2]

/-- What is known of a law's arguments when it is called. -/
structure Given {H : Type} (enc : TypeId × Value → H) (P : Program) (fn : Func) (W : World) (base : Nat) (args : Array Value) (ds : List (DataW H)) (ps : List MemPlace) : Prop where
  ok : ∀ (j : Nat) t v, fn.params[j]? = some t → args[j]? = some v → Value.okWide P W .any base t v
  trod : DataW.TrodAll enc P W 0 (fun _ => true) true fn.params.toList args.toList ds ps
  sized : (DataW.weightsEach P fn.params.toList ds).all (· ≤ reachBytes) = true


theorem law_lifts {C : Checked} {f : FuncId} {fn : Func} {s : ChangeSpec} {tb : TypeId} (own : ownKnob C.prog.godebug = none) (noInit : C.prog.inits.idxOf? f = none)
    (hfn : C.prog.funcs[f]? = some fn) (laid : laidOutB C.prog = true) (hres : fn.resultTypes = #[tb]) (hb : C.prog.underlying tb = some .bool) (hvars : s.vars = [])
    (hread : ∀ t ∈ fn.params.toList, C.prog.readableRec t = true ∧ t < C.prog.types.size)
    (hs : ∀ (H : Type) (ds : List (DataW H)), ds.length = fn.params.toList.length → s.fn H ds = { results := [.lit (.bool true)], args := ds })
    (os : Os) (started : os.Started) (H : Type) (enc : TypeId × Value → H)
    (witness : ∃ (w : World) (tape : Tape) (i : Input), w.os = os ∧ (w.forCall tape i).Shaped C.prog ∧ i.vars = [] ∧ Input.okWide C.prog (w.forCall tape i) .any w.heap.size f i ∧
      s.pre6 enc C.prog fn [] false (w.forCall tape i).memory i.args ∧ Assume.holds {} C.prog (lone (Frame.enter C.prog f i.args .normal) [] (w.forCall tape i)))
    (walk : ∀ (W : World) (base : Nat) (args : Array Value) (ds : List (DataW H)) (ps : List MemPlace), Given enc C.prog fn W base args ds ps → Calls C.prog f args W (Yes W)) :
    ReturnsInHanded {} C os f .any (s.pre6 enc C.prog fn [] false) (s.post enc C.prog fn false true false false) := by
  refine returnsInHanded_of_change_sized own started noInit hfn witness ?_
  intro W base args ds gs before hval hW _ hsz _
  have hW' := hW
  obtain ⟨p, q, hA, hV, rfl, hfz, hnd⟩ := hW
  rw [hvars] at hV
  obtain ⟨rfl, rfl⟩ : gs = [] ∧ q = [] := by
    cases gs with
    | nil => exact ⟨rfl, hV⟩
    | cons g gs => exact hV.elim
  have hsz' : (DataW.weightsEach C.prog fn.params.toList ds).all (· ≤ reachBytes) = true := by
    have e : s.plain.varTypes C.prog = [] := by unfold DataSpec.varTypes; simp [ChangeSpec.plain, hvars]
    rw [e] at hsz
    simpa using hsz
  have lt := trodAll_lt _ _ _ _ hA
  refine (walk W base args ds p ⟨hval, hA, hsz'⟩).mono fun e W' ⟨he, hk⟩ => ?_
  subst he
  have hd := trodAll_len _ _ _ _ hA
  refine ⟨_, rfl, ds, [], p ++ [], [] ++ [], p, [], hW', ?_, ?_, ?_, Below.frame hk _, fun h => by cases h⟩
  · rw [List.append_nil, hs H ds hd, hres]
    exact ⟨[], [], shut_bool hb true, rfl, rfl⟩
  · rw [List.append_nil, hs H ds hd]
    exact Below.trodAll laid hk _ _ _ _ hread lt hA
  · rw [List.append_nil, hs H ds hd, hvars]
    rfl
end Go.Proofs.Ytkcpgdkchglhhaa
