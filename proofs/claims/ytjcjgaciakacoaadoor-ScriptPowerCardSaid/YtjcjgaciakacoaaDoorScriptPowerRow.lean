/- 'ScriptPower' returns true for every input, and the input reads as it did. No condition. -/
import Derived.Test.YtjcjgaciakacoaaDoorRows
import Derived.Test.YtjcjgaciakacoaaDoorLaw23c
import Derived.Test.YtjcjgaciakacoaaDoorSepG
import Derived.Test.YtjcjgaciakacoaaDoorTabs
import Derived.Test.YtjcjgaciakacoaaDoorTie
import Derived.Test.YtjcjgaciakacoaaDoorCards
namespace Go.Proofs.YtjcjgaciakacoaaDoor.scriptPower
open Go.ChangeShapes Go.WideShapes Go.ChangeAt Go.RowKit Go.Proofs.YtjcjgaciakacoaaDoor
set_option linter.unusedVariables false
set_option linter.unusedSimpArgs false
theorem calls (H : Type) (enc : TypeId × Value → H) (W : World) (base : Nat) (args : Array Value) (ds : List (DataW H)) (ps : List MemPlace) (g : Given enc Tryd.prog Tryd.f4 W base args ds ps) (hL : laidMetH Tryd.prog laid3 W) : Calls Tryd.prog 4 args W (Yes W) := by
  have hA : DataW.TrodAll enc Tryd.prog W 0 (fun _ => true) true Tryd.f4.params.toList args.toList ds ps := g.trod
  have hval : ∀ (j : Nat) t v, Tryd.f4.params[j]? = some t → args[j]? = some v → Value.okWide Tryd.prog W .any base t v := g.ok
  have hsz : (DataW.weightsEach Tryd.prog Tryd.f4.params.toList ds).all (· ≤ reachBytes) = true := g.sized
  rw [Tryd.params4] at hA hval hsz
  obtain ⟨v0, vs0, d0, ds0, p0, q0, hargs, rfl, rfl, h0, r0⟩ := trodAll_cons hA
  obtain ⟨v1, vs1, d1, ds1, p1, q1, rfl, rfl, rfl, h1, r1⟩ := trodAll_cons r0
  obtain ⟨rfl, rfl, rfl⟩ := trodAll_nil r1
  obtain rfl : args = #[v0, v1] := by cases args; simp_all
  obtain ⟨z0, y0⟩ := sized_two hsz
  obtain ⟨z1, y1⟩ := sized_two y0
  have k0 := arg_ok (hval 0 5 v0 rfl rfl) h0 z0
  obtain ⟨n0, e0, w0⟩ := okT_u8i (by kernel_rfl) k0
  obtain rfl := arg_one (by kernel_rfl) (hval 0 5 v0 rfl rfl) e0 rfl
  have k1 := arg_ok (hval 1 33 v1 rfl rfl) h1 z1
  obtain ⟨l1, e1, w1, x1⟩ := okT_arrayL (α := UInt8) (e := 5) (fun _ => True) (by kernel_rfl) (by kernel_rfl) (by kernel_rfl) (fun ecs h => okT_u8 (by kernel_rfl) h) k1
  have a1 := arg_agg (by kernel_rfl) (hval 1 33 v1 rfl rfl)
  rw [e1] at a1
  subst a1
  have T := tabs_of_laid hL
  exact yes_of_fn (scriptPower_fn n0 l1 W w0 w1 T)
set_option maxRecDepth 100000 in
theorem lifted (os : Os) (started : os.Started) (H : Type) (enc : TypeId × Value → H) :
    ReturnsInHanded {} Tryd.checked os 4 .any (fun w args => (Rows.scriptPowerSpec.pre enc Tryd.prog Tryd.f4 [] false w args ∧ laidMetH Tryd.prog laid3 w) ∧ sizedMet enc Tryd.prog Tryd.f4 (OpenSpec.ofChange Rows.scriptPowerSpec) false w args) (Rows.scriptPowerSpec.post enc Tryd.prog Tryd.f4 false true false false) :=
  law_lifts_laid (C := Tryd.checked) (f := 4) (fn := Tryd.f4) (s := Rows.scriptPowerSpec) (tb := 4) (ld := laid3) (by kernel_rfl) (by kernel_rfl) Tryd.func4 (by kernel_rfl) rfl Tryd.underlying4 rfl
    (hread_ok (by kernel_rfl)) (fun H ds h => by match ds, h with | [_, _], _ => rfl) os started H enc
    (ChangeSpec.witness_shaped (enc := enc) (C := Tryd.checked) (os := os) (X := fun w _ => laidMetH Tryd.prog laid3 w) false (World.doorLaid Tryd.prog 400 os) #[.int .u8 0, .agg #[.int .u8 0, .int .u8 0, .int .u8 0, .int .u8 0, .int .u8 0, .int .u8 0, .int .u8 0, .int .u8 0]] 8 rfl (World.shaped_of_RefB (by kernel_rfl) (by kernel_rfl)) (by kernel_rfl) (by kernel_rfl) (by kernel_rfl) (door_met os _))
    (fun W base args ds ps g hL => calls H enc W base args ds ps g hL)
theorem over : Rows.scriptPowerRow.holds Tryd.pinned (OpenSpec.ofChange Rows.scriptPowerSpec) :=
  OpenClaim.holds_of_wide 4 Tryd.f4 rfl rfl rfl rfl rfl rfl rfl ⟨rfl, rfl, rfl, rfl, rfl⟩ rfl rfl rfl rfl rfl (by kernel_rfl) Tryd.func4 (by kernel_rfl)
    (of_decide_eq_true (by kernel_rfl)) (by unfold Func.isWrapper; first | (rw [if_pos (by decide +kernel)]; kernel_rfl) | (rw [if_neg (by decide +kernel)]; exact ⟨rfl, rfl⟩))
    (fun os started H enc _ => lifted os started H enc)
theorem proved : Rows.ScriptPowerCardSaid :=
  Claim7.holds_tied_plain_at .later [] [.data, .data, .data] true _ false
    over (fun _ h => by cases h) (by kernel_rfl) (fun _ h => by cases h) scriptPower_row_tie rfl ⟨rfl, rfl⟩ (by kernel_rfl) rfl
    (fun f fn hf hfn => by
      obtain rfl : f = 4 := Option.some.inj ((show Tryd.prog.funcNamed "kith/kithlaw23.ScriptPower" = some 4 by kernel_rfl).symm.trans hf) |>.symm
      obtain rfl : fn = Tryd.f4 := (Option.some.inj (Tryd.func4.symm.trans hfn)).symm
      exact ⟨by kernel_rfl, fun j t ht => by
        have ht : Tryd.f4.params[j]? = some t := ht
        rw [Tryd.params4] at ht
        have hm : t ∈ [5, 33] := by simpa using Array.mem_of_getElem? ht
        have hall : ([5, 33].all fun u => !Tryd.prog.wantsStandIn u) = true := by kernel_rfl
        exact (show Tryd.prog.wantsStandIn t = false by simpa using List.all_eq_true.1 hall t hm)⟩)
    (by kernel_rfl)
end Go.Proofs.YtjcjgaciakacoaaDoor.scriptPower
