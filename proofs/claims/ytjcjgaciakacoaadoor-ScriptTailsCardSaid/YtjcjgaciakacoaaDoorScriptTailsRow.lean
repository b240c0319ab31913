/- 'ScriptTails' returns true for every input, and the input reads as it did. No condition. -/
import Derived.Test.YtjcjgaciakacoaaDoorRows
import Derived.Test.YtjcjgaciakacoaaDoorLaw23b
import Derived.Test.YtjcjgaciakacoaaDoorSepG
import Derived.Test.YtjcjgaciakacoaaDoorTabs
import Derived.Test.YtjcjgaciakacoaaDoorTie
import Derived.Test.YtjcjgaciakacoaaDoorCards
namespace Go.Proofs.YtjcjgaciakacoaaDoor.scriptTails
open Go.ChangeShapes Go.WideShapes Go.ChangeAt Go.RowKit Go.Proofs.YtjcjgaciakacoaaDoor
set_option linter.unusedVariables false
set_option linter.unusedSimpArgs false
theorem calls (H : Type) (enc : TypeId × Value → H) (W : World) (base : Nat) (args : Array Value) (ds : List (DataW H)) (ps : List MemPlace) (g : Given enc Tryd.prog Tryd.f5 W base args ds ps) (hL : laidMetH Tryd.prog laid3 W) : Calls Tryd.prog 5 args W (Yes W) := by
  have hA : DataW.TrodAll enc Tryd.prog W 0 (fun _ => true) true Tryd.f5.params.toList args.toList ds ps := g.trod
  have hval : ∀ (j : Nat) t v, Tryd.f5.params[j]? = some t → args[j]? = some v → Value.okWide Tryd.prog W .any base t v := g.ok
  have hsz : (DataW.weightsEach Tryd.prog Tryd.f5.params.toList ds).all (· ≤ reachBytes) = true := g.sized
  rw [Tryd.params5] at hA hval hsz
  obtain ⟨v0, vs0, d0, ds0, p0, q0, hargs, rfl, rfl, h0, r0⟩ := trodAll_cons hA
  obtain ⟨v1, vs1, d1, ds1, p1, q1, rfl, rfl, rfl, h1, r1⟩ := trodAll_cons r0
  obtain ⟨v2, vs2, d2, ds2, p2, q2, rfl, rfl, rfl, h2, r2⟩ := trodAll_cons r1
  obtain ⟨rfl, rfl, rfl⟩ := trodAll_nil r2
  obtain rfl : args = #[v0, v1, v2] := by cases args; simp_all
  obtain ⟨z0, y0⟩ := sized_two hsz
  obtain ⟨z1, y1⟩ := sized_two y0
  obtain ⟨z2, y2⟩ := sized_two y1
  have k0 := arg_ok (hval 0 22 v0 rfl rfl) h0 z0
  obtain ⟨u0, l0, e0, o0, s0, b0⟩ := okT_bytes (e := 5) (by kernel_rfl) (by kernel_rfl) (by kernel_rfl) (by kernel_rfl) k0
  obtain rfl := arg_one (by kernel_rfl) (hval 0 22 v0 rfl rfl) e0 o0
  have k1 := arg_ok (hval 1 5 v1 rfl rfl) h1 z1
  obtain ⟨n1, e1, w1⟩ := okT_u8i (by kernel_rfl) k1
  obtain rfl := arg_one (by kernel_rfl) (hval 1 5 v1 rfl rfl) e1 rfl
  have k2 := arg_ok (hval 2 3 v2 rfl rfl) h2 z2
  obtain ⟨n2, e2, w2⟩ := okT_i64 (by kernel_rfl) k2
  obtain rfl := arg_one (by kernel_rfl) (hval 2 3 v2 rfl rfl) e2 rfl
  have T := tabs_of_laid hL
  exact yes_of_fn (scriptTails_fn _ l0 n1 n2 W w1 (RdT.base 0 rfl s0) (by omega) T)
set_option maxRecDepth 100000 in
theorem lifted (os : Os) (started : os.Started) (H : Type) (enc : TypeId × Value → H) :
    ReturnsInHanded {} Tryd.checked os 5 .any (fun w args => (Rows.scriptTailsSpec.pre enc Tryd.prog Tryd.f5 [] false w args ∧ laidMetH Tryd.prog laid3 w) ∧ sizedMet enc Tryd.prog Tryd.f5 (OpenSpec.ofChange Rows.scriptTailsSpec) false w args) (Rows.scriptTailsSpec.post enc Tryd.prog Tryd.f5 false true false false) :=
  law_lifts_laid (C := Tryd.checked) (f := 5) (fn := Tryd.f5) (s := Rows.scriptTailsSpec) (tb := 4) (ld := laid3) (by kernel_rfl) (by kernel_rfl) Tryd.func5 (by kernel_rfl) rfl Tryd.underlying4 rfl
    (hread_ok (by kernel_rfl)) (fun H ds h => by match ds, h with | [_, _, _], _ => rfl) os started H enc
    (ChangeSpec.witness_shaped (enc := enc) (C := Tryd.checked) (os := os) (X := fun w _ => laidMetH Tryd.prog laid3 w) false (World.doorLaid Tryd.prog 400 os) #[.slice none 0 0, .int .u8 0, .int .i64 0] 8 rfl (World.shaped_of_RefB (by kernel_rfl) (by kernel_rfl)) (by kernel_rfl) (by kernel_rfl) (by kernel_rfl) (door_met os _))
    (fun W base args ds ps g hL => calls H enc W base args ds ps g hL)
theorem over : Rows.scriptTailsRow.holds Tryd.pinned (OpenSpec.ofChange Rows.scriptTailsSpec) :=
  OpenClaim.holds_of_wide 5 Tryd.f5 rfl rfl rfl rfl rfl rfl rfl ⟨rfl, rfl, rfl, rfl, rfl⟩ rfl rfl rfl rfl rfl (by kernel_rfl) Tryd.func5 (by kernel_rfl)
    (of_decide_eq_true (by kernel_rfl)) (by unfold Func.isWrapper; first | (rw [if_pos (by decide +kernel)]; kernel_rfl) | (rw [if_neg (by decide +kernel)]; exact ⟨rfl, rfl⟩))
    (fun os started H enc _ => lifted os started H enc)
theorem proved : Rows.ScriptTailsCardSaid :=
  Claim7.holds_tied_plain_at .later [] [.data, .data, .data] true _ false
    over (fun _ h => by cases h) (by kernel_rfl) (fun _ h => by cases h) scriptTails_row_tie rfl ⟨rfl, rfl⟩ (by kernel_rfl) rfl
    (fun f fn hf hfn => by
      obtain rfl : f = 5 := Option.some.inj ((show Tryd.prog.funcNamed "kith/kithlaw23.ScriptTails" = some 5 by kernel_rfl).symm.trans hf) |>.symm
      obtain rfl : fn = Tryd.f5 := (Option.some.inj (Tryd.func5.symm.trans hfn)).symm
      exact ⟨by kernel_rfl, fun j t ht => by
        have ht : Tryd.f5.params[j]? = some t := ht
        rw [Tryd.params5] at ht
        have hm : t ∈ [22, 5, 3] := by simpa using Array.mem_of_getElem? ht
        have hall : ([22, 5, 3].all fun u => !Tryd.prog.wantsStandIn u) = true := by kernel_rfl
        exact (show Tryd.prog.wantsStandIn t = false by simpa using List.all_eq_true.1 hall t hm)⟩)
    (by kernel_rfl)
end Go.Proofs.YtjcjgaciakacoaaDoor.scriptTails
