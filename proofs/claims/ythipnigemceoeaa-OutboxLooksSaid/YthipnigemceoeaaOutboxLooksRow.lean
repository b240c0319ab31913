/- 'OutboxLooks' returns true for every input, and the input reads as it did. No condition. -/
import Derived.Test.YthipnigemceoeaaRows
import Derived.Test.YthipnigemceoeaaLaw14c
import Derived.Test.YthipnigemceoeaaSepG
import Derived.Test.YthipnigemceoeaaArgM
namespace Go.Proofs.Ythipnigemceoeaa.outboxLooks
open Go.ChangeShapes Go.WideShapes Go.ChangeAt Go.RowKit Go.Proofs.Ythipnigemceoeaa
set_option linter.unusedVariables false
set_option linter.unusedSimpArgs false
theorem calls (H : Type) (enc : TypeId × Value → H) (W : World) (base : Nat) (args : Array Value) (ds : List (DataW H)) (ps : List MemPlace) (g : Given enc Try.prog Try.f10 W base args ds ps) : Calls Try.prog 10 args W (Yes W) := by
  have hA : DataW.TrodAll enc Try.prog W 0 (fun _ => true) true Try.f10.params.toList args.toList ds ps := g.trod
  have hval : ∀ (j : Nat) t v, Try.f10.params[j]? = some t → args[j]? = some v → Value.okWide Try.prog W .any base t v := g.ok
  have hsz : (DataW.weightsEach Try.prog Try.f10.params.toList ds).all (· ≤ reachBytes) = true := g.sized
  rw [Try.params10] at hA hval hsz
  obtain ⟨v0, vs0, d0, ds0, p0, q0, hargs, rfl, rfl, h0, r0⟩ := trodAll_cons hA
  obtain ⟨rfl, rfl, rfl⟩ := trodAll_nil r0
  obtain rfl : args = #[v0] := by cases args; simp_all
  obtain ⟨z0, y0⟩ := sized_two hsz
  have k0 := arg_ok (hval 0 63 v0 rfl rfl) h0 z0
  obtain ⟨n0, m0, o0, e0⟩ := okT_3u8 (e := 5) (by kernel_rfl) (by kernel_rfl) (by kernel_rfl) (by kernel_rfl) k0
  have a0 := arg_agg (by kernel_rfl) (hval 0 63 v0 rfl rfl)
  rw [e0] at a0
  subst a0
  exact yes_of_fn (outboxLooks_fn n0 m0 o0 W)
set_option maxRecDepth 100000 in
theorem lifted (os : Os) (started : os.Started) (H : Type) (enc : TypeId × Value → H) :
    ReturnsInHanded {} Try.checked os 10 .any (Rows.outboxLooksSpec.pre6 enc Try.prog Try.f10 Rows.outboxLooksRow.domain false) (Rows.outboxLooksSpec.post enc Try.prog Try.f10 false true false false) :=
  law_lifts (C := Try.checked) (f := 10) (fn := Try.f10) (s := Rows.outboxLooksSpec) (tb := 4) (by kernel_rfl) (by kernel_rfl) Try.func10 (by kernel_rfl) rfl Try.underlying4 rfl
    (hread_ok (by kernel_rfl)) (fun H ds h => by match ds, h with | [_], _ => rfl) os started H enc
    (ChangeSpec.witness6 (enc := enc) (C := Try.checked) false ⟨#[], #[.agg #[.int .u8 0, .int .u8 0, .int .u8 0]], []⟩ 8 (by kernel_rfl) (by kernel_rfl) (by kernel_rfl) (by kernel_rfl))
    (fun W base args ds ps g => calls H enc W base args ds ps g)
theorem over : Rows.outboxLooksRow.holds Try.pinned (OpenSpec.ofChange Rows.outboxLooksSpec) :=
  OpenClaim.holds_of_wide 10 Try.f10 rfl rfl rfl rfl rfl rfl rfl ⟨rfl, rfl, rfl, rfl, rfl⟩ rfl rfl rfl rfl rfl (by kernel_rfl) Try.func10 (by kernel_rfl)
    (of_decide_eq_true (by kernel_rfl)) (by unfold Func.isWrapper; first | (rw [if_pos (by decide +kernel)]; kernel_rfl) | (rw [if_neg (by decide +kernel)]; exact ⟨rfl, rfl⟩))
    (fun os started H enc _ => lifted os started H enc)
theorem proved : Rows.OutboxLooksSaid := over
end Go.Proofs.Ythipnigemceoeaa.outboxLooks
