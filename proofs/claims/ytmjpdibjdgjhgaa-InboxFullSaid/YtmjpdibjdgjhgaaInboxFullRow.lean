/- 'InboxFull' returns true for every input, and the input reads as it did. No condition. -/
import Derived.Test.YtmjpdibjdgjhgaaRows
import Derived.Test.YtmjpdibjdgjhgaaLaw13c
import Derived.Test.YtmjpdibjdgjhgaaSepG
namespace Go.Proofs.Ytmjpdibjdgjhgaa.inboxFull
open Go.ChangeShapes Go.WideShapes Go.ChangeAt Go.RowKit Go.Proofs.Ytmjpdibjdgjhgaa
set_option linter.unusedVariables false
set_option linter.unusedSimpArgs false
set_option maxRecDepth 20000 in
theorem calls (H : Type) (enc : TypeId × Value → H) (W : World) (base : Nat) (args : Array Value) (ds : List (DataW H)) (ps : List MemPlace) (g : Given enc Try.prog Try.f6 W base args ds ps) : Calls Try.prog 6 args W (Yes W) := by
  have hA : DataW.TrodAll enc Try.prog W 0 (fun _ => true) true Try.f6.params.toList args.toList ds ps := g.trod
  have hval : ∀ (j : Nat) t v, Try.f6.params[j]? = some t → args[j]? = some v → Value.okWide Try.prog W .any base t v := g.ok
  have hsz : (DataW.weightsEach Try.prog Try.f6.params.toList ds).all (· ≤ reachBytes) = true := g.sized
  rw [Try.params6] at hA hval hsz
  obtain ⟨v0, vs0, d0, ds0, p0, q0, hargs, rfl, rfl, h0, r0⟩ := trodAll_cons hA
  obtain ⟨rfl, rfl, rfl⟩ := trodAll_nil r0
  obtain rfl : args = #[v0] := by cases args; simp_all
  obtain ⟨z0, y0⟩ := sized_two hsz
  have k0 := arg_ok (hval 0 5 v0 rfl rfl) h0 z0
  obtain ⟨n0, e0, w0⟩ := okT_u8i (by kernel_rfl) k0
  obtain rfl := arg_one (by kernel_rfl) (hval 0 5 v0 rfl rfl) e0 rfl
  exact yes_of_fn (inboxFull_fn n0 W w0)
set_option maxRecDepth 100000 in
theorem lifted (os : Os) (started : os.Started) (H : Type) (enc : TypeId × Value → H) :
    ReturnsInHanded {} Try.checked os 6 .any (Rows.inboxFullSpec.pre6 enc Try.prog Try.f6 Rows.inboxFullRow.domain false) (Rows.inboxFullSpec.post enc Try.prog Try.f6 false true false false) :=
  law_lifts (C := Try.checked) (f := 6) (fn := Try.f6) (s := Rows.inboxFullSpec) (tb := 4) (by kernel_rfl) (by kernel_rfl) Try.func6 (by kernel_rfl) rfl Try.underlying4 rfl
    (hread_ok (by kernel_rfl)) (fun H ds h => by match ds, h with | [_], _ => rfl) os started H enc
    (ChangeSpec.witness6 (enc := enc) (C := Try.checked) false ⟨#[], #[.int .u8 0], []⟩ 8 (by kernel_rfl) (by kernel_rfl) (by kernel_rfl) (by kernel_rfl))
    (fun W base args ds ps g => calls H enc W base args ds ps g)
theorem over : Rows.inboxFullRow.holds Try.pinned (OpenSpec.ofChange Rows.inboxFullSpec) :=
  OpenClaim.holds_of_wide 6 Try.f6 rfl rfl rfl rfl rfl rfl rfl ⟨rfl, rfl, rfl, rfl, rfl⟩ rfl rfl rfl rfl rfl (by kernel_rfl) Try.func6 (by kernel_rfl)
    (of_decide_eq_true (by kernel_rfl)) (by unfold Func.isWrapper; first | (rw [if_pos (by decide +kernel)]; kernel_rfl) | (rw [if_neg (by decide +kernel)]; exact ⟨rfl, rfl⟩))
    (fun os started H enc _ => lifted os started H enc)
theorem proved : Rows.InboxFullSaid := over
end Go.Proofs.Ytmjpdibjdgjhgaa.inboxFull
