/- 'PostPlays' returns true for every input, and the input reads as it did. No condition. -/
import Derived.Test.YtkcpgdkchglhhaaRows
import Derived.Test.YtkcpgdkchglhhaaZdjeefhoc
import Derived.Test.YtkcpgdkchglhhaaZldjckhlk
import Derived.Test.YtkcpgdkchglhhaaZiogffgfe
namespace Go.Proofs.Ytkcpgdkchglhhaa.postPlays
open Go.ChangeShapes Go.WideShapes Go.ChangeAt Go.RowKit Go.Proofs.Ytkcpgdkchglhhaa
set_option linter.unusedVariables false
set_option linter.unusedSimpArgs false
set_option maxRecDepth 20000 in
theorem calls (H : Type) (enc : TypeId × Value → H) (W : World) (base : Nat) (args : Array Value) (ds : List (DataW H)) (ps : List MemPlace) (g : Given enc Try.prog Try.f3 W base args ds ps) : Calls Try.prog 3 args W (Yes W) := by
  have hA : DataW.TrodAll enc Try.prog W 0 (fun _ => true) true Try.f3.params.toList args.toList ds ps := g.trod
  have hval : ∀ (j : Nat) t v, Try.f3.params[j]? = some t → args[j]? = some v → Value.okWide Try.prog W .any base t v := g.ok
  have hsz : (DataW.weightsEach Try.prog Try.f3.params.toList ds).all (· ≤ reachBytes) = true := g.sized
  rw [Try.params3] at hA hval hsz
  obtain ⟨v0, vs0, d0, ds0, p0, q0, hargs, rfl, rfl, h0, r0⟩ := trodAll_cons hA
  obtain ⟨v1, vs1, d1, ds1, p1, q1, rfl, rfl, rfl, h1, r1⟩ := trodAll_cons r0
  obtain ⟨rfl, rfl, rfl⟩ := trodAll_nil r1
  obtain rfl : args = #[v0, v1] := by cases args; simp_all
  obtain ⟨z0, y0⟩ := sized_two hsz
  obtain ⟨z1, y1⟩ := sized_two y0
  have k0 := arg_ok (hval 0 23 v0 rfl rfl) h0 z0
  obtain ⟨c0, e0, w0⟩ := okT_cfg k0
  have a0 := arg_agg (by kernel_rfl) (hval 0 23 v0 rfl rfl)
  rw [e0] at a0
  subst a0
  have k1 := arg_ok (hval 1 24 v1 rfl rfl) h1 z1
  obtain ⟨u1, l1, e1, o1, s1, g1, b1⟩ := okT_ops16 k1
  obtain rfl := arg_one (by kernel_rfl) (hval 1 24 v1 rfl rfl) e1 o1
  exact yes_of_fn (postPlays_fn c0 v1 l1 W (RdT.base 0 rfl s1) g1)
set_option maxRecDepth 100000 in
theorem lifted (os : Os) (started : os.Started) (H : Type) (enc : TypeId × Value → H) :
    ReturnsInHanded {} Try.checked os 3 .any (Rows.postPlaysSpec.pre6 enc Try.prog Try.f3 Rows.postPlaysRow.domain false) (Rows.postPlaysSpec.post enc Try.prog Try.f3 false true false false) :=
  law_lifts (C := Try.checked) (f := 3) (fn := Try.f3) (s := Rows.postPlaysSpec) (tb := 4) (by kernel_rfl) (by kernel_rfl) Try.func3 (by kernel_rfl) rfl Try.underlying4 rfl
    (hread_ok (by kernel_rfl)) (fun H ds h => by match ds, h with | [_, _], _ => rfl) os started H enc
    (ChangeSpec.witness6 (enc := enc) (C := Try.checked) false ⟨#[], #[.agg #[.int .i64 0, .int .i64 0, .int .i64 0, .int .i64 0, .int .i64 0, .int .i64 0], .slice none 0 0], []⟩ 8 (by kernel_rfl) (by kernel_rfl) (by kernel_rfl) (by kernel_rfl))
    (fun W base args ds ps g => calls H enc W base args ds ps g)
theorem over : Rows.postPlaysRow.holds Try.pinned (OpenSpec.ofChange Rows.postPlaysSpec) :=
  OpenClaim.holds_of_wide 3 Try.f3 rfl rfl rfl rfl rfl rfl rfl ⟨rfl, rfl, rfl, rfl, rfl⟩ rfl rfl rfl rfl rfl (by kernel_rfl) Try.func3 (by kernel_rfl)
    (of_decide_eq_true (by kernel_rfl)) (by unfold Func.isWrapper; first | (rw [if_pos (by decide +kernel)]; kernel_rfl) | (rw [if_neg (by decide +kernel)]; exact ⟨rfl, rfl⟩))
    (fun os started H enc _ => lifted os started H enc)
theorem proved : Rows.PostPlaysSaid := over
end Go.Proofs.Ytkcpgdkchglhhaa.postPlays
