/- 'OutboxSends' returns true for every input, and the input reads as it did. No condition. -/
import Derived.Test.YthipnigemceoeaaRows
import Derived.Test.YthipnigemceoeaaLaw14d
import Derived.Test.YthipnigemceoeaaSepG
import Derived.Test.YthipnigemceoeaaArgM
namespace Go.Proofs.Ythipnigemceoeaa.outboxSends
open Go.ChangeShapes Go.WideShapes Go.ChangeAt Go.RowKit Go.Proofs.Ythipnigemceoeaa
set_option linter.unusedVariables false
set_option linter.unusedSimpArgs false
theorem calls (H : Type) (enc : TypeId × Value → H) (W : World) (base : Nat) (args : Array Value) (ds : List (DataW H)) (ps : List MemPlace) (g : Given enc Try.prog Try.f8 W base args ds ps) : Calls Try.prog 8 args W (Yes W) := by
  have hA : DataW.TrodAll enc Try.prog W 0 (fun _ => true) true Try.f8.params.toList args.toList ds ps := g.trod
  have hval : ∀ (j : Nat) t v, Try.f8.params[j]? = some t → args[j]? = some v → Value.okWide Try.prog W .any base t v := g.ok
  have hsz : (DataW.weightsEach Try.prog Try.f8.params.toList ds).all (· ≤ reachBytes) = true := g.sized
  rw [Try.params8] at hA hval hsz
  obtain ⟨v0, vs0, d0, ds0, p0, q0, hargs, rfl, rfl, h0, r0⟩ := trodAll_cons hA
  obtain ⟨v1, vs1, d1, ds1, p1, q1, rfl, rfl, rfl, h1, r1⟩ := trodAll_cons r0
  obtain ⟨rfl, rfl, rfl⟩ := trodAll_nil r1
  obtain rfl : args = #[v0, v1] := by cases args; simp_all
  obtain ⟨z0, y0⟩ := sized_two hsz
  obtain ⟨z1, y1⟩ := sized_two y0
  have k0 := arg_ok (hval 0 63 v0 rfl rfl) h0 z0
  obtain ⟨n0, m0, o0, e0⟩ := okT_3u8 (e := 5) (by kernel_rfl) (by kernel_rfl) (by kernel_rfl) (by kernel_rfl) k0
  have a0 := arg_agg (by kernel_rfl) (hval 0 63 v0 rfl rfl)
  rw [e0] at a0
  subst a0
  have k1 := arg_ok (hval 1 64 v1 rfl rfl) h1 z1
  obtain ⟨u1, l1, e1, o1, s1, b1⟩ := okT_bools (e := 4) (by kernel_rfl) (by kernel_rfl) (by kernel_rfl) (by kernel_rfl) k1
  obtain rfl := arg_one (by kernel_rfl) (hval 1 64 v1 rfl rfl) e1 o1
  exact yes_of_fn (outboxSends_fn n0 m0 o0 v1 l1 W b1 (RdT.base 0 rfl s1))
set_option maxRecDepth 100000 in
theorem lifted (os : Os) (started : os.Started) (H : Type) (enc : TypeId × Value → H) :
    ReturnsInHanded {} Try.checked os 8 .any (Rows.outboxSendsSpec.pre6 enc Try.prog Try.f8 Rows.outboxSendsRow.domain false) (Rows.outboxSendsSpec.post enc Try.prog Try.f8 false true false false) :=
  law_lifts (C := Try.checked) (f := 8) (fn := Try.f8) (s := Rows.outboxSendsSpec) (tb := 4) (by kernel_rfl) (by kernel_rfl) Try.func8 (by kernel_rfl) rfl Try.underlying4 rfl
    (hread_ok (by kernel_rfl)) (fun H ds h => by match ds, h with | [_, _], _ => rfl) os started H enc
    (ChangeSpec.witness6 (enc := enc) (C := Try.checked) false ⟨#[], #[.agg #[.int .u8 0, .int .u8 0, .int .u8 0], .slice none 0 0], []⟩ 8 (by kernel_rfl) (by kernel_rfl) (by kernel_rfl) (by kernel_rfl))
    (fun W base args ds ps g => calls H enc W base args ds ps g)
theorem over : Rows.outboxSendsRow.holds Try.pinned (OpenSpec.ofChange Rows.outboxSendsSpec) :=
  OpenClaim.holds_of_wide 8 Try.f8 rfl rfl rfl rfl rfl rfl rfl ⟨rfl, rfl, rfl, rfl, rfl⟩ rfl rfl rfl rfl rfl (by kernel_rfl) Try.func8 (by kernel_rfl)
    (of_decide_eq_true (by kernel_rfl)) (by unfold Func.isWrapper; first | (rw [if_pos (by decide +kernel)]; kernel_rfl) | (rw [if_neg (by decide +kernel)]; exact ⟨rfl, rfl⟩))
    (fun os started H enc _ => lifted os started H enc)
theorem proved : Rows.OutboxSendsSaid := over
end Go.Proofs.Ythipnigemceoeaa.outboxSends
