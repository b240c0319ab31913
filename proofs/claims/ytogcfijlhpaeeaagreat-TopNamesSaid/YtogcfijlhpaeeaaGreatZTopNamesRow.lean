/- 'TopNames' returns true for every input, and the input reads as it did. No condition. -/
import Derived.Test.YtogcfijlhpaeeaaGreatRows
import Derived.Test.YtogcfijlhpaeeaaGreatZbndogacj
import Derived.Test.YtogcfijlhpaeeaaGreatZehjcikgl
import Derived.Test.YtogcfijlhpaeeaaGreatZjebeajik
namespace Go.Proofs.YtogcfijlhpaeeaaGreat.topNames
open Go.ChangeShapes Go.WideShapes Go.ChangeAt Go.RowKit Go.Proofs.YtogcfijlhpaeeaaGreat
set_option linter.unusedVariables false
set_option linter.unusedSimpArgs false
set_option maxRecDepth 20000 in
theorem calls (H : Type) (enc : TypeId × Value → H) (W : World) (base : Nat) (args : Array Value) (ds : List (DataW H)) (ps : List MemPlace) (g : Given enc Tryz.prog Tryz.f9 W base args ds ps) : Calls Tryz.prog 9 args W (Yes W) := by
  have hA : DataW.TrodAll enc Tryz.prog W 0 (fun _ => true) true Tryz.f9.params.toList args.toList ds ps := g.trod
  have hval : ∀ (j : Nat) t v, Tryz.f9.params[j]? = some t → args[j]? = some v → Value.okWide Tryz.prog W .any base t v := g.ok
  have hsz : (DataW.weightsEach Tryz.prog Tryz.f9.params.toList ds).all (· ≤ reachBytes) = true := g.sized
  rw [Tryz.params9] at hA hval hsz
  obtain ⟨v0, vs0, d0, ds0, p0, q0, hargs, rfl, rfl, h0, r0⟩ := trodAll_cons hA
  obtain ⟨v1, vs1, d1, ds1, p1, q1, rfl, rfl, rfl, h1, r1⟩ := trodAll_cons r0
  obtain ⟨rfl, rfl, rfl⟩ := trodAll_nil r1
  obtain rfl : args = #[v0, v1] := by cases args; simp_all
  obtain ⟨z0, y0⟩ := sized_two hsz
  obtain ⟨z1, y1⟩ := sized_two y0
  have k0 := arg_ok (hval 0 26 v0 rfl rfl) h0 z0
  obtain ⟨x0, e0, w0, z0⟩ := okT_edT k0
  have a0 := arg_agg (by kernel_rfl) (hval 0 26 v0 rfl rfl)
  rw [e0] at a0
  subst a0
  have k1 := arg_ok (hval 1 5 v1 rfl rfl) h1 z1
  obtain ⟨n1, e1, w1⟩ := okT_u8i (by kernel_rfl) k1
  obtain rfl := arg_one (by kernel_rfl) (hval 1 5 v1 rfl rfl) e1 rfl
  exact yes_of_fn (topNames_fn x0 n1 W w0 z0 w1)
set_option maxRecDepth 100000 in
theorem lifted (os : Os) (started : os.Started) (H : Type) (enc : TypeId × Value → H) :
    ReturnsInHanded {} Tryz.checked os 9 .any (Rows.topNamesSpec.pre6 enc Tryz.prog Tryz.f9 Rows.topNamesRow.domain false) (Rows.topNamesSpec.post enc Tryz.prog Tryz.f9 false true false false) :=
  law_lifts (C := Tryz.checked) (f := 9) (fn := Tryz.f9) (s := Rows.topNamesSpec) (tb := 4) (by kernel_rfl) (by kernel_rfl) Tryz.func9 (by kernel_rfl) rfl Tryz.underlying4 rfl
    (hread_ok (by kernel_rfl)) (fun H ds h => by match ds, h with | [_, _], _ => rfl) os started H enc
    (ChangeSpec.witness6 (enc := enc) (C := Tryz.checked) false ⟨#[], #[.agg #[.int .i64 0, .string ⟨#[]⟩, .int .i64 0, .string ⟨#[]⟩], .int .u8 0], []⟩ 8 (by kernel_rfl) (by kernel_rfl) (by kernel_rfl) (by kernel_rfl))
    (fun W base args ds ps g => calls H enc W base args ds ps g)
theorem over : Rows.topNamesRow.holds Tryz.pinned (OpenSpec.ofChange Rows.topNamesSpec) :=
  OpenClaim.holds_of_wide 9 Tryz.f9 rfl rfl rfl rfl rfl rfl rfl ⟨rfl, rfl, rfl, rfl, rfl⟩ rfl rfl rfl rfl rfl (by kernel_rfl) Tryz.func9 topNames_jf topNames_in topNames_wr
    (fun os started H enc _ => lifted os started H enc)
theorem proved : Rows.TopNamesSaid := over
end Go.Proofs.YtogcfijlhpaeeaaGreat.topNames
