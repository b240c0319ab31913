/- 'TopCuts' returns true for every input, and the input reads as it did. No condition. -/
import Derived.Test.YtogcfijlhpaeeaaGreatRows
import Derived.Test.YtogcfijlhpaeeaaGreatYpab
import Derived.Test.YtogcfijlhpaeeaaGreatYpaw
import Derived.Test.YtogcfijlhpaeeaaGreatYpbm
namespace Go.Proofs.YtogcfijlhpaeeaaGreat.topCuts
open Go.ChangeShapes Go.WideShapes Go.ChangeAt Go.RowKit Go.Proofs.YtogcfijlhpaeeaaGreat
set_option linter.unusedVariables false
set_option linter.unusedSimpArgs false
set_option maxRecDepth 20000 in
theorem calls (H : Type) (enc : TypeId × Value → H) (W : World) (base : Nat) (args : Array Value) (ds : List (DataW H)) (ps : List MemPlace) (g : DH enc Tryz.prog Tryz.f5 W base args ds ps) : Calls Tryz.prog 5 args W (zq W) := by
  have hA : DataW.TrodAll enc Tryz.prog W 0 (fun _ => true) true Tryz.f5.params.toList args.toList ds ps := g.trod
  have hval : ∀ (j : Nat) t v, Tryz.f5.params[j]? = some t → args[j]? = some v → Value.okWide Tryz.prog W .any base t v := g.ok
  have hsz : (DataW.weightsEach Tryz.prog Tryz.f5.params.toList ds).all (· ≤ reachBytes) = true := g.sized
  rw [Tryz.params5] at hA hval hsz
  obtain ⟨v0, vs0, d0, ds0, p0, q0, hargs, rfl, rfl, h0, r0⟩ := trodAll_cons hA
  obtain ⟨v1, vs1, d1, ds1, p1, q1, rfl, rfl, rfl, h1, r1⟩ := trodAll_cons r0
  obtain ⟨v2, vs2, d2, ds2, p2, q2, rfl, rfl, rfl, h2, r2⟩ := trodAll_cons r1
  obtain ⟨rfl, rfl, rfl⟩ := trodAll_nil r2
  obtain rfl : args = #[v0, v1, v2] := by cases args; simp_all
  obtain ⟨z0, y0⟩ := uY hsz
  obtain ⟨z1, y1⟩ := uY y0
  obtain ⟨z2, y2⟩ := uY y1
  have k0 := wm (hval 0 23 v0 rfl rfl) h0 z0
  obtain ⟨c0, e0, w0⟩ := NG k0
  have a0 := zA (by kernel_rfl) (hval 0 23 v0 rfl rfl)
  rw [e0] at a0
  subst a0
  have k1 := wm (hval 1 24 v1 rfl rfl) h1 z1
  obtain ⟨u1, l1, e1, o1, s1, g1, b1⟩ := IS k1
  obtain rfl := Ly (by kernel_rfl) (hval 1 24 v1 rfl rfl) e1 o1
  have k2 := wm (hval 2 29 v2 rfl rfl) h2 z2
  obtain ⟨x2, e2, w2⟩ := Er k2
  have a2 := zA (by kernel_rfl) (hval 2 29 v2 rfl rfl)
  rw [e2] at a2
  subst a2
  exact IB (Tn c0 v1 l1 x2 W (aI.base 0 rfl s1) o1 b1 g1 w2)
set_option maxRecDepth 100000 in
theorem lifted (os : Os) (started : os.Started) (H : Type) (enc : TypeId × Value → H) :
    ReturnsInHanded {} Tryz.checked os 5 .any (Rows.topCutsSpec.pre6 enc Tryz.prog Tryz.f5 Rows.topCutsRow.domain false) (Rows.topCutsSpec.post enc Tryz.prog Tryz.f5 false true false false) :=
  Lh (C := Tryz.checked) (f := 5) (fn := Tryz.f5) (s := Rows.topCutsSpec) (tb := 4) (by kernel_rfl) (by kernel_rfl) Tryz.func5 (by kernel_rfl) rfl Tryz.underlying4 rfl
    (HS (by kernel_rfl)) (fun H ds h => by match ds, h with | [_, _, _], _ => rfl) os started H enc
    (ChangeSpec.witness6 (enc := enc) (C := Tryz.checked) false ⟨#[], #[.agg #[.int .i64 0, .int .i64 0, .int .i64 0, .int .i64 0, .int .i64 0, .int .i64 0], .slice none 0 0, .agg #[.int .i64 0, .int .i64 0, .int .i64 0, .string ⟨#[]⟩, .int .i64 0, .string ⟨#[]⟩, .int .i64 0, .int .i64 0, .int .u32 0, .int .i64 0]], []⟩ 8 (by kernel_rfl) (by kernel_rfl) (by kernel_rfl) (by kernel_rfl))
    (fun W base args ds ps g => calls H enc W base args ds ps g)
theorem oj : Rows.topCutsRow.holds Tryz.pinned (OpenSpec.ofChange Rows.topCutsSpec) :=
  OpenClaim.holds_of_wide 5 Tryz.f5 rfl rfl rfl rfl rfl rfl rfl ⟨rfl, rfl, rfl, rfl, rfl⟩ rfl rfl rfl rfl rfl (by kernel_rfl) Tryz.func5 ZZ Qs TE
    (fun os started H enc _ => lifted os started H enc)
theorem proved : Rows.TopCutsSaid := oj
end Go.Proofs.YtogcfijlhpaeeaaGreat.topCuts
