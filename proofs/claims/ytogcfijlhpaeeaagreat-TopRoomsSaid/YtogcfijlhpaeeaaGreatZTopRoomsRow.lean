/- 'TopRooms' returns true for every input, and the input reads as it did. No condition. -/
import Derived.Test.YtogcfijlhpaeeaaGreatRows
import Derived.Test.YtogcfijlhpaeeaaGreatZbndogacj
import Derived.Test.YtogcfijlhpaeeaaGreatZehjcikgl
import Derived.Test.YtogcfijlhpaeeaaGreatZngidalko
namespace Go.Proofs.YtogcfijlhpaeeaaGreat.topRooms
open Go.ChangeShapes Go.WideShapes Go.ChangeAt Go.RowKit Go.Proofs.YtogcfijlhpaeeaaGreat
set_option linter.unusedVariables false
set_option linter.unusedSimpArgs false
set_option maxRecDepth 20000 in
theorem calls (H : Type) (enc : TypeId × Value → H) (W : World) (base : Nat) (args : Array Value) (ds : List (DataW H)) (ps : List MemPlace) (g : Given enc Tryz.prog Tryz.f4 W base args ds ps) : Calls Tryz.prog 4 args W (Yes W) := by
  have hA : DataW.TrodAll enc Tryz.prog W 0 (fun _ => true) true Tryz.f4.params.toList args.toList ds ps := g.trod
  have hval : ∀ (j : Nat) t v, Tryz.f4.params[j]? = some t → args[j]? = some v → Value.okWide Tryz.prog W .any base t v := g.ok
  have hsz : (DataW.weightsEach Tryz.prog Tryz.f4.params.toList ds).all (· ≤ reachBytes) = true := g.sized
  rw [Tryz.params4] at hA hval hsz
  obtain ⟨v0, vs0, d0, ds0, p0, q0, hargs, rfl, rfl, h0, r0⟩ := trodAll_cons hA
  obtain ⟨v1, vs1, d1, ds1, p1, q1, rfl, rfl, rfl, h1, r1⟩ := trodAll_cons r0
  obtain ⟨rfl, rfl, rfl⟩ := trodAll_nil r1
  obtain rfl : args = #[v0, v1] := by cases args; simp_all
  obtain ⟨z0, y0⟩ := sized_two hsz
  obtain ⟨z1, y1⟩ := sized_two y0
  have k0 := arg_ok (hval 0 23 v0 rfl rfl) h0 z0
  obtain ⟨c0, e0, w0⟩ := okT_cfgT k0
  have a0 := arg_agg (by kernel_rfl) (hval 0 23 v0 rfl rfl)
  rw [e0] at a0
  subst a0
  have k1 := arg_ok (hval 1 24 v1 rfl rfl) h1 z1
  obtain ⟨u1, l1, e1, o1, s1, g1, b1⟩ := okT_stps k1
  obtain rfl := arg_one (by kernel_rfl) (hval 1 24 v1 rfl rfl) e1 o1
  exact yes_of_fn (topRooms_F c0 v1 l1 [Base W] (RdT.base 0 rfl s1) o1 b1 g1)
set_option maxRecDepth 100000 in
theorem lifted (os : Os) (started : os.Started) (H : Type) (enc : TypeId × Value → H) :
    ReturnsInHanded {} Tryz.checked os 4 .any (Rows.topRoomsSpec.pre6 enc Tryz.prog Tryz.f4 Rows.topRoomsRow.domain false) (Rows.topRoomsSpec.post enc Tryz.prog Tryz.f4 false true false false) :=
  law_lifts (C := Tryz.checked) (f := 4) (fn := Tryz.f4) (s := Rows.topRoomsSpec) (tb := 4) (by kernel_rfl) (by kernel_rfl) Tryz.func4 (by kernel_rfl) rfl Tryz.underlying4 rfl
    (hread_ok (by kernel_rfl)) (fun H ds h => by match ds, h with | [_, _], _ => rfl) os started H enc
    (ChangeSpec.witness6 (enc := enc) (C := Tryz.checked) false ⟨#[], #[.agg #[.int .i64 0, .int .i64 0, .int .i64 0, .int .i64 0, .int .i64 0, .int .i64 0], .slice none 0 0], []⟩ 8 (by kernel_rfl) (by kernel_rfl) (by kernel_rfl) (by kernel_rfl))
    (fun W base args ds ps g => calls H enc W base args ds ps g)
theorem over : Rows.topRoomsRow.holds Tryz.pinned (OpenSpec.ofChange Rows.topRoomsSpec) :=
  OpenClaim.holds_of_wide 4 Tryz.f4 rfl rfl rfl rfl rfl rfl rfl ⟨rfl, rfl, rfl, rfl, rfl⟩ rfl rfl rfl rfl rfl (by kernel_rfl) Tryz.func4 topRooms_jf topRooms_in topRooms_wr
    (fun os started H enc _ => lifted os started H enc)
theorem proved : Rows.TopRoomsSaid := over
end Go.Proofs.YtogcfijlhpaeeaaGreat.topRooms
