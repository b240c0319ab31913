/- 'ReadyGrows' returns true for every input, and the input reads as it did. No condition. -/
import Derived.Test.YtmjpdibjdgjhgaaRows
import Derived.Test.YtmjpdibjdgjhgaaZkdmbghna
import Derived.Test.YtmjpdibjdgjhgaaZelpbgfkl
namespace Go.Proofs.Ytmjpdibjdgjhgaa.readyGrows
open Go.ChangeShapes Go.WideShapes Go.ChangeAt Go.RowKit Go.Proofs.Ytmjpdibjdgjhgaa
set_option linter.unusedVariables false
set_option linter.unusedSimpArgs false
set_option maxRecDepth 20000 in
theorem calls (H : Type) (enc : TypeId × Value → H) (W : World) (base : Nat) (args : Array Value) (ds : List (DataW H)) (ps : List MemPlace) (g : Given enc Try.prog Try.f11 W base args ds ps) : Calls Try.prog 11 args W (Yes W) := by
  have hA : DataW.TrodAll enc Try.prog W 0 (fun _ => true) true Try.f11.params.toList args.toList ds ps := g.trod
  have hval : ∀ (j : Nat) t v, Try.f11.params[j]? = some t → args[j]? = some v → Value.okWide Try.prog W .any base t v := g.ok
  have hsz : (DataW.weightsEach Try.prog Try.f11.params.toList ds).all (· ≤ reachBytes) = true := g.sized
  rw [Try.params11] at hA hval hsz
  obtain ⟨v0, vs0, d0, ds0, p0, q0, hargs, rfl, rfl, h0, r0⟩ := trodAll_cons hA
  obtain ⟨v1, vs1, d1, ds1, p1, q1, rfl, rfl, rfl, h1, r1⟩ := trodAll_cons r0
  obtain ⟨v2, vs2, d2, ds2, p2, q2, rfl, rfl, rfl, h2, r2⟩ := trodAll_cons r1
  obtain ⟨rfl, rfl, rfl⟩ := trodAll_nil r2
  obtain rfl : args = #[v0, v1, v2] := by cases args; simp_all
  obtain ⟨z0, y0⟩ := sized_two hsz
  obtain ⟨z1, y1⟩ := sized_two y0
  obtain ⟨z2, y2⟩ := sized_two y1
  have k0 := arg_ok (hval 0 35 v0 rfl rfl) h0 z0
  obtain ⟨u0, l0, e0, o0, s0, g0, b0⟩ := okT_chs k0
  obtain rfl := arg_one (by kernel_rfl) (hval 0 35 v0 rfl rfl) e0 o0
  have k1 := arg_ok (hval 1 50 v1 rfl rfl) h1 z1
  obtain ⟨u1, l1, e1, o1, s1, b1⟩ := okT_bytes (e := 5) (by kernel_rfl) (by kernel_rfl) (by kernel_rfl) (by kernel_rfl) k1
  obtain rfl := arg_one (by kernel_rfl) (hval 1 50 v1 rfl rfl) e1 o1
  have k2 := arg_ok (hval 2 50 v2 rfl rfl) h2 z2
  obtain ⟨u2, l2, e2, o2, s2, b2⟩ := okT_bytes (e := 5) (by kernel_rfl) (by kernel_rfl) (by kernel_rfl) (by kernel_rfl) k2
  obtain rfl := arg_one (by kernel_rfl) (hval 2 50 v2 rfl rfl) e2 o2
  exact yes_of_fn (readyGrows_fn v0 v1 v2 l0 l1 l2 W (by omega) (RdT.base 0 rfl s0) g0 (by omega) (RdT.base 0 rfl s1) (by omega) (RdT.base 0 rfl s2))
set_option maxRecDepth 100000 in
theorem lifted (os : Os) (started : os.Started) (H : Type) (enc : TypeId × Value → H) :
    ReturnsInHanded {} Try.checked os 11 .any (Rows.readyGrowsSpec.pre6 enc Try.prog Try.f11 Rows.readyGrowsRow.domain false) (Rows.readyGrowsSpec.post enc Try.prog Try.f11 false true false false) :=
  law_lifts (C := Try.checked) (f := 11) (fn := Try.f11) (s := Rows.readyGrowsSpec) (tb := 4) (by kernel_rfl) (by kernel_rfl) Try.func11 (by kernel_rfl) rfl Try.underlying4 rfl
    (hread_ok (by kernel_rfl)) (fun H ds h => by match ds, h with | [_, _, _], _ => rfl) os started H enc
    (ChangeSpec.witness6 (enc := enc) (C := Try.checked) false ⟨#[], #[.slice none 0 0, .slice none 0 0, .slice none 0 0], []⟩ 8 (by kernel_rfl) (by kernel_rfl) (by kernel_rfl) (by kernel_rfl))
    (fun W base args ds ps g => calls H enc W base args ds ps g)
theorem over : Rows.readyGrowsRow.holds Try.pinned (OpenSpec.ofChange Rows.readyGrowsSpec) :=
  OpenClaim.holds_of_wide 11 Try.f11 rfl rfl rfl rfl rfl rfl rfl ⟨rfl, rfl, rfl, rfl, rfl⟩ rfl rfl rfl rfl rfl (by kernel_rfl) Try.func11 (by kernel_rfl)
    (of_decide_eq_true (by kernel_rfl)) (by unfold Func.isWrapper; first | (rw [if_pos (by decide +kernel)]; kernel_rfl) | (rw [if_neg (by decide +kernel)]; exact ⟨rfl, rfl⟩))
    (fun os started H enc _ => lifted os started H enc)
theorem proved : Rows.ReadyGrowsSaid := over
end Go.Proofs.Ytmjpdibjdgjhgaa.readyGrows
