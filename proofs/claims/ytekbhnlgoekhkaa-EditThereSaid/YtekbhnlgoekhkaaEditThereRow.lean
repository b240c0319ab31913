/- 'EditThere' returns true for every input, and the input reads as it did. No condition. -/
import Derived.Test.YtekbhnlgoekhkaaRows
import Derived.Test.YtekbhnlgoekhkaaLaw11f
import Derived.Test.YtekbhnlgoekhkaaSepG
import Derived.Test.YtekbhnlgoekhkaaArgCt
namespace Go.Proofs.Ytekbhnlgoekhkaa.editThere
open Go.ChangeShapes Go.WideShapes Go.ChangeAt Go.RowKit Go.Proofs.Ytekbhnlgoekhkaa
set_option linter.unusedVariables false
set_option linter.unusedSimpArgs false
set_option maxRecDepth 20000 in
theorem calls (H : Type) (enc : TypeId × Value → H) (W : World) (base : Nat) (args : Array Value) (ds : List (DataW H)) (ps : List MemPlace) (g : Given enc Try.prog Try.f5 W base args ds ps) : Calls Try.prog 5 args W (Yes W) := by
  have hA : DataW.TrodAll enc Try.prog W 0 (fun _ => true) true Try.f5.params.toList args.toList ds ps := g.trod
  have hval : ∀ (j : Nat) t v, Try.f5.params[j]? = some t → args[j]? = some v → Value.okWide Try.prog W .any base t v := g.ok
  have hsz : (DataW.weightsEach Try.prog Try.f5.params.toList ds).all (· ≤ reachBytes) = true := g.sized
  rw [Try.params5] at hA hval hsz
  obtain ⟨v0, vs0, d0, ds0, p0, q0, hargs, rfl, rfl, h0, r0⟩ := trodAll_cons hA
  obtain ⟨v1, vs1, d1, ds1, p1, q1, rfl, rfl, rfl, h1, r1⟩ := trodAll_cons r0
  obtain ⟨v2, vs2, d2, ds2, p2, q2, rfl, rfl, rfl, h2, r2⟩ := trodAll_cons r1
  obtain ⟨rfl, rfl, rfl⟩ := trodAll_nil r2
  obtain rfl : args = #[v0, v1, v2] := by cases args; simp_all
  obtain ⟨z0, y0⟩ := sized_two hsz
  obtain ⟨z1, y1⟩ := sized_two y0
  obtain ⟨z2, y2⟩ := sized_two y1
  have k0 := arg_ok (hval 0 26 v0 rfl rfl) h0 z0
  obtain ⟨d0, e0, w0, x0, y0, z0⟩ := okT_edit k0
  have a0 := arg_agg (by kernel_rfl) (hval 0 26 v0 rfl rfl)
  rw [e0] at a0
  subst a0
  have k1 := arg_ok (hval 1 37 v1 rfl rfl) h1 z1
  obtain ⟨n1, m1, e1⟩ := okT_2bool (e := 4) (by kernel_rfl) (by kernel_rfl) (by kernel_rfl) (by kernel_rfl) k1
  have a1 := arg_agg (by kernel_rfl) (hval 1 37 v1 rfl rfl)
  rw [e1] at a1
  subst a1
  have k2 := arg_ok (hval 2 38 v2 rfl rfl) h2 z2
  obtain ⟨n2, m2, o2, q2, e2, f2, g2, i2, j2⟩ := okT_4u8 (e := 5) (by kernel_rfl) (by kernel_rfl) (by kernel_rfl) (by kernel_rfl) k2
  have a2 := arg_agg (by kernel_rfl) (hval 2 38 v2 rfl rfl)
  rw [e2] at a2
  subst a2
  exact yes_of_fn (editThere_fn d0 n1 m1 n2 m2 o2 q2 W f2 g2 i2 j2 (by omega) (by omega))
set_option maxRecDepth 100000 in
theorem lifted (os : Os) (started : os.Started) (H : Type) (enc : TypeId × Value → H) :
    ReturnsInHanded {} Try.checked os 5 .any (Rows.editThereSpec.pre6 enc Try.prog Try.f5 Rows.editThereRow.domain false) (Rows.editThereSpec.post enc Try.prog Try.f5 false true false false) :=
  law_lifts (C := Try.checked) (f := 5) (fn := Try.f5) (s := Rows.editThereSpec) (tb := 4) (by kernel_rfl) (by kernel_rfl) Try.func5 (by kernel_rfl) rfl Try.underlying4 rfl
    (hread_ok (by kernel_rfl)) (fun H ds h => by match ds, h with | [_, _, _], _ => rfl) os started H enc
    (ChangeSpec.witness6 (enc := enc) (C := Try.checked) false ⟨#[], #[.agg #[.int .i64 0, .string ⟨#[]⟩, .int .i64 0, .string ⟨#[]⟩], .agg #[.bool false, .bool false], .agg #[.int .u8 0, .int .u8 0, .int .u8 0, .int .u8 0]], []⟩ 8 (by kernel_rfl) (by kernel_rfl) (by kernel_rfl) (by kernel_rfl))
    (fun W base args ds ps g => calls H enc W base args ds ps g)
theorem over : Rows.editThereRow.holds Try.pinned (OpenSpec.ofChange Rows.editThereSpec) :=
  OpenClaim.holds_of_wide 5 Try.f5 rfl rfl rfl rfl rfl rfl rfl ⟨rfl, rfl, rfl, rfl, rfl⟩ rfl rfl rfl rfl rfl (by kernel_rfl) Try.func5 (by kernel_rfl)
    (of_decide_eq_true (by kernel_rfl)) (by unfold Func.isWrapper; first | (rw [if_pos (by decide +kernel)]; kernel_rfl) | (rw [if_neg (by decide +kernel)]; exact ⟨rfl, rfl⟩))
    (fun os started H enc _ => lifted os started H enc)
theorem proved : Rows.EditThereSaid := over
end Go.Proofs.Ytekbhnlgoekhkaa.editThere
