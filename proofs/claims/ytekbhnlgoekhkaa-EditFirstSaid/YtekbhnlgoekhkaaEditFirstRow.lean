/- 'EditFirst' returns true for every input, and the input reads as it did. No condition. -/
import Derived.Test.YtekbhnlgoekhkaaRows
import Derived.Test.YtekbhnlgoekhkaaLaw11
import Derived.Test.YtekbhnlgoekhkaaSepG
import Derived.Test.YtekbhnlgoekhkaaArgCt
namespace Go.Proofs.Ytekbhnlgoekhkaa.editFirst
open Go.ChangeShapes Go.WideShapes Go.ChangeAt Go.RowKit Go.Proofs.Ytekbhnlgoekhkaa
set_option linter.unusedVariables false
set_option linter.unusedSimpArgs false
set_option maxRecDepth 20000 in
theorem calls (H : Type) (enc : TypeId × Value → H) (W : World) (base : Nat) (args : Array Value) (ds : List (DataW H)) (ps : List MemPlace) (g : Given enc Try.prog Try.f7 W base args ds ps) : Calls Try.prog 7 args W (Yes W) := by
  have hA : DataW.TrodAll enc Try.prog W 0 (fun _ => true) true Try.f7.params.toList args.toList ds ps := g.trod
  have hval : ∀ (j : Nat) t v, Try.f7.params[j]? = some t → args[j]? = some v → Value.okWide Try.prog W .any base t v := g.ok
  have hsz : (DataW.weightsEach Try.prog Try.f7.params.toList ds).all (· ≤ reachBytes) = true := g.sized
  rw [Try.params7] at hA hval hsz
  obtain ⟨v0, vs0, d0, ds0, p0, q0, hargs, rfl, rfl, h0, r0⟩ := trodAll_cons hA
  obtain ⟨v1, vs1, d1, ds1, p1, q1, rfl, rfl, rfl, h1, r1⟩ := trodAll_cons r0
  obtain ⟨v2, vs2, d2, ds2, p2, q2, rfl, rfl, rfl, h2, r2⟩ := trodAll_cons r1
  obtain ⟨rfl, rfl, rfl⟩ := trodAll_nil r2
  obtain rfl : args = #[v0, v1, v2] := by cases args; simp_all
  obtain ⟨z0, y0⟩ := sized_two hsz
  obtain ⟨z1, y1⟩ := sized_two y0
  obtain ⟨z2, y2⟩ := sized_two y1
  have k0 := arg_ok (hval 0 23 v0 rfl rfl) h0 z0
  obtain ⟨c0, e0, w0⟩ := okT_cfg k0
  have a0 := arg_agg (by kernel_rfl) (hval 0 23 v0 rfl rfl)
  rw [e0] at a0
  subst a0
  have k1 := arg_ok (hval 1 24 v1 rfl rfl) h1 z1
  obtain ⟨u1, l1, e1, o1, s1, g1, b1⟩ := okT_cts k1
  obtain rfl := arg_one (by kernel_rfl) (hval 1 24 v1 rfl rfl) e1 o1
  have k2 := arg_ok (hval 2 26 v2 rfl rfl) h2 z2
  obtain ⟨d2, e2, w2, x2, y2, z2⟩ := okT_edit k2
  have a2 := arg_agg (by kernel_rfl) (hval 2 26 v2 rfl rfl)
  rw [e2] at a2
  subst a2
  exact yes_of_fn (editFirst_fn c0 _ l1 d2 W (RdT.base 0 rfl s1) (by omega) (fun ct h => (g1 ct h).ok) (by omega) (by omega))
set_option maxRecDepth 100000 in
theorem lifted (os : Os) (started : os.Started) (H : Type) (enc : TypeId × Value → H) :
    ReturnsInHanded {} Try.checked os 7 .any (Rows.editFirstSpec.pre6 enc Try.prog Try.f7 Rows.editFirstRow.domain false) (Rows.editFirstSpec.post enc Try.prog Try.f7 false true false false) :=
  law_lifts (C := Try.checked) (f := 7) (fn := Try.f7) (s := Rows.editFirstSpec) (tb := 4) (by kernel_rfl) (by kernel_rfl) Try.func7 (by kernel_rfl) rfl Try.underlying4 rfl
    (hread_ok (by kernel_rfl)) (fun H ds h => by match ds, h with | [_, _, _], _ => rfl) os started H enc
    (ChangeSpec.witness6 (enc := enc) (C := Try.checked) false ⟨#[], #[.agg #[.int .i64 0, .int .i64 0, .int .i64 0, .int .i64 0, .int .i64 0, .int .i64 0], .slice none 0 0, .agg #[.int .i64 0, .string ⟨#[]⟩, .int .i64 0, .string ⟨#[]⟩]], []⟩ 8 (by kernel_rfl) (by kernel_rfl) (by kernel_rfl) (by kernel_rfl))
    (fun W base args ds ps g => calls H enc W base args ds ps g)
theorem over : Rows.editFirstRow.holds Try.pinned (OpenSpec.ofChange Rows.editFirstSpec) :=
  OpenClaim.holds_of_wide 7 Try.f7 rfl rfl rfl rfl rfl rfl rfl ⟨rfl, rfl, rfl, rfl, rfl⟩ rfl rfl rfl rfl rfl (by kernel_rfl) Try.func7 (by kernel_rfl)
    (of_decide_eq_true (by kernel_rfl)) (by unfold Func.isWrapper; first | (rw [if_pos (by decide +kernel)]; kernel_rfl) | (rw [if_neg (by decide +kernel)]; exact ⟨rfl, rfl⟩))
    (fun os started H enc _ => lifted os started H enc)
theorem proved : Rows.EditFirstSaid := over
end Go.Proofs.Ytekbhnlgoekhkaa.editFirst
