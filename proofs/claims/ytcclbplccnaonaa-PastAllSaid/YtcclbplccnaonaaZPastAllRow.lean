/- 'PastAll' returns true for every input, and the input reads as it did. No condition. -/
import Derived.Test.YtcclbplccnaonaaRows
import Derived.Test.YtcclbplccnaonaaZeeookogi
import Derived.Test.YtcclbplccnaonaaZkbdnacgf
namespace Go.Proofs.Ytcclbplccnaonaa.pastAll
open Go.ChangeShapes Go.WideShapes Go.ChangeAt Go.RowKit Go.Proofs.Ytcclbplccnaonaa
set_option linter.unusedVariables false
set_option linter.unusedSimpArgs false
set_option maxRecDepth 20000 in
theorem calls (H : Type) (enc : TypeId × Value → H) (W : World) (base : Nat) (args : Array Value) (ds : List (DataW H)) (ps : List MemPlace) (g : Given enc Try.prog Try.f8 W base args ds ps) : Calls Try.prog 8 args W (Yes W) := by
  have hA : DataW.TrodAll enc Try.prog W 0 (fun _ => true) true Try.f8.params.toList args.toList ds ps := g.trod
  have hval : ∀ (j : Nat) t v, Try.f8.params[j]? = some t → args[j]? = some v → Value.okWide Try.prog W .any base t v := g.ok
  have hsz : (DataW.weightsEach Try.prog Try.f8.params.toList ds).all (· ≤ reachBytes) = true := g.sized
  rw [Try.params8] at hA hval hsz
  obtain ⟨v0, vs0, d0, ds0, p0, q0, hargs, rfl, rfl, h0, r0⟩ := trodAll_cons hA
  obtain ⟨v1, vs1, d1, ds1, p1, q1, rfl, rfl, rfl, h1, r1⟩ := trodAll_cons r0
  obtain ⟨rfl, rfl, rfl⟩ := trodAll_nil r1
  obtain rfl : args = #[v0, v1] := by cases args; simp_all
  obtain ⟨z0, y0⟩ := sized_two hsz
  obtain ⟨z1, y1⟩ := sized_two y0
  have k0 := arg_ok (hval 0 25 v0 rfl rfl) h0 z0
  obtain ⟨u0, l0, e0, o0, s0, g0, b0⟩ := okT_evs k0
  obtain rfl := arg_one (by kernel_rfl) (hval 0 25 v0 rfl rfl) e0 o0
  have k1 := arg_ok (hval 1 29 v1 rfl rfl) h1 z1
  obtain ⟨c1, e1, w1⟩ := okT_clk (e := 3) (by kernel_rfl) (by kernel_rfl) (by kernel_rfl) (by kernel_rfl) k1
  have a1 := arg_agg (by kernel_rfl) (hval 1 29 v1 rfl rfl)
  rw [e1] at a1
  subst a1
  exact yes_of_fn (pastAll_fn v0 l0 c1 W (by omega) (RdT.base 0 rfl s0) (fun e he => (g0 e he).h) (fun e he => ⟨by have := (g0 e he).key; omega, by have := (g0 e he).value; omega⟩))
set_option maxRecDepth 100000 in
theorem lifted (os : Os) (started : os.Started) (H : Type) (enc : TypeId × Value → H) :
    ReturnsInHanded {} Try.checked os 8 .any (Rows.pastAllSpec.pre6 enc Try.prog Try.f8 Rows.pastAllRow.domain false) (Rows.pastAllSpec.post enc Try.prog Try.f8 false true false false) :=
  law_lifts (C := Try.checked) (f := 8) (fn := Try.f8) (s := Rows.pastAllSpec) (tb := 4) (by kernel_rfl) (by kernel_rfl) Try.func8 (by kernel_rfl) rfl Try.underlying4 rfl
    (hread_ok (by kernel_rfl)) (fun H ds h => by match ds, h with | [_, _], _ => rfl) os started H enc
    (ChangeSpec.witness6 (enc := enc) (C := Try.checked) false ⟨#[], #[.slice none 0 0, .agg #[.int .i64 0, .int .i64 0, .int .i64 0, .int .i64 0, .int .i64 0]], []⟩ 8 (by kernel_rfl) (by kernel_rfl) (by kernel_rfl) (by kernel_rfl))
    (fun W base args ds ps g => calls H enc W base args ds ps g)
theorem over : Rows.pastAllRow.holds Try.pinned (OpenSpec.ofChange Rows.pastAllSpec) :=
  OpenClaim.holds_of_wide 8 Try.f8 rfl rfl rfl rfl rfl rfl rfl ⟨rfl, rfl, rfl, rfl, rfl⟩ rfl rfl rfl rfl rfl (by kernel_rfl) Try.func8 (by kernel_rfl)
    (of_decide_eq_true (by kernel_rfl)) (by unfold Func.isWrapper; first | (rw [if_pos (by decide +kernel)]; kernel_rfl) | (rw [if_neg (by decide +kernel)]; exact ⟨rfl, rfl⟩))
    (fun os started H enc _ => lifted os started H enc)
theorem proved : Rows.PastAllSaid := over
end Go.Proofs.Ytcclbplccnaonaa.pastAll
