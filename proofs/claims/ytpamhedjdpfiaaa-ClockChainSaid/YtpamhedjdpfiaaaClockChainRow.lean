/- 'ClockChain' returns true for every input, and the input reads as it did. No condition. -/
import Derived.Test.YtpamhedjdpfiaaaRows
import Derived.Test.YtpamhedjdpfiaaaLaw3g
import Derived.Test.YtpamhedjdpfiaaaOpen
import Derived.Test.YtpamhedjdpfiaaaArgs
namespace Go.Proofs.Ytpamhedjdpfiaaa.clockChain
open Go.ChangeShapes Go.WideShapes Go.ChangeAt Go.RowKit Go.Proofs.Ytpamhedjdpfiaaa
set_option linter.unusedVariables false
set_option linter.unusedSimpArgs false
theorem calls (H : Type) (enc : TypeId × Value → H) (W : World) (base : Nat) (args : Array Value) (ds : List (DataW H)) (ps : List MemPlace) (g : Given enc Try.prog Try.f10 W base args ds ps) : Calls Try.prog 10 args W (Yes W) := by
  have hA : DataW.TrodAll enc Try.prog W 0 (fun _ => true) true Try.f10.params.toList args.toList ds ps := g.trod
  have hval : ∀ (j : Nat) t v, Try.f10.params[j]? = some t → args[j]? = some v → Value.okWide Try.prog W .any base t v := g.ok
  rw [Try.params10] at hA hval
  obtain ⟨v0, vs0, d0, ds0, p0, q0, hargs, rfl, rfl, h0, r0⟩ := trodAll_cons hA
  obtain ⟨v1, vs1, d1, ds1, p1, q1, rfl, rfl, rfl, h1, r1⟩ := trodAll_cons r0
  obtain ⟨v2, vs2, d2, ds2, p2, q2, rfl, rfl, rfl, h2, r2⟩ := trodAll_cons r1
  obtain ⟨rfl, rfl, rfl⟩ := trodAll_nil r2
  obtain rfl : args = #[v0, v1, v2] := by cases args; simp_all
  obtain ⟨k0, rfl, hk0⟩ := open_clk (hval 0 23 v0 rfl rfl) h0
  obtain ⟨n1, rfl, hn1⟩ := open_u8 (hval 1 5 v1 rfl rfl) h1
  obtain ⟨n2, rfl, hn2⟩ := open_u8 (hval 2 5 v2 rfl rfl) h2
  exact clockChain_walk k0 n1 hn1 n2 hn2 W
set_option maxRecDepth 100000 in
theorem lifted (os : Os) (started : os.Started) (H : Type) (enc : TypeId × Value → H) :
    ReturnsInHanded {} Try.checked os 10 .any (Rows.clockChainSpec.pre6 enc Try.prog Try.f10 Rows.clockChainRow.domain false) (Rows.clockChainSpec.post enc Try.prog Try.f10 false true false false) :=
  law_lifts (C := Try.checked) (f := 10) (fn := Try.f10) (s := Rows.clockChainSpec) (tb := 4) (by kernel_rfl) (by kernel_rfl) Try.func10 (by kernel_rfl) rfl Try.underlying4 rfl
    (hread_of (by kernel_rfl)) (fun H ds h => by match ds, h with | [_, _, _], _ => rfl) os started H enc
    (ChangeSpec.witness6 (enc := enc) (C := Try.checked) false ⟨#[], #[.agg #[.int .i64 0, .int .i64 0, .int .i64 0, .int .i64 0, .int .i64 0], .int .u8 0, .int .u8 0], []⟩ 8 (by kernel_rfl) (by kernel_rfl) (by kernel_rfl) (by kernel_rfl))
    (fun W base args ds ps g => calls H enc W base args ds ps g)
theorem over : Rows.clockChainRow.holds Try.pinned (OpenSpec.ofChange Rows.clockChainSpec) :=
  OpenClaim.holds_of_wide 10 Try.f10 rfl rfl rfl rfl rfl rfl rfl ⟨rfl, rfl, rfl, rfl, rfl⟩ rfl rfl rfl rfl rfl (by kernel_rfl) Try.func10 (by kernel_rfl)
    (of_decide_eq_true (by kernel_rfl)) (by unfold Func.isWrapper; first | (rw [if_pos (by decide +kernel)]; kernel_rfl) | (rw [if_neg (by decide +kernel)]; exact ⟨rfl, rfl⟩))
    (fun os started H enc _ => lifted os started H enc)
theorem proved : Rows.ClockChainSaid := over
end Go.Proofs.Ytpamhedjdpfiaaa.clockChain
