/- 'TextFirst' returns true for every input, and the input reads as it did. No condition. -/
import Derived.Test.YtpamhedjdpfiaaaRows
import Derived.Test.YtpamhedjdpfiaaaLaw5b
import Derived.Test.YtpamhedjdpfiaaaOpen
import Derived.Test.YtpamhedjdpfiaaaArgs
import Derived.Test.YtpamhedjdpfiaaaArgsEd
namespace Go.Proofs.Ytpamhedjdpfiaaa.textFirst
open Go.ChangeShapes Go.WideShapes Go.ChangeAt Go.RowKit Go.Proofs.Ytpamhedjdpfiaaa
set_option linter.unusedVariables false
set_option linter.unusedSimpArgs false
theorem calls (H : Type) (enc : TypeId × Value → H) (W : World) (base : Nat) (args : Array Value) (ds : List (DataW H)) (ps : List MemPlace) (g : Given enc Try.prog Try.f12 W base args ds ps) : Calls Try.prog 12 args W (Yes W) := by
  have hA : DataW.TrodAll enc Try.prog W 0 (fun _ => true) true Try.f12.params.toList args.toList ds ps := g.trod
  have hval : ∀ (j : Nat) t v, Try.f12.params[j]? = some t → args[j]? = some v → Value.okWide Try.prog W .any base t v := g.ok
  have hsz : (DataW.weightsEach Try.prog Try.f12.params.toList ds).all (· ≤ reachBytes) = true := g.sized
  rw [Try.params12] at hA hval hsz
  obtain ⟨v0, vs0, d0, ds0, p0, q0, hargs, rfl, rfl, h0, r0⟩ := trodAll_cons hA
  obtain ⟨v1, vs1, d1, ds1, p1, q1, rfl, rfl, rfl, h1, r1⟩ := trodAll_cons r0
  obtain ⟨rfl, rfl, rfl⟩ := trodAll_nil r1
  obtain rfl : args = #[v0, v1] := by cases args; simp_all
  obtain ⟨z0, y0⟩ := sized_cons hsz
  obtain ⟨z1, y1⟩ := sized_cons y0
  obtain ⟨e0, rfl, hd0, he0⟩ := open_edit (hval 0 44 v0 rfl rfl) h0
  obtain ⟨n1, rfl, hn1⟩ := open_u8 (hval 1 5 v1 rfl rfl) h1
  exact textFirst_walk e0 (edit_sized e0 (hd0 ▸ z0)).1 (edit_sized e0 (hd0 ▸ z0)).2 n1 hn1 W
set_option maxRecDepth 100000 in
theorem lifted (os : Os) (started : os.Started) (H : Type) (enc : TypeId × Value → H) :
    ReturnsInHanded {} Try.checked os 12 .any (Rows.textFirstSpec.pre6 enc Try.prog Try.f12 Rows.textFirstRow.domain false) (Rows.textFirstSpec.post enc Try.prog Try.f12 false true false false) :=
  law_lifts (C := Try.checked) (f := 12) (fn := Try.f12) (s := Rows.textFirstSpec) (tb := 4) (by kernel_rfl) (by kernel_rfl) Try.func12 (by kernel_rfl) rfl Try.underlying4 rfl
    (hread_of (by kernel_rfl)) (fun H ds h => by match ds, h with | [_, _], _ => rfl) os started H enc
    (ChangeSpec.witness6 (enc := enc) (C := Try.checked) false ⟨#[], #[.agg #[.int .i64 0, .string ⟨#[]⟩, .int .i64 0, .string ⟨#[]⟩], .int .u8 0], []⟩ 8 (by kernel_rfl) (by kernel_rfl) (by kernel_rfl) (by kernel_rfl))
    (fun W base args ds ps g => calls H enc W base args ds ps g)
theorem over : Rows.textFirstRow.holds Try.pinned (OpenSpec.ofChange Rows.textFirstSpec) :=
  OpenClaim.holds_of_wide 12 Try.f12 rfl rfl rfl rfl rfl rfl rfl ⟨rfl, rfl, rfl, rfl, rfl⟩ rfl rfl rfl rfl rfl (by kernel_rfl) Try.func12 (by kernel_rfl)
    (of_decide_eq_true (by kernel_rfl)) (by unfold Func.isWrapper; first | (rw [if_pos (by decide +kernel)]; kernel_rfl) | (rw [if_neg (by decide +kernel)]; exact ⟨rfl, rfl⟩))
    (fun os started H enc _ => lifted os started H enc)
theorem proved : Rows.TextFirstSaid := over
end Go.Proofs.Ytpamhedjdpfiaaa.textFirst
