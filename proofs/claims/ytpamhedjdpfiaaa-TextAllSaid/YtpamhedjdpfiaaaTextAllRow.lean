/- 'TextAll' returns true for every input, and the input reads as it did. No condition. -/
import Derived.Test.YtpamhedjdpfiaaaRows
import Derived.Test.YtpamhedjdpfiaaaLaw5
import Derived.Test.YtpamhedjdpfiaaaOpen
import Derived.Test.YtpamhedjdpfiaaaArgs
import Derived.Test.YtpamhedjdpfiaaaArgsEd
namespace Go.Proofs.Ytpamhedjdpfiaaa.textAll
open Go.ChangeShapes Go.WideShapes Go.ChangeAt Go.RowKit Go.Proofs.Ytpamhedjdpfiaaa
set_option linter.unusedVariables false
set_option linter.unusedSimpArgs false
theorem calls (H : Type) (enc : TypeId × Value → H) (W : World) (base : Nat) (args : Array Value) (ds : List (DataW H)) (ps : List MemPlace) (g : Given enc Try.prog Try.f11 W base args ds ps) : Calls Try.prog 11 args W (Yes W) := by
  have hA : DataW.TrodAll enc Try.prog W 0 (fun _ => true) true Try.f11.params.toList args.toList ds ps := g.trod
  have hval : ∀ (j : Nat) t v, Try.f11.params[j]? = some t → args[j]? = some v → Value.okWide Try.prog W .any base t v := g.ok
  have hsz : (DataW.weightsEach Try.prog Try.f11.params.toList ds).all (· ≤ reachBytes) = true := g.sized
  rw [Try.params11] at hA hval hsz
  obtain ⟨v0, vs0, d0, ds0, p0, q0, hargs, rfl, rfl, h0, r0⟩ := trodAll_cons hA
  obtain ⟨rfl, rfl, rfl⟩ := trodAll_nil r0
  obtain rfl : args = #[v0] := by cases args; simp_all
  obtain ⟨z0, y0⟩ := sized_cons hsz
  obtain ⟨e0, rfl, hd0, he0⟩ := open_edit (hval 0 44 v0 rfl rfl) h0
  exact textAll_walk e0 (edit_sized e0 (hd0 ▸ z0)).1 (edit_sized e0 (hd0 ▸ z0)).2 W
set_option maxRecDepth 100000 in
theorem lifted (os : Os) (started : os.Started) (H : Type) (enc : TypeId × Value → H) :
    ReturnsInHanded {} Try.checked os 11 .any (Rows.textAllSpec.pre6 enc Try.prog Try.f11 Rows.textAllRow.domain false) (Rows.textAllSpec.post enc Try.prog Try.f11 false true false false) :=
  law_lifts (C := Try.checked) (f := 11) (fn := Try.f11) (s := Rows.textAllSpec) (tb := 4) (by kernel_rfl) (by kernel_rfl) Try.func11 (by kernel_rfl) rfl Try.underlying4 rfl
    (hread_of (by kernel_rfl)) (fun H ds h => by match ds, h with | [_], _ => rfl) os started H enc
    (ChangeSpec.witness6 (enc := enc) (C := Try.checked) false ⟨#[], #[.agg #[.int .i64 0, .string ⟨#[]⟩, .int .i64 0, .string ⟨#[]⟩]], []⟩ 8 (by kernel_rfl) (by kernel_rfl) (by kernel_rfl) (by kernel_rfl))
    (fun W base args ds ps g => calls H enc W base args ds ps g)
theorem over : Rows.textAllRow.holds Try.pinned (OpenSpec.ofChange Rows.textAllSpec) :=
  OpenClaim.holds_of_wide 11 Try.f11 rfl rfl rfl rfl rfl rfl rfl ⟨rfl, rfl, rfl, rfl, rfl⟩ rfl rfl rfl rfl rfl (by kernel_rfl) Try.func11 (by kernel_rfl)
    (of_decide_eq_true (by kernel_rfl)) (by unfold Func.isWrapper; first | (rw [if_pos (by decide +kernel)]; kernel_rfl) | (rw [if_neg (by decide +kernel)]; exact ⟨rfl, rfl⟩))
    (fun os started H enc _ => lifted os started H enc)
theorem proved : Rows.TextAllSaid := over
end Go.Proofs.Ytpamhedjdpfiaaa.textAll
