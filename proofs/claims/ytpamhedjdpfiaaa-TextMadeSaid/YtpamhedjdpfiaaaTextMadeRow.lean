/- 'TextMade' returns true for every input, and the input reads as it did. No condition. -/
import Derived.Test.YtpamhedjdpfiaaaRows
import Derived.Test.YtpamhedjdpfiaaaLaw5
import Derived.Test.YtpamhedjdpfiaaaOpen
import Derived.Test.YtpamhedjdpfiaaaArgs
import Derived.Test.YtpamhedjdpfiaaaArgsEd
namespace Go.Proofs.Ytpamhedjdpfiaaa.textMade
open Go.ChangeShapes Go.WideShapes Go.ChangeAt Go.RowKit Go.Proofs.Ytpamhedjdpfiaaa
set_option linter.unusedVariables false
set_option linter.unusedSimpArgs false
theorem calls (H : Type) (enc : TypeId × Value → H) (W : World) (base : Nat) (args : Array Value) (ds : List (DataW H)) (ps : List MemPlace) (g : Given enc Try.prog Try.f13 W base args ds ps) : Calls Try.prog 13 args W (Yes W) := by
  have hA : DataW.TrodAll enc Try.prog W 0 (fun _ => true) true Try.f13.params.toList args.toList ds ps := g.trod
  have hval : ∀ (j : Nat) t v, Try.f13.params[j]? = some t → args[j]? = some v → Value.okWide Try.prog W .any base t v := g.ok
  have hsz : (DataW.weightsEach Try.prog Try.f13.params.toList ds).all (· ≤ reachBytes) = true := g.sized
  rw [Try.params13] at hA hval hsz
  obtain ⟨v0, vs0, d0, ds0, p0, q0, hargs, rfl, rfl, h0, r0⟩ := trodAll_cons hA
  obtain ⟨v1, vs1, d1, ds1, p1, q1, rfl, rfl, rfl, h1, r1⟩ := trodAll_cons r0
  obtain ⟨v2, vs2, d2, ds2, p2, q2, rfl, rfl, rfl, h2, r2⟩ := trodAll_cons r1
  obtain ⟨rfl, rfl, rfl⟩ := trodAll_nil r2
  obtain rfl : args = #[v0, v1, v2] := by cases args; simp_all
  obtain ⟨z0, y0⟩ := sized_cons hsz
  obtain ⟨z1, y1⟩ := sized_cons y0
  obtain ⟨z2, y2⟩ := sized_cons y1
  obtain ⟨e0, rfl, hd0, he0⟩ := open_edit (hval 0 44 v0 rfl rfl) h0
  obtain ⟨n1, rfl, hn1⟩ := open_i64 (hval 1 3 v1 rfl rfl) h1
  obtain ⟨s2, rfl, hd2, hs2⟩ := open_str (hval 2 9 v2 rfl rfl) h2
  exact textMade_walk e0 (edit_sized e0 (hd0 ▸ z0)).1 (edit_sized e0 (hd0 ▸ z0)).2 n1 s2 hs2 W
set_option maxRecDepth 100000 in
theorem lifted (os : Os) (started : os.Started) (H : Type) (enc : TypeId × Value → H) :
    ReturnsInHanded {} Try.checked os 13 .any (Rows.textMadeSpec.pre6 enc Try.prog Try.f13 Rows.textMadeRow.domain false) (Rows.textMadeSpec.post enc Try.prog Try.f13 false true false false) :=
  law_lifts (C := Try.checked) (f := 13) (fn := Try.f13) (s := Rows.textMadeSpec) (tb := 4) (by kernel_rfl) (by kernel_rfl) Try.func13 (by kernel_rfl) rfl Try.underlying4 rfl
    (hread_of (by kernel_rfl)) (fun H ds h => by match ds, h with | [_, _, _], _ => rfl) os started H enc
    (ChangeSpec.witness6 (enc := enc) (C := Try.checked) false ⟨#[], #[.agg #[.int .i64 0, .string ⟨#[]⟩, .int .i64 0, .string ⟨#[]⟩], .int .i64 0, .string ⟨#[]⟩], []⟩ 8 (by kernel_rfl) (by kernel_rfl) (by kernel_rfl) (by kernel_rfl))
    (fun W base args ds ps g => calls H enc W base args ds ps g)
theorem over : Rows.textMadeRow.holds Try.pinned (OpenSpec.ofChange Rows.textMadeSpec) :=
  OpenClaim.holds_of_wide 13 Try.f13 rfl rfl rfl rfl rfl rfl rfl ⟨rfl, rfl, rfl, rfl, rfl⟩ rfl rfl rfl rfl rfl (by kernel_rfl) Try.func13 (by kernel_rfl)
    (of_decide_eq_true (by kernel_rfl)) (by unfold Func.isWrapper; first | (rw [if_pos (by decide +kernel)]; kernel_rfl) | (rw [if_neg (by decide +kernel)]; exact ⟨rfl, rfl⟩))
    (fun os started H enc _ => lifted os started H enc)
theorem proved : Rows.TextMadeSaid := over
end Go.Proofs.Ytpamhedjdpfiaaa.textMade
