/- 'ScriptMay' returns true for every input, and the input reads as it did. No condition. -/
import Derived.Test.YtjcjgaciakacoaaDoorRows
import Derived.Test.YtjcjgaciakacoaaDoorLaw23d
import Derived.Test.YtjcjgaciakacoaaDoorSepG
import Derived.Test.YtjcjgaciakacoaaDoorTabs
import Derived.Test.YtjcjgaciakacoaaDoorTie
import Derived.Test.YtjcjgaciakacoaaDoorCards
namespace Go.Proofs.YtjcjgaciakacoaaDoor.scriptMay
open Go.ChangeShapes Go.WideShapes Go.ChangeAt Go.RowKit Go.Proofs.YtjcjgaciakacoaaDoor
set_option linter.unusedVariables false
set_option linter.unusedSimpArgs false
theorem calls (H : Type) (enc : TypeId × Value → H) (W : World) (base : Nat) (args : Array Value) (ds : List (DataW H)) (ps : List MemPlace) (g : Given enc Tryd.prog Tryd.f6 W base args ds ps) (hL : laidMetH Tryd.prog laid3 W) : Calls Tryd.prog 6 args W (Yes W) := by
  have hA : DataW.TrodAll enc Tryd.prog W 0 (fun _ => true) true Tryd.f6.params.toList args.toList ds ps := g.trod
  have hval : ∀ (j : Nat) t v, Tryd.f6.params[j]? = some t → args[j]? = some v → Value.okWide Tryd.prog W .any base t v := g.ok
  have hsz : (DataW.weightsEach Tryd.prog Tryd.f6.params.toList ds).all (· ≤ reachBytes) = true := g.sized
  rw [Tryd.params6] at hA hval hsz
  obtain ⟨v0, vs0, d0, ds0, p0, q0, hargs, rfl, rfl, h0, r0⟩ := trodAll_cons hA
  obtain ⟨v1, vs1, d1, ds1, p1, q1, rfl, rfl, rfl, h1, r1⟩ := trodAll_cons r0
  obtain ⟨v2, vs2, d2, ds2, p2, q2, rfl, rfl, rfl, h2, r2⟩ := trodAll_cons r1
  obtain ⟨rfl, rfl, rfl⟩ := trodAll_nil r2
  obtain rfl : args = #[v0, v1, v2] := by cases args; simp_all
  obtain ⟨z0, y0⟩ := sized_two hsz
  obtain ⟨z1, y1⟩ := sized_two y0
  obtain ⟨z2, y2⟩ := sized_two y1
  have k0 := arg_ok (hval 0 3 v0 rfl rfl) h0 z0
  obtain ⟨n0, e0, w0⟩ := okT_i64 (by kernel_rfl) k0
  obtain rfl := arg_one (by kernel_rfl) (hval 0 3 v0 rfl rfl) e0 rfl
  have k1 := arg_ok (hval 1 22 v1 rfl rfl) h1 z1
  obtain ⟨u1, l1, e1, o1, s1, b1⟩ := okT_bytes (e := 5) (by kernel_rfl) (by kernel_rfl) (by kernel_rfl) (by kernel_rfl) k1
  obtain rfl := arg_one (by kernel_rfl) (hval 1 22 v1 rfl rfl) e1 o1
  have k2 := arg_ok (hval 2 22 v2 rfl rfl) h2 z2
  obtain ⟨u2, l2, e2, o2, s2, b2⟩ := okT_bytes (e := 5) (by kernel_rfl) (by kernel_rfl) (by kernel_rfl) (by kernel_rfl) k2
  obtain rfl := arg_one (by kernel_rfl) (hval 2 22 v2 rfl rfl) e2 o2
  have T := tabs_of_laid hL
  exact yes_of_fn (scriptMay_fn n0 _ _ l1 l2 W (RdT.base 0 rfl s1) (RdT.base 0 rfl s2) (by omega) (by omega) T)
set_option maxRecDepth 100000 in
theorem lifted (os : Os) (started : os.Started) (H : Type) (enc : TypeId × Value → H) :
    ReturnsInHanded {} Tryd.checked os 6 .any (fun w args => (Rows.scriptMaySpec.pre enc Tryd.prog Tryd.f6 [] false w args ∧ laidMetH Tryd.prog laid3 w) ∧ sizedMet enc Tryd.prog Tryd.f6 (OpenSpec.ofChange Rows.scriptMaySpec) false w args) (Rows.scriptMaySpec.post enc Tryd.prog Tryd.f6 false true false false) :=
  law_lifts_laid (C := Tryd.checked) (f := 6) (fn := Tryd.f6) (s := Rows.scriptMaySpec) (tb := 4) (ld := laid3) (by kernel_rfl) (by kernel_rfl) Tryd.func6 (by kernel_rfl) rfl Tryd.underlying4 rfl
    (hread_ok (by kernel_rfl)) (fun H ds h => by match ds, h with | [_, _, _], _ => rfl) os started H enc
    (ChangeSpec.witness_shaped (enc := enc) (C := Tryd.checked) (os := os) (X := fun w _ => laidMetH Tryd.prog laid3 w) false (World.doorLaid Tryd.prog 400 os) #[.int .i64 0, .slice none 0 0, .slice none 0 0] 8 rfl (World.shaped_of_RefB (by kernel_rfl) (by kernel_rfl)) (by kernel_rfl) (by kernel_rfl) (by kernel_rfl) (door_met os _))
    (fun W base args ds ps g hL => calls H enc W base args ds ps g hL)
theorem over : Rows.scriptMayRow.holds Tryd.pinned (OpenSpec.ofChange Rows.scriptMaySpec) :=
  OpenClaim.holds_of_wide 6 Tryd.f6 rfl rfl rfl rfl rfl rfl rfl ⟨rfl, rfl, rfl, rfl, rfl⟩ rfl rfl rfl rfl rfl (by kernel_rfl) Tryd.func6 (by kernel_rfl)
    (of_decide_eq_true (by kernel_rfl)) (by unfold Func.isWrapper; first | (rw [if_pos (by decide +kernel)]; kernel_rfl) | (rw [if_neg (by decide +kernel)]; exact ⟨rfl, rfl⟩))
    (fun os started H enc _ => lifted os started H enc)
theorem proved : Rows.ScriptMayCardSaid :=
  Claim7.holds_tied_plain_at .later [] [.data, .data, .data] true _ false
    over (fun _ h => by cases h) (by kernel_rfl) (fun _ h => by cases h) scriptMay_row_tie rfl ⟨rfl, rfl⟩ (by kernel_rfl) rfl
    (fun f fn hf hfn => by
      obtain rfl : f = 6 := Option.some.inj ((show Tryd.prog.funcNamed "kith/kithlaw23.ScriptMay" = some 6 by kernel_rfl).symm.trans hf) |>.symm
      obtain rfl : fn = Tryd.f6 := (Option.some.inj (Tryd.func6.symm.trans hfn)).symm
      exact ⟨by kernel_rfl, fun j t ht => by
        have ht : Tryd.f6.params[j]? = some t := ht
        rw [Tryd.params6] at ht
        have hm : t ∈ [3, 22, 22] := by simpa using Array.mem_of_getElem? ht
        have hall : ([3, 22, 22].all fun u => !Tryd.prog.wantsStandIn u) = true := by kernel_rfl
        exact (show Tryd.prog.wantsStandIn t = false by simpa using List.all_eq_true.1 hall t hm)⟩)
    (by kernel_rfl)
end Go.Proofs.YtjcjgaciakacoaaDoor.scriptMay
