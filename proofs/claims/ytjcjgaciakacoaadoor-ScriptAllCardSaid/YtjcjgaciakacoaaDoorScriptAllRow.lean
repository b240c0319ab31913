/- 'ScriptAll' returns true for every input, and the input reads as it did. No condition. -/
import Derived.Test.YtjcjgaciakacoaaDoorRows
import Derived.Test.YtjcjgaciakacoaaDoorLaw23
import Derived.Test.YtjcjgaciakacoaaDoorSepG
import Derived.Test.YtjcjgaciakacoaaDoorTabs
import Derived.Test.YtjcjgaciakacoaaDoorTie
import Derived.Test.YtjcjgaciakacoaaDoorCards
namespace Go.Proofs.YtjcjgaciakacoaaDoor.scriptAll
open Go.ChangeShapes Go.WideShapes Go.ChangeAt Go.RowKit Go.Proofs.YtjcjgaciakacoaaDoor
set_option linter.unusedVariables false
set_option linter.unusedSimpArgs false
theorem calls (H : Type) (enc : TypeId × Value → H) (W : World) (base : Nat) (args : Array Value) (ds : List (DataW H)) (ps : List MemPlace) (g : Given enc Tryd.prog Tryd.f3 W base args ds ps) (hL : laidMetH Tryd.prog laid3 W) : Calls Tryd.prog 3 args W (Yes W) := by
  have hA : DataW.TrodAll enc Tryd.prog W 0 (fun _ => true) true Tryd.f3.params.toList args.toList ds ps := g.trod
  have hval : ∀ (j : Nat) t v, Tryd.f3.params[j]? = some t → args[j]? = some v → Value.okWide Tryd.prog W .any base t v := g.ok
  have hsz : (DataW.weightsEach Tryd.prog Tryd.f3.params.toList ds).all (· ≤ reachBytes) = true := g.sized
  rw [Tryd.params3] at hA hval hsz
  obtain ⟨v0, vs0, d0, ds0, p0, q0, hargs, rfl, rfl, h0, r0⟩ := trodAll_cons hA
  obtain ⟨v1, vs1, d1, ds1, p1, q1, rfl, rfl, rfl, h1, r1⟩ := trodAll_cons r0
  obtain ⟨rfl, rfl, rfl⟩ := trodAll_nil r1
  obtain rfl : args = #[v0, v1] := by cases args; simp_all
  obtain ⟨z0, y0⟩ := sized_two hsz
  obtain ⟨z1, y1⟩ := sized_two y0
  have k0 := arg_ok (hval 0 3 v0 rfl rfl) h0 z0
  obtain ⟨n0, e0, w0⟩ := okT_i64 (by kernel_rfl) k0
  obtain rfl := arg_one (by kernel_rfl) (hval 0 3 v0 rfl rfl) e0 rfl
  have k1 := arg_ok (hval 1 22 v1 rfl rfl) h1 z1
  obtain ⟨u1, l1, e1, o1, s1, b1⟩ := okT_bytes (e := 5) (by kernel_rfl) (by kernel_rfl) (by kernel_rfl) (by kernel_rfl) k1
  obtain rfl := arg_one (by kernel_rfl) (hval 1 22 v1 rfl rfl) e1 o1
  have T := tabs_of_laid hL
  exact yes_of_fn (scriptAll_fn n0 _ l1 W (RdT.base 0 rfl s1) (by omega) T)
set_option maxRecDepth 100000 in
theorem lifted (os : Os) (started : os.Started) (H : Type) (enc : TypeId × Value → H) :
    ReturnsInHanded {} Tryd.checked os 3 .any (fun w args => (Rows.scriptAllSpec.pre enc Tryd.prog Tryd.f3 [] false w args ∧ laidMetH Tryd.prog laid3 w) ∧ sizedMet enc Tryd.prog Tryd.f3 (OpenSpec.ofChange Rows.scriptAllSpec) false w args) (Rows.scriptAllSpec.post enc Tryd.prog Tryd.f3 false true false false) :=
  law_lifts_laid (C := Tryd.checked) (f := 3) (fn := Tryd.f3) (s := Rows.scriptAllSpec) (tb := 4) (ld := laid3) (by kernel_rfl) (by kernel_rfl) Tryd.func3 (by kernel_rfl) rfl Tryd.underlying4 rfl
    (hread_ok (by kernel_rfl)) (fun H ds h => by match ds, h with | [_, _], _ => rfl) os started H enc
    (ChangeSpec.witness_shaped (enc := enc) (C := Tryd.checked) (os := os) (X := fun w _ => laidMetH Tryd.prog laid3 w) false (World.doorLaid Tryd.prog 400 os) #[.int .i64 0, .slice none 0 0] 8 rfl (World.shaped_of_RefB (by kernel_rfl) (by kernel_rfl)) (by kernel_rfl) (by kernel_rfl) (by kernel_rfl) (door_met os _))
    (fun W base args ds ps g hL => calls H enc W base args ds ps g hL)
theorem over : Rows.scriptAllRow.holds Tryd.pinned (OpenSpec.ofChange Rows.scriptAllSpec) :=
  OpenClaim.holds_of_wide 3 Tryd.f3 rfl rfl rfl rfl rfl rfl rfl ⟨rfl, rfl, rfl, rfl, rfl⟩ rfl rfl rfl rfl rfl (by kernel_rfl) Tryd.func3 (by kernel_rfl)
    (of_decide_eq_true (by kernel_rfl)) (by unfold Func.isWrapper; first | (rw [if_pos (by decide +kernel)]; kernel_rfl) | (rw [if_neg (by decide +kernel)]; exact ⟨rfl, rfl⟩))
    (fun os started H enc _ => lifted os started H enc)
theorem proved : Rows.ScriptAllCardSaid :=
  Claim7.holds_tied_plain_at .later [] [.data, .data, .data] true _ false
    over (fun _ h => by cases h) (by kernel_rfl) (fun _ h => by cases h) scriptAll_row_tie rfl ⟨rfl, rfl⟩ (by kernel_rfl) rfl
    (fun f fn hf hfn => by
      obtain rfl : f = 3 := Option.some.inj ((show Tryd.prog.funcNamed "kith/kithlaw23.ScriptAll" = some 3 by kernel_rfl).symm.trans hf) |>.symm
      obtain rfl : fn = Tryd.f3 := (Option.some.inj (Tryd.func3.symm.trans hfn)).symm
      exact ⟨by kernel_rfl, fun j t ht => by
        have ht : Tryd.f3.params[j]? = some t := ht
        rw [Tryd.params3] at ht
        have hm : t ∈ [3, 22] := by simpa using Array.mem_of_getElem? ht
        have hall : ([3, 22].all fun u => !Tryd.prog.wantsStandIn u) = true := by kernel_rfl
        exact (show Tryd.prog.wantsStandIn t = false by simpa using List.all_eq_true.1 hall t hm)⟩)
    (by kernel_rfl)
end Go.Proofs.YtjcjgaciakacoaaDoor.scriptAll
