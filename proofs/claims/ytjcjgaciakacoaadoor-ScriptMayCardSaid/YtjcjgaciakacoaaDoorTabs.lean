/- The tables of package script, out of what the rows list. No condition. -/
import Derived.Test.YtjcjgaciakacoaaDoorOpenL
import Derived.Test.YtjcjgaciakacoaaDoorStp
import Derived.Test.YtjcjgaciakacoaaDoorRows
namespace Go.Proofs.YtjcjgaciakacoaaDoor
open Go.ChangeShapes Go.WideShapes Go.ChangeAt Go.RowKit
set_option linter.unusedSimpArgs false
set_option linter.unusedVariables false
def laid3 : List (String × DataW Unit) := [("kith/script.kinds", Rows.laid_kith_script_kinds), ("kith/script.keys", Rows.laid_kith_script_keys), ("kith/script.values", Rows.laid_kith_script_values)]
theorem door_met (os : Os) (args : Array Value) : laidMetH Tryd.prog laid3 ((World.doorLaid Tryd.prog 400 os).forCall (fun _ _ => 0) ⟨#[], args, []⟩).memory :=
  laidMetH_of_parts3 (fuel := 8) (laidMet_of_run' 8 (by kernel_rfl) (by kernel_rfl)) (by kernel_rfl) (by kernel_rfl)
theorem tabs_of_laid {W : World} (h : laidMetH Tryd.prog laid3 W) : Tabs [Base W] := by
  rw [MakeChecks.laidMetH_plain _ _ _ (by kernel_rfl)] at h
  obtain ⟨ps, ⟨g0, t0, cs0, f0, p0, q0, hg0, ht0, hv0, hd0, ⟨g1, t1, cs1, f1, p1, q1, hg1, ht1, hv1, hd1, ⟨g2, t2, cs2, f2, p2, q2, hg2, ht2, hv2, hd2, _, _⟩, _⟩, _⟩, _, _⟩ := h
  have hg0' : Tryd.prog.globalNamed "kith/script.kinds" = some 0 := by kernel_rfl
  have hg1' : Tryd.prog.globalNamed "kith/script.keys" = some 1 := by kernel_rfl
  have hg2' : Tryd.prog.globalNamed "kith/script.values" = some 2 := by kernel_rfl
  obtain rfl := Option.some.inj (hg0'.symm.trans hg0)
  obtain rfl := Option.some.inj (hg1'.symm.trans hg1)
  obtain rfl := Option.some.inj (hg2'.symm.trans hg2)
  obtain rfl := Option.some.inj ((show (Tryd.prog.globals[0]?).map (·.type) = some 44 by kernel_rfl).symm.trans ht0)
  obtain rfl := Option.some.inj ((show (Tryd.prog.globals[1]?).map (·.type) = some 46 by kernel_rfl).symm.trans ht1)
  obtain rfl := Option.some.inj ((show (Tryd.prog.globals[2]?).map (·.type) = some 46 by kernel_rfl).symm.trans ht2)
  have e0 := trod_ints_lit (ns := [0, 0, 0, 0, 0, 1, 2, 3, 4, 5, 6, 7, 8, 9, 10, 11]) Tryd.underlying44 Tryd.underlying3 (by kernel_rfl) (by kernel_rfl) hd0
  have e1 := trod_strs_lit (ns := [[97, 110, 110], [98, 111, 98], [99, 121], [100, 105]]) Tryd.underlying46 Tryd.underlying9 (by kernel_rfl) (by kernel_rfl) hd1
  have e2 := trod_strs_lit (ns := [[49], [50, 50], [255], [116, 119, 101, 108, 118, 101, 32, 98, 121, 116, 101, 115]]) Tryd.underlying46 Tryd.underlying9 (by kernel_rfl) (by kernel_rfl) hd2
  exact ⟨Tab.base 0 rfl fun j v hv => by rw [World.var?_cell hg0' hv0, ← Array.getElem?_toList, e0]; exact hv,
    Tab.base 0 rfl fun j v hv => by rw [World.var?_cell hg1' hv1, ← Array.getElem?_toList, e1]; exact hv,
    Tab.base 0 rfl fun j v hv => by rw [World.var?_cell hg2' hv2, ← Array.getElem?_toList, e2]; exact hv⟩
end Go.Proofs.YtjcjgaciakacoaaDoor
