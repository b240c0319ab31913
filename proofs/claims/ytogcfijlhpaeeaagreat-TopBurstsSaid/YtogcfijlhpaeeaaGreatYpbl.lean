/- Texts. No condition. -/
import Derived.Test.YtogcfijlhpaeeaaGreatChecked
import Derived.Test.YtogcfijlhpaeeaaGreatRows
import Derived.Test.YtogcfijlhpaeeaaGreatYpab
open Go.RowKit Go.Proofs.Tryz
set_option linter.all false
set_option maxHeartbeats 32000000
namespace Go.Proofs.YtogcfijlhpaeeaaGreat
section
open Go.ChangeShapes Go.WideShapes Go.ChangeAt Go.RowKit
set_option maxRecDepth 20000 in
theorem V8:(laidOutB prog)=true:=by kernel_rfl
set_option maxRecDepth 20000 in
theorem OB:(mapsRowed prog)=true:=by kernel_rfl
set_option maxRecDepth 20000 in
theorem UP:(namedTie prog Rows.topBurstsRow.named Rows.topBurstsSpec.vars)=true:=by kernel_rfl
set_option maxRecDepth 20000 in
theorem Wx:((Rows.topBurstsRow.inPlace==prog.inPlace 3))=true:=by kernel_rfl
set_option maxRecDepth 20000 in
theorem SF:((Rows.topBurstsRow.unfollowed==prog.unfollowed 3))=true:=by kernel_rfl
set_option maxRecDepth 20000 in
theorem Zt:((Rows.topBurstsRow.recurses==prog.recurses 3))=true:=by kernel_rfl
set_option maxRecDepth 20000 in
theorem Wa:((Rows.topBurstsRow.named==prog.varsNamed 3))=true:=by kernel_rfl
set_option maxRecDepth 20000 in
theorem Rx:((Rows.topBurstsRow.plainKeys==prog.plainKeys))=true:=by kernel_rfl
set_option maxRecDepth 20000 in
theorem ZC:((Rows.topBurstsRow.lifted==prog.liftsFinal))=true:=by kernel_rfl
theorem fL{a b:Bool}(h:a=true)(k:b=true):(a&&b)=true:=by rw[h,k];rfl
set_option maxRecDepth 20000 in
theorem RT:joinedFacts prog 3 f3 Rows.topBurstsSpec Rows.topBurstsRow=true:=by unfold joinedFacts;exact(fL (fL (fL (fL (fL (fL (fL (fL (fL (fL (fL (fL (fL (fL (fL (fL (fL (fL (fL (fL (fL (fL (fL (fL (fL (fL (fL (fL (fL (fL (fL rQ V8) OB) rQ) UP) rQ) rQ) rQ) rQ) Wx) SF) Zt) Wa) rQ) rQ) rQ) rQ) rQ) rQ) rQ) rQ) rQ) Rx) rQ) rQ) rQ) ZC) rQ) rQ) rQ) rQ) rQ)
set_option maxRecDepth 20000 in
theorem Ox:f3.isInstance prog Rows.topBurstsRow.origin Rows.topBurstsRow.targs:=rU rQ
set_option maxRecDepth 20000 in
theorem Tb:f3.isWrapper prog Rows.topBurstsRow.wrapper Rows.topBurstsRow.mainSum:=by unfold Func.isWrapper;first|(rw[an (by decide+kernel)];kernel_rfl)|(rw[ai (by decide+kernel)];exact⟨rfl,rfl⟩)
end
end Go.Proofs.YtogcfijlhpaeeaaGreat
