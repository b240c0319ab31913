/- Texts, one behind the other. No condition. -/
import Derived.Test.YtogcfijlhpaeeaaGreatChecked
import Derived.Test.YtogcfijlhpaeeaaGreatZcdhpjgdh
import Derived.Test.YtogcfijlhpaeeaaGreatZehjcikgl
import Derived.Test.YtogcfijlhpaeeaaGreatZmljpkidb
open Go.RowKit
set_option linter.unusedSimpArgs false
set_option linter.unusedVariables false
set_option linter.unusedSectionVars false
set_option maxHeartbeats 32000000
namespace Go.Proofs.YtogcfijlhpaeeaaGreat
section
instance:Inhabited Ptr:=⟨⟨0⟩⟩
@[reducible] def Nds (v:Value) (gs:List Ptr):Assn:=RowT v 116 gs
def nodesA (c:Cfg) (gs:List Ptr) (sts:List NSt):List Assn:=(List.range sts.length).map fun (i:Nat)=>NodeA (gs.getD i ⟨0⟩).g c i (sts.getD i NSt.fresh)
theorem nodesA_get (c:Cfg) (gs:List Ptr) (sts:List NSt) (r:Int) (h:0≤r∧r<sts.length):(nodesA c gs sts)[r.toNat]?=some (NodeA (gs.getD r.toNat ⟨0⟩).g c r (sts.getD r.toNat NSt.fresh)):=by
 unfold nodesA
 have hr:r.toNat<sts.length:=by omega
 rw [List.getElem?_map,List.getElem?_range hr]
 have e:((r.toNat:Nat):Int)=r:=by omega
 simp only [Option.map_some]
 rw [e]
theorem nodesA_set (c:Cfg) (gs:List Ptr) (sts:List NSt) (r:Int) (s:NSt) (h:0≤r∧r<sts.length):nodesA c gs (sts.set r.toNat s)=(nodesA c gs sts).set r.toNat (NodeA (gs.getD r.toNat ⟨0⟩).g c r s):=by
 have hr:r.toNat<sts.length:=by omega
 have e:((r.toNat:Nat):Int)=r:=by omega
 unfold nodesA
 rw [List.length_set]
 refine List.ext_getElem (by simp) fun i h1 h2=>?_
 have hi:i<sts.length:=by simpa using h1
 rw [List.getElem_map,List.getElem_range,List.getElem_set]
 by_cases hir:r.toNat=i
 ·subst hir
  rw [if_pos rfl]
  have:(sts.set r.toNat s).getD r.toNat NSt.fresh=s:=by simp [List.getD_eq_getElem?_getD,hr]
  rw [this,e]
 ·rw [if_neg hir,List.getElem_map,List.getElem_range]
  have:(sts.set r.toNat s).getD i NSt.fresh=sts.getD i NSt.fresh:=by simp only [List.getD_eq_getElem?_getD,List.getElem?_set_ne hir]
  rw [this]
theorem nodes_focus {c:Cfg} {gs:List Ptr} {w:WSt} {r:Int} (h:w.has r) (L:List Assn):Sub (NodeA (gs.getD r.toNat ⟨0⟩).g c r (w.node r)::Star ((nodesA c gs w.nodes).eraseIdx r.toNat)::L) (Star (nodesA c gs w.nodes)::L) :=
 Star.focus L (nodesA_get c gs w.nodes r h)
theorem nodes_unfocus {c:Cfg} {gs:List Ptr} {w:WSt} {r:Int} (h:w.has r) (s:NSt) (L:List Assn):Sub (Star (nodesA c gs (w.upd r s).nodes)::L) (NodeA (gs.getD r.toNat ⟨0⟩).g c r s::Star ((nodesA c gs w.nodes).eraseIdx r.toNat)::L):=by
 have hl:r.toNat<(nodesA c gs w.nodes).length:=by
  have:=h.1;have:=h.2
  unfold nodesA;rw [List.length_map,List.length_range];omega
 have:=Star.unfocus (As:=nodesA c gs w.nodes) (i:=r.toNat) (NodeA (gs.getD r.toNat ⟨0⟩).g c r s) L hl
 rw [← nodesA_set c gs w.nodes r s h] at this
 exact this
theorem nodes_back {c:Cfg} {gs:List Ptr} {w:WSt} {r:Int} (h:w.has r) (L:List Assn):Sub (Star (nodesA c gs w.nodes)::L) (NodeA (gs.getD r.toNat ⟨0⟩).g c r (w.node r)::Star ((nodesA c gs w.nodes).eraseIdx r.toNat)::L):=by
 have:=nodes_unfocus (c:=c) (gs:=gs) h (w.node r) L
 have e:(w.upd r (w.node r)).nodes=w.nodes:=set_getD_self _ _ _
 rwa [e] at this
@[reducible] def WdB (gw gh gl:Nat) (vs:Value):Assn:=Blk gw 114 [vs,ptrV gh,ptrV gl]
@[reducible] def wdO (gw gh gl:Nat) (vs:Value) (gs:List Ptr) (c:Cfg) (w:WSt) (M:List Assn):List Assn:=WdB gw gh gl vs::Nds vs gs::Star (nodesA c gs w.nodes)::HubA gh c w.hub::LkA gl w.keys::M
def WldA (gw:Nat) (c:Cfg) (w:WSt):Assn:=fun h=>∃ (gh gl:Nat) (vs:Value) (gs:List Ptr),vs.oneCell'=true∧gs.length=w.nodes.length∧Star (wdO gw gh gl vs gs c w []) h
theorem WldA.fn {P:Program} {k:FuncId} {args:Array Value} {gw:Nat} {c:Cfg} {w:WSt} {M:List Assn} {R:Value→List Assn→Prop}
  (h:∀ gh gl vs gs,vs.oneCell'=true→gs.length=w.nodes.length→Fn P k args (wdO gw gh gl vs gs c w M) R):Fn P k args (WldA gw c w::M) R:=fun F w0 ww rr ⟨x,⟨gh,gl,vs,gs,o,e,a⟩,d,s⟩ =>
 h gh gl vs gs o e F w0 ww rr (Star.opens _ _ ww F ⟨x,a,d,s⟩)
theorem WldA.cls {gw gh gl:Nat} {c:Cfg} {w:WSt} {vs:Value} {gs:List Ptr} (o:vs.oneCell'=true) (e:gs.length=w.nodes.length) (M:List Assn):Sub (WldA gw c w::M) (wdO gw gh gl vs gs c w M) :=
 Sub.trans (Sub.cons' (fun _ a=>⟨gh,gl,vs,gs,o,e,a⟩) (Sub.refl M)) (Star.closes (wdO gw gh gl vs gs c w []) M)
theorem WSt.upd_len (w:WSt) (r:Int) (s:NSt):(w.upd r s).nodes.length=w.nodes.length:=List.length_set ..
theorem WOk.node {k:Nat} {c:Cfg} {w:WSt} (ok:WOk k c w) {r:Int} (h:w.has r):NOk k c r (w.node r):=by
 have h1:=h.1
 have h2:=h.2
 have hr:r.toNat<w.nodes.length:=by omega
 have:=ok.nd r.toNat hr
 have e:w.node r=w.nodes[r.toNat]'hr:=by unfold WSt.node;simp [List.getD_eq_getElem?_getD,hr]
 rw [e]
 rwa [show ((r.toNat:Nat):Int)=r by omega] at this
theorem gs_get {gs:List Ptr} {r:Int} (h:r.toNat<gs.length):gs.getD r.toNat ⟨0⟩=gs[r.toNat]'h:=by simp [List.getD_eq_getElem?_getD,h]
set_option maxRecDepth 20000 attribute [local irreducible] Ex ExL Fn thn inb rnd fin meet Tab Mix mxEnd Val Sats RdT Rd RowT Row Blk Sub Fac ResV RVal Evs subs subs3 Hid Capd
section
attribute [local irreducible] Star NodeA HubA LkA nodesA
theorem whas_F (gw gh gl:Nat) (vs:Value) (gs:List Ptr) (c:Cfg) (w:WSt) (r:Int) (M:List Assn) (hl:gs.length=w.nodes.length) (hn:w.nodes.length≤5):Fn Tryz.prog 39 #[ptrV gw,.int .i64 r] (WdB gw gh gl vs::Nds vs gs::M)
  fun v L'=>v=.bool (decide (w.has r))∧L'=WdB gw gh gl vs::Nds vs gs::M:=by
 have e:decide (w.has r)=decide (0≤r∧r<gs.length):=by unfold WSt.has;rw [hl]
 rw [e]
 refine Fn.of_ex Tryz.func39 rfl Tryz.ntmps39 rfl ?_
 by_cases h1:0≤r
 ·by_cases h2:r<gs.length
  ·rw [decide_eq_true (⟨h1,h2⟩:0≤r∧r<gs.length)]
   exact re1
  ·rw [decide_eq_false (fun h:0≤r∧r<gs.length=>h2 h.2)]
   exact re1
 ·rw [decide_eq_false (fun h:0≤r∧r<gs.length=>h1 h.1)]
  exact re1
end
end
section
theorem WOk.n5 {k:Nat} {c:Cfg} {w:WSt} (ok:WOk k c w):w.nodes.length≤5∧1≤w.nodes.length:=by
 have h1:=ok.n
 have h2:=ok.hub.cm.n
 omega
@[reducible] def nodesBut (c:Cfg) (gs:List Ptr) (w:WSt) (r:Int):Assn:=Star ((nodesA c gs w.nodes).eraseIdx r.toNat)
@[reducible] def wdR (gw gh gl:Nat) (vs:Value) (gs:List Ptr) (c:Cfg) (w:WSt) (r:Int) (M:List Assn):List Assn:=WdB gw gh gl vs::Nds vs gs::nodesBut c gs w r::HubA gh c w.hub::LkA gl w.keys::M
theorem wd_open {gw gh gl:Nat} {vs:Value} {gs:List Ptr} {c:Cfg} {w:WSt} {r:Int} (hr:w.has r) (M:List Assn):Sub (NodeA (gs.getD r.toNat ⟨0⟩).g c r (w.node r)::wdR gw gh gl vs gs c w r M) (wdO gw gh gl vs gs c w M) :=
 Sub.trans (B:=NodeA (gs.getD r.toNat ⟨0⟩).g c r (w.node r)::nodesBut c gs w r::WdB gw gh gl vs::Nds vs gs::HubA gh c w.hub::LkA gl w.keys::M) rP (Sub.trans (nodes_focus hr _) rP)
theorem wd_shut {gw gh gl:Nat} {vs:Value} {gs:List Ptr} {c:Cfg} {w:WSt} {r:Int} (hr:w.has r) (s:NSt) (ov:vs.oneCell'=true) (hgl:gs.length=w.nodes.length) (M:List Assn):Sub (WldA gw c (w.upd r s)::M) (NodeA (gs.getD r.toNat ⟨0⟩).g c r s::wdR gw gh gl vs gs c w r M) :=
 Sub.trans (WldA.cls ov (by rw [WSt.upd_len];exact hgl) M) (Sub.trans (B:=Star (nodesA c gs (w.upd r s).nodes)::WdB gw gh gl vs::Nds vs gs::HubA gh c w.hub::LkA gl w.keys::M) rP (Sub.trans (nodes_unfocus hr s _) rP))
theorem wd_back {gw gh gl:Nat} {vs:Value} {gs:List Ptr} {c:Cfg} {w:WSt} {r:Int} (hr:w.has r) (ov:vs.oneCell'=true) (hgl:gs.length=w.nodes.length) (M:List Assn):Sub (WldA gw c w::M) (NodeA (gs.getD r.toNat ⟨0⟩).g c r (w.node r)::wdR gw gh gl vs gs c w r M) :=
 Sub.trans (WldA.cls ov hgl M) (Sub.trans (B:=Star (nodesA c gs w.nodes)::WdB gw gh gl vs::Nds vs gs::HubA gh c w.hub::LkA gl w.keys::M) rP (Sub.trans (nodes_back hr _) rP))
set_option maxRecDepth 20000 attribute [local irreducible] Ex ExL Fn thn inb rnd fin meet Tab Mix mxEnd Val Sats RdT Rd RowT Row Blk Sub Fac ResV RVal Evs subs subs3 Hid Capd
section
attribute [local irreducible] Star NodeA HubA LkA nodesA
theorem wSiteA {k:Nat} (gw:Nat) (c:Cfg) (w:WSt) (r:Int) (M:List Assn) (ok:WOk k c w) (hk:k≤198) (hr:w.has r):Fn Tryz.prog 22 #[ptrV gw,.int .i64 r] (WldA gw c w::M)
  fun v L'=>∃ (u1 u2:Value),u1.oneCell'=true∧u2.oneCell'=true∧v=.agg (siteC (w.node r).site u1 u2).toArray∧L'=Mks u1 (w.node r).site.held::Mks u2 (w.node r).site.log::WldA gw c w::M:=by
 refine WldA.fn fun gh gl vs gs ov hgl=>?_
 have hr1:=hr.1
 have hr2:=hr.2
 have hr3:r<gs.length:=by omega
 have hn5:=ok.n5
 refine Fn.of_ex Tryz.func22 rfl Tryz.ntmps22 rfl ?_
 (refine rn ?_;(repeat (first | intro (g:Nat) | intro h)))
 refine st_callIs [2,2] rJ Tryz.call39 rE rJ (whas_F gw gh gl vs gs c w r _ hgl hn5.1) ?_
 rw [decide_eq_true hr]
 rintro _ _ ⟨rfl,rfl⟩
 (refine rn ?_;(repeat (first | intro (g:Nat) | intro h)))
 rw [← gs_get rM]
 revert g
 intro g4
 refine ExL.sub (L':=NodeA (gs.getD r.toNat ⟨0⟩).g c r (w.node r)::wdR gw gh gl vs gs c w r (Blk g4 65 (siteC SiteP.zero (.slice none 0 0) (.slice none 0 0))::M)) ?_ (Sub.trans (wd_open hr _) rP)
 refine st_callIs [] rJ Tryz.call58 rE rJ (nSiteA (k:=k) _ c r (w.node r) _ (ok.node hr) rM) ?_
 rintro _ _ ⟨u1,u2,ou1,ou2,rfl,rfl⟩
 refine ExL.sub (L':=Blk g4 65 (siteC SiteP.zero (.slice none 0 0) (.slice none 0 0))::Mks u1 (w.node r).site.held::Mks u2 (w.node r).site.log::NodeA (gs.getD r.toNat ⟨0⟩).g c r (w.node r)::wdR gw gh gl vs gs c w r M) ?_ rP
 generalize (w.node r).site=sp
 (refine rn ?_;intros)
 (refine fr ?_)
 exact ⟨_,Sub.trans (Sub.cons _ (Sub.cons _ (wd_back hr ov hgl M))) rP,u1,u2,ou1,ou2,rfl,rfl⟩
theorem wListA {k:Nat} (gw:Nat) (c:Cfg) (w:WSt) (r:Int) (M:List Assn) (ok:WOk k c w) (hk:k≤198) (hr:w.has r):Fn Tryz.prog 23 #[ptrV gw,.int .i64 r] (WldA gw c w::M)
  fun v L'=>∃ (u:Value) (cs:List Ct),u.oneCell'=true∧cs.map Ct.con=(w.node r).list.1∧v=.tuple #[u,.int .i64 (w.node r).list.2]∧L'=Cts_ u cs::Star (cs.map Ct.own)::WldA gw c w::M:=by
 refine WldA.fn fun gh gl vs gs ov hgl=>?_
 have hr1:=hr.1
 have hr2:=hr.2
 have hr3:r<gs.length:=by omega
 have hn5:=ok.n5
 refine Fn.of_ex Tryz.func23 rfl Tryz.ntmps23 rfl ?_
 (refine rn ?_;(repeat (first | intro (cs:List Value) | intro (hcs:_=List.set _ _ _) | intro h)))
 refine st_callIs [] rJ Tryz.call39 rE rJ (whas_F gw gh gl vs gs c w r _ hgl hn5.1) ?_
 rw [decide_eq_true hr]
 rintro _ _ ⟨rfl,rfl⟩
 (refine rn ?_;(repeat (first | intro (cs:List Value) | intro (hcs:_=List.set _ _ _) | intro h)))
 rw [← gs_get rM]
 refine ExL.sub (L':=NodeA (gs.getD r.toNat ⟨0⟩).g c r (w.node r)::wdR gw gh gl vs gs c w r M) ?_ (wd_open hr _)
 refine st_callIs [] rJ Tryz.call59 rE rJ (nListA (k:=k) _ c r (w.node r) _ (ok.node hr) rM) ?_
 rintro _ _ ⟨u,cs,ou,hcs,rfl,rfl⟩
 (refine rn ?_;(repeat (first | intro (cs:List Value) | intro (hcs:_=List.set _ _ _) | intro h)))
 (refine fr ?_)
 exact ⟨_,Sub.cons _ (Sub.cons _ (wd_back hr ov hgl M)),u,cs,ou,hcs,rfl,rfl⟩
theorem wHubA {k:Nat} (gw:Nat) (c:Cfg) (w:WSt) (M:List Assn) (ok:WOk k c w) (hk:k≤198):Fn Tryz.prog 15 #[ptrV gw] (WldA gw c w::M)
  fun v L'=>v=.agg (Rep.cells w.hub.siteU).toArray∧L'=WldA gw c w::M:=by
 refine WldA.fn fun gh gl vs gs ov hgl=>?_
 refine Fn.of_ex Tryz.func15 rfl Tryz.ntmps15 rfl ?_
 unfold ptrV
 (refine rn ?_;intros)
 refine st_callIs [4] rJ Tryz.call36 rE rJ (hSiteA (k:=k) gh c w.hub _ ok.hub rM) ?_
 rintro _ _ ⟨rfl,rfl⟩
 generalize w.hub.siteU=hs
 (refine rn ?_;intros)
 (refine fr ?_)
 exact ⟨_,Sub.trans (WldA.cls ov hgl M) rP,rfl,rfl⟩
theorem wFlyingA (gw:Nat) (c:Cfg) (w:WSt) (M:List Assn):Fn Tryz.prog 30 #[ptrV gw] (WldA gw c w::M)
  fun v L'=>v=.int .i64 w.fl.length∧L'=WldA gw c w::M:=by
 refine WldA.fn fun gh gl vs gs ov hgl=>?_
 refine Fn.of_ex Tryz.func30 rfl Tryz.ntmps30 rfl ?_
 unfold ptrV
 (refine rn ?_;intros)
 refine st_callIs [4] rJ Tryz.call85 rE rJ (lkLenA gl w.keys _) ?_
 rintro _ _ ⟨rfl,rfl⟩
 have e:w.keys.length=w.fl.length:=List.length_map ..
 rw [e]
 (refine rn ?_;intros)
 (refine fr ?_)
 exact ⟨_,Sub.trans (WldA.cls ov hgl M) rP,rfl,rfl⟩
end
section
theorem htake_may {k:Nat} {c:Cfg} {st:HSt} (ok:HOk k c st) (hk:k≤198) {f:Rcd×Int} (hf:f.2=0→f.1.FMay) (h0:(st.take c f).2.2.2=0) (h1:0≤(st.take c f).2.1):(st.take c f).2.2.1.FMay:=by
 unfold HSt.take at h0 h1 ⊢
 by_cases hu:st.up=false
 ·rw [if_pos hu] at h0;cases h0
 rw [if_neg hu] at h0 h1 ⊢
 have hu:st.up=true:=by cases h:st.up with
  | true=>rfl
  | false=>exact absurd h hu
 have hpo:=ok.post
 rw [(ok.up hu).2] at hpo
 by_cases he:f.2≠0
 ·rw [if_pos he] at h0;exact absurd h0 he
 rw [if_neg he] at h0 h1 ⊢
 have hm:=hf (by simpa using he)
 have hr5:=hm.r
 have hm20:=hm.m
 by_cases hn:c.n≤f.1.r
 ·rw [if_pos hn] at h0;cases h0
 rw [if_neg hn] at h0 h1 ⊢
 by_cases k1:f.1.kind=1
 ·rw [if_pos k1] at h0 h1 ⊢
  have hb:=push_bd hpo c.w f.1.r f.1.l
  unfold HSt.push at h0 h1 ⊢
  split at h0
  ·rename_i h;exact absurd h0 h
  ·rename_i h
   rw [if_neg h] at h1 ⊢
   split at h0
   ·rename_i h3;rw [if_pos h3];exact pushed_may hr5 rM
   ·rename_i h3
    rw [if_neg h3] at h1 ⊢
    split at h0
    ·cases h0
    ·rename_i h4;rw [if_neg h4];exact pushed_may hr5 rM
 rw [if_neg k1] at h0 h1 ⊢
 by_cases k3:f.1.kind=3
 ·rw [if_pos k3] at h0 h1 ⊢
  have hb:=fetch_bd hpo ok.cm f.1.r f.1.c
  unfold HSt.fetch at h0 h1 ⊢
  split at h0
  ·rename_i h;exact absurd h0 h
  ·rename_i h;simp only [if_neg h];exact evs_may hr5 hb.1 hb.2
 rw [if_neg k3] at h0 h1 ⊢
 by_cases k5:f.1.kind=5
 ·rw [if_pos k5] at h1;exact absurd h1 (by simp)
 ·rw [if_neg k5] at h0;cases h0
attribute [local irreducible] Star NodeA HubA LkA nodesA
theorem wsend_F (F:FuncId) (p:Rcd×Int) (gw gh gl gn:Nat) (c:Cfg) (r:Int) (st:NSt) (vs:Value) (fl:List Fk) (M:List Assn) (hrun:∀ (xs:Array Value) (w:World),(callFunc F xs).run Tryz.prog w=.ok (.enter F xs) w)
  (hF:∀ M,Fn Tryz.prog F #[ptrV gn] (NodeA gn c r st::M) fun v L'=>∃ u,u.oneCell'=true∧v=.tuple #[u,.int .i64 p.2]∧L'=Bys u (frB p)::NodeA gn c r st::M)
  (hfl:fl.length≤1000000) (hb:p.2=0→p.1.fbytes.length≤1000000) :
  Fn Tryz.prog 41 #[ptrV gw,.func (.func F) #[ptrV gn] #[]] (NodeA gn c r st::WdB gw gh gl vs::LkA gl fl::M)
   fun v L'=>v=.int .i64 p.2∧L'=NodeA gn c r st::WdB gw gh gl vs::LkA gl (if p.2=0 then fl++[(5,p.1.fbytes)] else fl)::M:=by
 refine Fn.of_ex Tryz.func41 rfl Tryz.ntmps41 rfl ?_
 (refine rn ?_;intros)
 refine st_callV [] (xs:=[]) (fs:=[ptrV gn]) (vs:=[]) rJ rJ hrun rE rJ (hF _) ?_
 rintro _ _ ⟨u,ou,rfl,rfl⟩
 by_cases he:p.2=0
 ·have hf:frB p=p.1.fbytes:=by unfold frB;rw [if_pos he]
  have hb2:=hb he
  rw [if_pos he,he,hf]
  (refine rn ?_;intros)
  refine st_callIs [3] rJ Tryz.call107 rE rJ (lkSendA gl 5 u p.1.fbytes fl _ rD rM rM) ?_
  rintro _ _ rfl
  exact re1
 ·rw [if_neg he]
  exact re1
theorem warrive_F {k:Nat} (gw gh gl:Nat) (vs:Value) (gs:List Ptr) (c:Cfg) (w:WSt) (to:Int) (u:Value) (b:List UInt8) (M:List Assn) (ok:WOk k c w) (hk:k≤198) (ov:vs.oneCell'=true) (hgl:gs.length=w.nodes.length)
  (hr:RdT M u b) (ou:u.oneCell'=true) (hb:b.length≤1000000) :
  Fn Tryz.prog 96 #[ptrV gw,.agg [.int .i64 to,u].toArray] (wdO gw gh gl vs gs c w M)
   fun v L'=>v=.int .i64 (w.arrive c to (frTake b)).2∧L'=WldA gw c (w.arrive c to (frTake b)).1::M:=by
 have hn5:=ok.n5
 refine Fn.of_ex Tryz.func96 rfl Tryz.ntmps96 rfl ?_
 (refine rn ?_;(repeat (first | intro (g:Nat) | intro h)))
 revert g
 intro g3
 refine st_callIs [2,2] rJ Tryz.call39 rE rJ (whas_F gw gh gl vs gs c w to _ hgl hn5.1) ?_
 rintro _ _ ⟨rfl,rfl⟩
 by_cases hh:w.has to
 ·have e:w.arrive c to (frTake b)=(w.upd to ((w.node to).takeC c to (frTake b)).1,((w.node to).takeC c to (frTake b)).2):=by unfold WSt.arrive;rw [if_pos hh]
  rw [e,decide_eq_true hh]
  have hr1:=hh.1
  have hr2:=hh.2
  have hr3:to<gs.length:=by omega
  (refine rn ?_;intros)
  refine Ex.sub (L':=NodeA (gs.getD to.toNat ⟨0⟩).g c to (w.node to)::WdB gw gh gl vs::Nds vs gs::Blk g3 47 [.int .i64 to,u]::nodesBut c gs w to::HubA gh c w.hub::LkA gl w.keys::M) ?_ (Sub.trans (B:=NodeA (gs.getD to.toNat ⟨0⟩).g c to (w.node to)::wdR gw gh gl vs gs c w to (Blk g3 47 [.int .i64 to,u]::M)) rP (Sub.trans (wd_open hh _) rP))
  (refine Ex.mixA 11 (_::_::_::_::_::_::M) rfl rQ rF ?_;(refine mn ?_;intros))
  rw [← gs_get rM]
  (repeat' (first | (refine m1 ?_;intros) | (refine mx_gsplit rJ rJ rJ (fun h=>?_) (fun h=>?_) <;> try (exfalso;omega))))
  (refine mx_act rJ rJ rJ ?_;refine st_callIs [] rJ Tryz.call67 rE rJ (nTakeA (k:=k) _ c to (w.node to) u b _ (ok.node hh) hk (hr.sub rP) ou hb) ?_)
  rintro _ _ ⟨rfl,rfl⟩
  (refine mw ?_;intros)
  (refine rn ?_;intros)
  (refine fr ?_)
  exact ⟨_,Sub.trans (wd_shut hh _ ov hgl M) rP,rfl,rfl⟩
 ·rw [decide_eq_false hh]
  (refine rn ?_;intros)
  refine Ex.sub (L':=HubA gh c w.hub::WdB gw gh gl vs::Blk g3 47 [.int .i64 to,u]::Nds vs gs::Star (nodesA c gs w.nodes)::LkA gl w.keys::M) ?_ rP
  (refine Ex.mixA 13 (_::_::_::_::_::M) rfl rQ rF ?_;(refine mn ?_;intros))
  (refine mx_act rJ rJ rJ ?_;refine st_callIs [] rJ Tryz.call66 rE rJ (hTakeA (k:=k) gh c w.hub u b _ ok.hub hk (hr.sub rP) ou hb) ?_)
  rintro _ _ ⟨u2,ou2,rfl,rfl⟩
  (refine mw ?_;intros)
  (repeat' (first | (refine m1 ?_;intros) | (refine mx_gsplit rJ rJ rJ (fun h=>?_) (fun h=>?_) <;> try (exfalso;omega))))
  have hkeys:w.keys.length=w.fl.length:=List.length_map ..
  have hfl:=ok.fl.1
  have hmay:=htake_may ok.hub hk (f:=frTake b) (fun h=>(frTake_may h).1)
  obtain ⟨⟨h2,t2,p2,e2⟩,hq⟩:∃ q,w.hub.take c (frTake b)=q:=⟨_,rfl⟩
  have e:w.arrive c to (frTake b)=(if e2=0∧w.has t2 then { w with hub:=h2,fl:=w.fl++[(t2,p2)] } else { w with hub:=h2 },e2):=by unfold WSt.arrive;rw [if_neg hh,hq]
  rw [e]
  rw [hq] at hmay ⊢
  simp only at hmay ⊢
  by_cases he:e2=0
  ·subst he
   (refine rn ?_;intros)
   refine st_callIs [3,4] rJ Tryz.call39 rE rJ (whas_F gw gh gl vs gs c w t2 _ hgl hn5.1) ?_
   rintro _ _ ⟨rfl,rfl⟩
   by_cases hh2:w.has t2
   ·have ht2:=hh2.1
    have hfm:=hmay rfl ht2
    have hbl:=p2.fbytes_len hfm
    have hf:hfB (t2,(p2,0))=p2.fbytes:=by unfold hfB;rw [if_neg (by simp only;omega)];rfl
    rw [decide_eq_true hh2,if_pos ⟨rfl,hh2⟩,hf]
    (refine rn ?_;intros)
    refine st_callIs [6] rJ Tryz.call107 rE rJ (lkSendA gl t2 u2 p2.fbytes w.keys _ rD rM rM) ?_
    rintro _ _ rfl
    have hks:w.keys++[(t2,p2.fbytes)]=({ w with hub:=h2,fl:=w.fl++[(t2,p2)] }:WSt).keys:=by unfold WSt.keys;rw [List.map_append];rfl
    rw [hks]
    (refine rn ?_;intros)
    (refine fr ?_)
    exact ⟨_,Sub.trans (WldA.cls (w:={ w with hub:=h2,fl:=w.fl++[(t2,p2)] }) (gh:=gh) (gl:=gl) ov hgl M) rP,rfl,rfl⟩
   ·rw [decide_eq_false hh2,if_neg (fun h=>hh2 h.2)]
    (refine rn ?_;intros)
    (refine fr ?_)
    exact ⟨_,Sub.trans (WldA.cls (w:={ w with hub:=h2 }) (gh:=gh) (gl:=gl) ov hgl M) rP,rfl,rfl⟩
  ·rw [if_neg (fun h=>he h.1)]
   (refine rn ?_;intros)
   (refine fr ?_)
   exact ⟨_,Sub.trans (WldA.cls (w:={ w with hub:=h2 }) (gh:=gh) (gl:=gl) ov hgl M) rP,rfl,rfl⟩
end
end
section
section
variable {P:Program} {n:Nat} {ops:Array Oper} {Q:Post} {f:Nat→Value} {L:List Assn} {rest:List Oper} {d:Nat} {ty:TypeId} {pos:String} {af:Array Edge} {gd:Option (Nat×Bool)}
theorem vl_makeIface {t e:TypeId} {x:Operand} {v:Value} (hx:evalF f x=v) (hu:P.underlying t=some (.pointer e)):Val P ⟨some d,.makeInterface t x,ty,pos,af,gd⟩ f L (.iface t v):=fun F w s=>by
 subst hx
 simp [execOp,Instr.makeInterface,run_underlying hu]
theorem st_invoke (is:List Nat) {dd:Option Nat} {x:Operand} {name:String} {xs:List Operand} {t:TypeId} {v:Value} {vs:List Value} {ts:Array TypeId} {fn:FuncId} {L1:List Assn} {R:Value→List Assn→Prop} (hd:dstOk n dd=true) (hx:evalF f x=.iface t v)
  (hm:∀ w:World,(callMethod (.iface t v) name vs.toArray).run P w=.ok (.enter fn (v::vs).toArray) w) (hl:fronts is L=L1) (ha:xs.map (evalF f)=vs) (hf:Fn P fn (v::vs).toArray L1 R) (h:∀ v L',R v L'→ExL P n ops rest Q (updo f dd v) L') :
  ExL P n ops (⟨dd,.call ⟨.invoke x name,xs.toArray,ts⟩,ty,pos,af,none⟩::rest) Q f L:=by
 have hf:=hf.sub (L:=L) (by subst hl;exact fronts_sub is L)
 intro D F w0 f0 ws a w H hc
 refine wpList_plain rfl fun K hK=>?_
 have hx2:(execOp a.eval ⟨dd,.call ⟨.invoke x name,xs.toArray,ts⟩,ty,pos,af,none⟩).run P w=.ok (.enter fn (v::vs).toArray) w:=by
  rw [H.2.1.eval]
  subst ha
  have e:List.take xs.length (xs.map (evalF f))=xs.map (evalF f):=List.take_of_length_le (by simp)
  unfold execOp
  simpa [resolve,invoke,hx,e] using hm w
 unfold Oper.wp
 rw [hx2]
 show Calls P fn _ w _
 refine (hf F w0 w H.1 H.2.2.1).mono ?_
 rintro e w' ⟨v,L',rfl,hr,hs,hR⟩
 have hp:Here D n F w0 f0 ws (a.put dd v) w' (updo f dd v) L':=by
  have:=Here.puto (w':=w) H (Rest.refl w) H.2.2.1 hd (fun t ht=>hc t (mem_writesL (o:=⟨dd,.call ⟨.invoke x name,xs.toArray,ts⟩,ty,pos,af,none⟩) (t:=0) ht)) v
  exact ⟨hr,this.2.1,hs,this.2.2.2⟩
 exact hK _ _ (h v L' hR D F w0 f0 ws _ _ hp fun d hd=>hc d (mem_writesL' hd))
end
theorem meth_nCrash (v : Value) (w : World) : (callMethod (.iface 116 v) "Crash" #[]).run Tryz.prog w = .ok (.enter 60 #[v]) w := by kernel_rfl
theorem meth_nStart (v : Value) (w : World) : (callMethod (.iface 116 v) "Start" #[]).run Tryz.prog w = .ok (.enter 61 #[v]) w := by kernel_rfl
theorem meth_nCut (v u : Value) (w : World) : (callMethod (.iface 116 v) "Cut" #[u]).run Tryz.prog w = .ok (.enter 370 #[v, u]) w := by kernel_rfl
theorem meth_hCrash (v : Value) (w : World) : (callMethod (.iface 111 v) "Crash" #[]).run Tryz.prog w = .ok (.enter 62 #[v]) w := by kernel_rfl
theorem meth_hStart (v : Value) (w : World) : (callMethod (.iface 111 v) "Start" #[]).run Tryz.prog w = .ok (.enter 63 #[v]) w := by kernel_rfl
theorem meth_hCut (v u : Value) (w : World) : (callMethod (.iface 111 v) "Cut" #[u]).run Tryz.prog w = .ok (.enter 368 #[v, u]) w := by kernel_rfl
end
section
structure Stp.Ok (s:Stp):Prop where
 bit:I64 s.bit
 mask:0≤s.mask∧s.mask<4294967296
 key:s.ed.key.length≤1000
 value:s.ed.value.length≤1000
theorem keys_len {k:Nat} {c:Cfg} {w:WSt} (ok:WOk k c w):w.keys.length=w.fl.length∧(∀ x∈w.keys,x.2.length≤1310)∧w.fl.length≤2 * k:=by
 refine ⟨List.length_map ..,fun x hx=>?_,ok.fl.1⟩
 obtain ⟨y,hy,rfl⟩:=List.mem_map.1 hx
 exact y.2.fbytes_len (ok.fl.2 y hy)
theorem burst_take {x:Rcd} (hm:x.FMay) (bit mask:Int):frTake (burstB x.fbytes (bit % (8 * x.fbytes.length)).toNat mask.toNat)=burstF x bit mask:=by
 unfold burstF
 split
 ·rename_i h
  rw [h,frTake_fbytes x hm]
 ·rename_i h
  have hl:=x.fbytes_len hm
  have h0:crcOpen x.fbytes≠none:=by
   unfold Rcd.fbytes
   rw [crcOpen_seal]
   simp
  have hp:0<x.fbytes.length:=by
   unfold Rcd.fbytes
   rw [crcSeal_len]
   omega
  have hk:(bit % (8 * x.fbytes.length)).toNat<8 * x.fbytes.length:=by
   have h1:=Int.emod_nonneg bit (show (8 * (x.fbytes.length:Int))≠0 by omega)
   have h2:=Int.emod_lt_of_pos bit (show 0<(8 * (x.fbytes.length:Int)) by omega)
   omega
  have hn:=crc_burst (mask:=mask.toNat) hk h0 h
  unfold frTake
  rw [if_neg (by rw [burstN_len];omega),hn]
theorem tkA_sub {α:Type} {l:List α} {i:Int} {x:α} (h:x∈tkA l i):x∈l:=by
 unfold tkA at h
 split at h
 ·rcases List.mem_append.1 h with h | h
  ·exact List.mem_of_mem_take h
  ·exact List.mem_of_mem_drop h
 ·exact h
theorem tkA_len {α:Type} (l:List α) (i:Int):(tkA l i).length≤l.length:=by
 unfold tkA
 split
 ·simp;omega
 ·exact Nat.le_refl _
theorem tkA_map {α β:Type} (f:α→β) (l:List α) (i:Int):(tkA l i).map f=tkA (l.map f) i:=by
 unfold tkA
 rw [List.length_map]
 split
 ·rw [List.map_append,List.map_take,List.map_drop]
 ·rfl
theorem WOk.tk {k:Nat} {c:Cfg} {w:WSt} (ok:WOk k c w) (i:Int):WOk k c { w with fl:=tkA w.fl i } :=
 ⟨ok.n,ok.nd,ok.hub,by have:=ok.fl.1;have:=tkA_len w.fl i;show (tkA w.fl i).length≤2 * k;omega,fun x hx=>ok.fl.2 x (tkA_sub hx)⟩
theorem cpK_in {w:WSt} {i:Int} (h:0≤i∧i<w.fl.length):cpK w.keys i=((w.fl.getD i.toNat (0,Rcd.zero)).1,(w.fl.getD i.toNat (0,Rcd.zero)).2.fbytes,0):=by
 have hl:w.keys.length=w.fl.length:=List.length_map ..
 have hi:i.toNat<w.fl.length:=by omega
 unfold cpK
 rw [if_pos (by rw [hl];exact h)]
 unfold WSt.keys
 simp [List.getD_eq_getElem?_getD,hi]
theorem cpK_out {w:WSt} {i:Int} (h:¬ (0≤i∧i<w.fl.length)):cpK w.keys i=(0,[],24):=by
 have hl:w.keys.length=w.fl.length:=List.length_map ..
 unfold cpK
 rw [if_neg (by rw [hl];exact h)]
theorem fl_may {k:Nat} {c:Cfg} {w:WSt} (ok:WOk k c w) {i:Int} (h:0≤i∧i<w.fl.length):(w.fl.getD i.toNat (0,Rcd.zero)).2.FMay:=by
 have hi:i.toNat<w.fl.length:=by omega
 rw [show w.fl.getD i.toNat (0,Rcd.zero)=w.fl[i.toNat]'hi by simp [List.getD_eq_getElem?_getD,hi]]
 exact ok.fl.2 _ (List.getElem_mem hi)
set_option maxRecDepth 20000 attribute [local irreducible] Ex ExL Fn thn inb rnd fin meet Tab Mix mxEnd Val Sats RdT Rd RowT Row Blk Sub Fac ResV RVal Evs subs subs3 Hid Capd
section
attribute [local irreducible] Star NodeA HubA LkA nodesA
theorem wflight_F {k:Nat} (gw gh gl:Nat) (vs:Value) (gs:List Ptr) (c:Cfg) (w:WSt) (s:Stp) (M:List Assn) (ok:WOk k c w) (hk:k≤198) (hs:s.Ok) (ov:vs.oneCell'=true) (hgl:gs.length=w.nodes.length) :
  Fn Tryz.prog 37 #[ptrV gw,.agg (Rep.cells s).toArray] (wdO gw gh gl vs gs c w M)
   fun v L'=>v=.int .i64 (w.flight c s).2∧L'=WldA gw c (w.flight c s).1::M:=by
 obtain ⟨hkl,hkb,hfl⟩:=keys_len ok
 have hkb2:∀ x∈w.keys,x.2.length≤140737488355328:=fun x hx=>by have:=hkb x hx;omega
 have hmask:=hs.mask
 obtain ⟨mk,hmk⟩:∃ mk:Nat,s.mask=mk:=⟨s.mask.toNat,by omega⟩
 by_cases h5:s.kind=5
 ·refine Fn.of_ex Tryz.func37 rfl Tryz.ntmps37 rfl ?_
  unfold ptrV
  (refine rn ?_;intros)
  refine st_callV [5] (xs:=[.tmp 29]) (fs:=[ptrV gl]) (vs:=[.int .i64 s.at_]) rJ rJ Tryz.call94 rE rJ (lkCopyA gl s.at_ w.keys _ hkb2) ?_
  rintro _ _ ⟨u,ou,rfl,rfl⟩
  by_cases hin:0≤s.at_∧s.at_<w.fl.length
  ·have hfm:=fl_may ok hin
   have hfb:=Rcd.fbytes_len _ hfm
   rw [cpK_in hin]
   have e:w.flight c s=w.arrive c (w.fl.getD s.at_.toNat (0,Rcd.zero)).1 ((w.fl.getD s.at_.toNat (0,Rcd.zero)).2,0):=by
    unfold WSt.flight;rw [if_pos hin];simp only [if_pos h5];rw [if_neg rM,if_neg rM]
   rw [e]
   generalize w.fl.getD s.at_.toNat (0,Rcd.zero)=x at *
   (refine rn ?_;intros)
   refine ExL.sub (L':=wdO gw gh gl vs gs c w (By u x.2.fbytes::M)) ?_ rP
   refine st_callIs [] rJ Tryz.call96 rE rJ (warrive_F (k:=k) gw gh gl vs gs c w x.1 u x.2.fbytes (By u x.2.fbytes::M) ok hk ov hgl (RdT.row 0 rfl) ou rM) ?_
   rw [frTake_fbytes x.2 hfm]
   rintro _ _ ⟨rfl,rfl⟩
   exact re1
  ·rw [cpK_out hin]
   have e:w.flight c s=(w,24):=by unfold WSt.flight;rw [if_neg hin]
   rw [e]
   (refine rn ?_;intros)
   (refine fr ?_)
   exact ⟨_,Sub.trans (WldA.cls ov hgl M) rP,rfl,rfl⟩
 ·refine Fn.of_ex Tryz.func37 rfl Tryz.ntmps37 rfl ?_
  unfold ptrV
  (refine rn ?_;intros)
  refine st_callV [5] (xs:=[.tmp 29]) (fs:=[ptrV gl]) (vs:=[.int .i64 s.at_]) rJ rJ Tryz.call93 rE rJ (lkTakeA gl s.at_ w.keys _ hkb2 rM) ?_
  rintro _ _ ⟨u,ou,rfl,rfl⟩
  by_cases hin:0≤s.at_∧s.at_<w.fl.length
  ·have hfm:=fl_may ok hin
   have hfb:=Rcd.fbytes_len _ hfm
   rw [cpK_in hin]
   obtain ⟨w2,hw2⟩:∃ w2:WSt,w2={ w with fl:=tkA w.fl s.at_ }:=⟨_,rfl⟩
   have ok2:WOk k c w2:=by rw [hw2];exact ok.tk s.at_
   have hk2:tkA w.keys s.at_=w2.keys:=by rw [hw2];exact (tkA_map _ _ _).symm
   have hgl2:gs.length=w2.nodes.length:=by rw [hw2];exact hgl
   have hlay:∀ N,wdO gw gh gl vs gs c w2 N=WdB gw gh gl vs::Nds vs gs::Star (nodesA c gs w.nodes)::HubA gh c w.hub::LkA gl w2.keys::N:=fun N=>by rw [hw2]
   have e:w.flight c s=if s.kind=6 then (w2,0) else w2.arrive c (w.fl.getD s.at_.toNat (0,Rcd.zero)).1 (if s.kind=7 then burstF (w.fl.getD s.at_.toNat (0,Rcd.zero)).2 s.bit s.mask else ((w.fl.getD s.at_.toNat (0,Rcd.zero)).2,0)):=by
    unfold WSt.flight;rw [if_pos hin];simp only [if_neg h5];rw [← hw2]
   rw [e,hk2]
   have hbu:=burst_take hfm s.bit s.mask
   generalize w.fl.getD s.at_.toNat (0,Rcd.zero)=x at *
   by_cases h6:s.kind=6
   ·rw [if_pos h6]
    (refine rn ?_;intros)
    (refine fr ?_)
    refine ⟨_,Sub.trans (WldA.cls (gh:=gh) (gl:=gl) (vs:=vs) ov hgl2 M) ?_,rfl,rfl⟩
    rw [hlay]
    exact rP
   ·rw [if_neg h6]
    by_cases h7:s.kind=7
    ·rw [if_pos h7]
     have hbu2:frTake (burstB x.2.fbytes (s.bit % (8 * x.2.fbytes.length)).toNat mk)=burstF x.2 s.bit s.mask:=by rw [← hbu,hmk,Int.toNat_natCast]
     clear hbu
     have hkk:(((s.bit % (8 * x.2.fbytes.length)).toNat:Nat):Int)=s.bit % (8 * x.2.fbytes.length):=by
      have hp:0<x.2.fbytes.length:=by unfold Rcd.fbytes;rw [crcSeal_len];omega
      have h1:=Int.emod_nonneg s.bit (show (8 * (x.2.fbytes.length:Int))≠0 by omega)
      omega
     (refine rn ?_;intros)
     rw [hmk]
     refine st_callIs [] rJ Tryz.call95 rJ rJ (link_Burst u x.2.fbytes s.bit (s.bit % (8 * x.2.fbytes.length)).toNat mk _ (RdT.row 1 rfl) rM rM hs.bit (fun _=>hkk)) ?_
     rintro ub _ ⟨oub,rfl⟩
     obtain ⟨bb,hbb⟩:∃ bb,bb=burstB x.2.fbytes (s.bit % (8 * x.2.fbytes.length)).toNat mk:=⟨_,rfl⟩
     have hbbl:bb.length=x.2.fbytes.length:=by rw [hbb];exact burstN_len _ _ _ _
     rw [← hbb] at hbu2 ⊢
     rw [hmk] at hbu2
     clear hbb
     (refine rn ?_;intros)
     refine ExL.sub (L':=wdO gw gh gl vs gs c w2 (By ub bb::M)) ?_ (by rw [hlay];exact rP)
     refine st_callIs [] rJ Tryz.call96 rE rJ (warrive_F (k:=k) gw gh gl vs gs c w2 x.1 ub bb (By ub bb::M) ok2 hk ov hgl2 (RdT.row 0 rfl) oub rM) ?_
     rw [hbu2]
     rintro _ _ ⟨rfl,rfl⟩
     exact re1
    ·rw [if_neg h7]
     (refine rn ?_;intros)
     refine ExL.sub (L':=wdO gw gh gl vs gs c w2 (By u x.2.fbytes::M)) ?_ (by rw [hlay];exact rP)
     refine st_callIs [] rJ Tryz.call96 rE rJ (warrive_F (k:=k) gw gh gl vs gs c w2 x.1 u x.2.fbytes (By u x.2.fbytes::M) ok2 hk ov hgl2 (RdT.row 0 rfl) ou rM) ?_
     rw [frTake_fbytes x.2 hfm]
     rintro _ _ ⟨rfl,rfl⟩
     exact re1
  ·rw [cpK_out hin]
   have e:w.flight c s=(w,24):=by unfold WSt.flight;rw [if_neg hin]
   have hk2:tkA w.keys s.at_=w.keys:=by unfold tkA;rw [if_neg (by rw [hkl];exact hin)]
   rw [e,hk2]
   (refine rn ?_;intros)
   (refine fr ?_)
   exact ⟨_,Sub.trans (WldA.cls ov hgl M) rP,rfl,rfl⟩
end
end
section
theorem vl_some_ne {P:Program} {f:Nat→Value} {L:List Assn} {d:Nat} {ty:TypeId} {pos:String} {af:Array Edge} {gd:Option (Nat×Bool)} {xt yt e:TypeId} {x y:Operand} {a:Addr} (hx:evalF f x=.pointer (some a)) (hy:evalF f y=.pointer none) (hu:P.underlying xt=some (.pointer e)):Val P ⟨some d,.binOp .neq xt x y yt,ty,pos,af,gd⟩ f L (.bool true):=vl_eqv hx hy (fun w=>by simp [eqGuard]) (fun w=>by
  have h1:(Op.equal xt (.pointer (some a)) (.pointer none)).run P w=.ok false w:=by
   show (Op.equalIn (9999+1) xt (.pointer (some a)) (.pointer none)).run P w=_
   rw [Op.equalIn]
   simp [run_underlying hu]
  simp only [binOp,Sem.run_bind,h1,Result.andThen_ok,Sem.run_pure]
  rfl)
set_option maxRecDepth 20000 attribute [local irreducible] Ex ExL Fn thn inb rnd fin meet Tab Mix mxEnd Val Sats RdT Rd RowT Row Blk Sub Fac ResV RVal Evs subs subs3 Hid Capd
section
attribute [local irreducible] Star NodeA HubA LkA nodesA
theorem wpower_F {k:Nat} (gw gh gl:Nat) (vs:Value) (gs:List Ptr) (c:Cfg) (w:WSt) (s:Stp) (M:List Assn) (ok:WOk k c w) (hk:k≤198) (hkd:s.kind=8∨s.kind=9∨s.kind=10) (ov:vs.oneCell'=true) (hgl:gs.length=w.nodes.length) :
  Fn Tryz.prog 38 #[ptrV gw,.agg (Rep.cells s).toArray] (wdO gw gh gl vs gs c w M)
   fun v L'=>v=.int .i64 (w.power c s).2∧L'=WldA gw c (w.power c s).1::M:=by
 have hn5:=ok.n5
 by_cases hh:w.has s.r
 ·have hr1:=hh.1
  have hr2:=hh.2
  have hr3:s.r<gs.length:=by omega
  refine Fn.of_ex Tryz.func38 rfl Tryz.ntmps38 rfl ?_
  (refine rn ?_;(repeat (first | intro (g:Nat) | intro h)))
  revert g
  intro g3
  refine st_callIs [2,2] rJ Tryz.call39 rE rJ (whas_F gw gh gl vs gs c w s.r _ hgl hn5.1) ?_
  rintro _ _ ⟨rfl,rfl⟩
  rw [decide_eq_true hh]
  (refine rn ?_;(repeat (first | intro (g:Nat) | intro h)))
  (refine mu9 ?_;(repeat (first | intro (g:Nat) | intro h)))
  rw [← gs_get rM]
  refine mx_val rJ rJ rJ (vl_makeIface rJ rJ) ?_
  (refine mn ?_;(repeat (first | intro (g:Nat) | intro h)))
  rcases hkd with hkd | hkd | hkd
  ·have e:w.power c s=(w.upd s.r (w.node s.r).crash,0):=by unfold WSt.power;rw [if_pos hh,if_pos hkd]
   rw [e]
   (refine rn ?_;(repeat (first | intro (g:Nat) | intro h)))
   refine ExL.sub (L':=NodeA (gs.getD s.r.toNat ⟨0⟩).g c s.r (w.node s.r)::wdR gw gh gl vs gs c w s.r M) ?_ (Sub.trans (wd_open hh _) rP)
   refine st_invoke [] (xs:=[]) (vs:=[]) rJ rJ (meth_nCrash _) rE rJ (nCrashA _ c s.r (w.node s.r) _) ?_
   rintro _ _ rfl
   (refine rn ?_;(repeat (first | intro (g:Nat) | intro h)))
   (refine fr ?_)
   exact ⟨_,wd_shut hh _ ov hgl M,rfl,rfl⟩
  ·have e:w.power c s=(w.upd s.r ((w.node s.r).start c s.r).1,((w.node s.r).start c s.r).2):=by unfold WSt.power;rw [if_pos hh,if_neg rM,if_pos hkd]
   rw [e]
   (refine rn ?_;(repeat (first | intro (g:Nat) | intro h)))
   refine ExL.sub (L':=NodeA (gs.getD s.r.toNat ⟨0⟩).g c s.r (w.node s.r)::wdR gw gh gl vs gs c w s.r M) ?_ (Sub.trans (wd_open hh _) rP)
   refine st_invoke [] (xs:=[]) (vs:=[]) rJ rJ (meth_nStart _) rE rJ (nStartA (k:=k) _ c s.r (w.node s.r) _ (ok.node hh) rM) ?_
   rintro _ _ ⟨rfl,rfl⟩
   (refine rn ?_;(repeat (first | intro (g:Nat) | intro h)))
   (refine fr ?_)
   exact ⟨_,wd_shut hh _ ov hgl M,rfl,rfl⟩
  ·have e:w.power c s=(w.upd s.r ((w.node s.r).cut s.keep),0):=by unfold WSt.power;rw [if_pos hh,if_neg rM,if_neg rM]
   rw [e]
   (refine rn ?_;(repeat (first | intro (g:Nat) | intro h)))
   refine ExL.sub (L':=NodeA (gs.getD s.r.toNat ⟨0⟩).g c s.r (w.node s.r)::wdR gw gh gl vs gs c w s.r M) ?_ (Sub.trans (wd_open hh _) rP)
   refine st_invoke [] (xs:=[.tmp 50]) (vs:=[.int .i64 s.keep]) rJ rJ (meth_nCut _ _) rE rJ (nCutA _ c s.r (w.node s.r) s.keep _) ?_
   rintro _ _ rfl
   (refine rn ?_;(repeat (first | intro (g:Nat) | intro h)))
   (refine fr ?_)
   exact ⟨_,wd_shut hh _ ov hgl M,rfl,rfl⟩
 ·refine Fn.of_ex Tryz.func38 rfl Tryz.ntmps38 rfl ?_
  unfold ptrV
  (refine rn ?_;(repeat (first | intro (g:Nat) | intro h)))
  revert g
  intro g3
  refine st_callIs [2,2] rJ Tryz.call39 rE rJ (whas_F gw gh gl vs gs c w s.r _ hgl hn5.1) ?_
  rintro _ _ ⟨rfl,rfl⟩
  rw [decide_eq_false hh]
  by_cases h5:s.r=5
  ·(refine rn ?_;intros)
   refine ExL.val rJ rJ rJ (vl_some_ne rJ rJ rJ) ?_
   (refine rn ?_;intros)
   refine ExL.val rJ rJ rJ (vl_makeIface rJ rJ) ?_
   rcases hkd with hkd | hkd | hkd
   ·have e:w.power c s=({ w with hub:=w.hub.crash },0):=by unfold WSt.power;rw [if_neg hh,if_pos h5,if_pos hkd]
    rw [e]
    (refine rn ?_;intros)
    refine st_invoke [4] (xs:=[]) (vs:=[]) rJ rJ (meth_hCrash _) rE rJ (hCrashA gh c w.hub _) ?_
    rintro _ _ rfl
    (refine rn ?_;intros)
    (refine fr ?_)
    exact ⟨_,Sub.trans (WldA.cls (w:={ w with hub:=w.hub.crash }) (gh:=gh) (gl:=gl) ov hgl M) rP,rfl,rfl⟩
   ·have e:w.power c s=({ w with hub:=(w.hub.start c).1 },(w.hub.start c).2):=by unfold WSt.power;rw [if_neg hh,if_pos h5,if_neg rM,if_pos hkd]
    rw [e]
    (refine rn ?_;intros)
    refine st_invoke [4] (xs:=[]) (vs:=[]) rJ rJ (meth_hStart _) rE rJ (hStartA (k:=k) gh c w.hub _ ok.hub rM) ?_
    rintro _ _ ⟨rfl,rfl⟩
    (refine rn ?_;intros)
    (refine fr ?_)
    exact ⟨_,Sub.trans (WldA.cls (w:={ w with hub:=(w.hub.start c).1 }) (gh:=gh) (gl:=gl) ov hgl M) rP,rfl,rfl⟩
   ·have e:w.power c s=({ w with hub:=w.hub.cut s.keep },0):=by unfold WSt.power;rw [if_neg hh,if_pos h5,if_neg rM,if_neg rM]
    rw [e]
    (refine rn ?_;intros)
    refine st_invoke [4] (xs:=[.tmp 50]) (vs:=[.int .i64 s.keep]) rJ rJ (meth_hCut _ _) rE rJ (hCutA gh c w.hub s.keep _) ?_
    rintro _ _ rfl
    (refine rn ?_;intros)
    (refine fr ?_)
    exact ⟨_,Sub.trans (WldA.cls (w:={ w with hub:=w.hub.cut s.keep }) (gh:=gh) (gl:=gl) ov hgl M) rP,rfl,rfl⟩
  ·have e:w.power c s=(w,1):=by unfold WSt.power;rw [if_neg hh,if_neg h5]
   rw [e]
   (refine rn ?_;intros)
   (refine fr ?_)
   exact ⟨_,Sub.trans (WldA.cls ov hgl M) rP,rfl,rfl⟩
end
end
end Go.Proofs.YtogcfijlhpaeeaaGreat
