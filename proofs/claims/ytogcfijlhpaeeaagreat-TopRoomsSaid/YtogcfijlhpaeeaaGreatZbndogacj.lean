/- Texts, one behind the other. No condition. -/
import Derived.Test.YtogcfijlhpaeeaaGreatZcdhpjgdh
import Derived.Test.YtogcfijlhpaeeaaGreatZehjcikgl
import Derived.Test.YtogcfijlhpaeeaaGreatZmljpkidb
import Derived.Test.YtogcfijlhpaeeaaGreatZmnaoofmf
open Go.RowKit
set_option linter.unusedSimpArgs false
set_option linter.unusedVariables false
set_option linter.unusedSectionVars false
set_option maxHeartbeats 32000000
namespace Go.Proofs.YtogcfijlhpaeeaaGreat
section
def plX (gw g7 g3:Nat) (v1:Value) (c:Cfg) (w:WSt) (l:List Stp) (xs:List Int):Assn:=Star [WldA gw c (w.after c l xs.length),Blk g7 32 [ptrV gw],Blk g3 24 [v1],RowT v1 29 l]
theorem plX_eq (gw g7 g3:Nat) (v1:Value) (c:Cfg) (w:WSt) (l:List Stp) (xs:List Int):plX gw g7 g3 v1 c w l xs=Star [WldA gw c (w.after c l xs.length),Blk g7 32 [ptrV gw],Blk g3 24 [v1],RowT v1 29 l]:=rfl
structure Lst where
 v:Value
 o:v.oneCell'=true
 cs:List Ct
def Lst.sv (l:Lst):Sv:=⟨l.v,l.o⟩
def Lst.own (l:Lst):Assn:=Two (Cts_ l.v l.cs) (Star (l.cs.map Ct.own))
def seX (gw g9:Nat) (c:Cfg) (w:WSt) (svs:List Sv):Assn:=fun h=>∃ ls:List Lst,ls.map Lst.sv=svs∧(∀ (i:Nat) (hi:i<ls.length),(ls[i]'hi).cs.map Ct.con=(w.node i).list.1)∧Star [WldA gw c w,Blk g9 32 [ptrV gw],Star (ls.map Lst.own)] h
theorem seX_fn {P:Program} {k:FuncId} {args:Array Value} {gw g9:Nat} {c:Cfg} {w:WSt} {svs:List Sv} {M:List Assn} {R:Value→List Assn→Prop}
  (h:∀ ls:List Lst,ls.map Lst.sv=svs→(∀ (i:Nat) (hi:i<ls.length),(ls[i]'hi).cs.map Ct.con=(w.node i).list.1)→Fn P k args (WldA gw c w::Blk g9 32 [ptrV gw]::Star (ls.map Lst.own)::M) R):Fn P k args (seX gw g9 c w svs::M) R:=fun F w0 ww rr ⟨x,⟨ls,h1,h2,a⟩,d,s⟩ =>
 h ls h1 h2 F w0 ww rr (Star.opens [WldA gw c w,Blk g9 32 [ptrV gw],Star (ls.map Lst.own)] M ww F ⟨x,a,d,s⟩)
theorem seX_exL {P:Program} {n:Nat} {ops:Array Oper} {l:List Oper} {Q:Post} {f:Nat→Value} {gw g9:Nat} {c:Cfg} {w:WSt} {svs:List Sv} {M:List Assn}
  (h:∀ ls:List Lst,ls.map Lst.sv=svs→(∀ (i:Nat) (hi:i<ls.length),(ls[i]'hi).cs.map Ct.con=(w.node i).list.1)→ExL P n ops l Q f (WldA gw c w::Blk g9 32 [ptrV gw]::Star (ls.map Lst.own)::M)):ExL P n ops l Q f (seX gw g9 c w svs::M):=fun D F w0 f0 ws a ww ⟨rr,ag,⟨x,⟨ls,h1,h2,b⟩,d,s⟩,kk⟩ hc =>
 h ls h1 h2 D F w0 f0 ws a ww ⟨rr,ag,Star.opens [WldA gw c w,Blk g9 32 [ptrV gw],Star (ls.map Lst.own)] M ww F ⟨x,b,d,s⟩,kk⟩ hc
theorem seX_cls {gw g9:Nat} {c:Cfg} {w:WSt} (ls:List Lst) (h:∀ (i:Nat) (hi:i<ls.length),(ls[i]'hi).cs.map Ct.con=(w.node i).list.1) (M:List Assn):Sub (seX gw g9 c w (ls.map Lst.sv)::M) (WldA gw c w::Blk g9 32 [ptrV gw]::Star (ls.map Lst.own)::M) :=
 Sub.trans (Sub.cons' (fun _ a=>⟨ls,rfl,h,a⟩) (Sub.refl M)) (Star.closes [WldA gw c w,Blk g9 32 [ptrV gw],Star (ls.map Lst.own)] M)
set_option maxRecDepth 20000 attribute [local irreducible] Ex ExL Fn thn inb rnd fin meet Tab Mix mxEnd Val Sats RdT Rd RowT Row Blk Sub Fac ResV RVal Evs subs subs3 Hid Capd
section
attribute [local irreducible] Star NodeA HubA LkA nodesA WldA SiteV.own
theorem playedS_F (gw g7 g3:Nat) (v1:Value) (c:Cfg) (w:WSt) (l:List Stp) (xs:List Int) (M:List Assn) (ok:WOk 198 c (w.after c l xs.length)) (hx:xs.length<l.length) (hs:∀ s∈l,s.Ok) (hl:l.length≤1000) :
  Fn Tryz.prog 154 #[.int .i64 (xs.length:Nat),ptrV g7,ptrV g3] (plX gw g7 g3 v1 c w l xs::M) fun v L'=>∃ a:Int,v=.int .i64 a∧L'=plX gw g7 g3 v1 c w l (xs++[a])::M:=by
 rw [plX_eq]
 refine Fn.sub (L':=WldA gw c (w.after c l xs.length)::Blk g7 32 [ptrV gw]::Blk g3 24 [v1]::RowT v1 29 l::M) ?_ (Star.opens [WldA gw c (w.after c l xs.length),Blk g7 32 [ptrV gw],Blk g3 24 [v1],RowT v1 29 l] M)
 refine Fn.of_ex Tryz.func154 rfl Tryz.ntmps154 rfl ?_
 (refine rn ?_;intros)
 refine Ex.mixA 6 [Blk g7 32 [ptrV gw],Blk g3 24 [v1],RowT v1 29 l] rfl rQ (Fac.of (Sub.pick 1 rfl (Sub.pick 1 rfl (Sub.pick 1 rfl (Sub.nilL _))))) ?_
 (repeat' (first | (refine m1 ?_;intros) | (refine mx_gsplit rJ rJ rJ (fun h=>?_) (fun h=>?_) <;> try (exfalso;omega))))
 (refine mx_act rJ rJ rJ ?_;refine st_callIs [] rJ Tryz.call17 rE rJ (wStepA (k:=198) gw c (w.after c l xs.length) (l[xs.length]'hx) _ ok (Nat.le_refl _) (hs _ (List.getElem_mem hx))) ?_)
 rintro _ _ ⟨rfl,rfl⟩
 refine ExL.nil ?_
 refine mxEnd_n (Fac.of (Sub.pick 1 rfl (Sub.pick 1 rfl (Sub.pick 1 rfl (Sub.nilL _))))) ?_
 (refine mn ?_;intros)
 (refine rn ?_;intros)
 (refine fr ?_)
 have e:w.after c l (xs++[((w.after c l xs.length).step c (l[xs.length]'hx)).2]).length=((w.after c l xs.length).step c (l[xs.length]'hx)).1:=by rw [List.length_append];exact after_succ w c l hx
 refine ⟨_,?_,_,rfl,rfl⟩
 rw [plX_eq,e]
 exact Star.closes [WldA gw c ((w.after c l xs.length).step c (l[xs.length]'hx)).1,Blk g7 32 [ptrV gw],Blk g3 24 [v1],RowT v1 29 l] M
theorem played_F (c:Cfg) (v1:Value) (l:List Stp) (M:List Assn) (hc:c.May) (o1:v1.oneCell'=true) (hs:∀ s∈l,s.Ok) (hl:l.length≤190) :
  Fn Tryz.prog 86 #[.agg (Rep.cells c).toArray,v1] (RowT v1 29 l::M) fun v L'=>∃ gw u,u.oneCell'=true∧v=.tuple #[ptrV gw,u,.int .i64 0]∧L'=WldA gw c ((WSt.new c).after c l l.length)::M:=by
 refine Fn.of_ex Tryz.func86 rfl Tryz.ntmps86 rfl ?_
 (refine rn ?_;(repeat (first | intro (g:Nat) | intro h)))
 refine st_callIs [] rJ Tryz.call21 rJ rJ (wNewA c _ hc) ?_
 rintro _ _ ⟨gw,rfl,rfl⟩
 (refine rn ?_;(repeat (first | intro (g:Nat) | intro h)))
 rename_i g2 g3
 revert g
 intro g7
 have g0:=WGd.new hc
 refine Ex.sub (L':=WldA gw c (WSt.new c)::Blk g7 32 [ptrV gw]::Blk g3 24 [v1]::RowT v1 29 l::M) ?_ rP
 refine Ex.mixA 6 [Blk g7 32 [ptrV gw],Blk g3 24 [v1],RowT v1 29 l] rfl rQ (Fac.of (Sub.pick 1 rfl (Sub.pick 1 rfl (Sub.pick 1 rfl (Sub.nilL _))))) ?_
 (repeat' (first | (refine m1 ?_;intros) | (refine mx_gsplit rJ rJ rJ (fun h=>?_) (fun h=>?_) <;> try (exfalso;omega))))
 refine mx_act rJ rJ rJ ?_
 refine ExL.sub (L':=plX gw g7 g3 v1 c (WSt.new c) l []::M) ?_ (by rw [plX_eq];exact Star.closes [WldA gw c ((WSt.new c).after c l 0),Blk g7 32 [ptrV gw],Blk g3 24 [v1],RowT v1 29 l] M)
 refine st_callIs [] rJ Tryz.call153 rE rJ (fillI_F 154 [ptrV g7,ptrV g3] (plX gw g7 g3 v1 c (WSt.new c) l) l.length rM M Tryz.call154 (fun xs M hx=>playedS_F gw g7 g3 v1 c (WSt.new c) l xs M ((((WGd.after g0 l xs.length rM rM).mono (show 0+xs.length≤198 by omega)).ok rM)) hx hs rM)) ?_
 rintro u _ ⟨xs,hxl,ou,rfl⟩
 refine ExL.sub (L':=RowT u 57 xs::WldA gw c ((WSt.new c).after c l l.length)::Blk g7 32 [ptrV gw]::Blk g3 24 [v1]::RowT v1 29 l::M) ?_ (Sub.cons _ (by rw [plX_eq,hxl];exact Star.opens [WldA gw c ((WSt.new c).after c l l.length),Blk g7 32 [ptrV gw],Blk g3 24 [v1],RowT v1 29 l] M))
 refine ExL.nil ?_
 refine mxEnd_n (Fac.of (Sub.pick 2 rfl (Sub.pick 2 rfl (Sub.pick 2 rfl (Sub.nilL _))))) ?_
 (refine mn ?_;intros)
 (refine rn ?_;intros)
 (refine fr ?_)
 exact ⟨_,rP,gw,u,ou,rfl,rfl⟩
def rpX (gw:Nat) (c:Cfg) (w:WSt) (ss:List SiteV):Assn:=Pur (ss.map SiteV.p=(w.nodes.take ss.length).map NSt.site) (Star [WldA gw c w,Star (ss.map SiteV.own)])
theorem rpX_eq (gw:Nat) (c:Cfg) (w:WSt) (ss:List SiteV):rpX gw c w ss=Pur (ss.map SiteV.p=(w.nodes.take ss.length).map NSt.site) (Star [WldA gw c w,Star (ss.map SiteV.own)]):=rfl
theorem site_take {w:WSt} {j:Nat} (h:j<w.nodes.length):(w.nodes.take (j+1)).map NSt.site=(w.nodes.take j).map NSt.site++[(w.node j).site]:=by
 rw [List.take_succ_eq_append_getElem h,List.map_append,(node_of h).2];rfl
theorem rpSite_F (gw:Nat) (c:Cfg) (w:WSt) (ss:List SiteV) (M:List Assn) (ok:WOk 198 c w) (hx:ss.length<w.nodes.length) :
  Fn Tryz.prog 22 #[ptrV gw,.int .i64 (ss.length:Nat)] (rpX gw c w ss::M) fun v L'=>∃ a:SiteV,v=.agg (siteC a.p a.u1 a.u2).toArray∧L'=rpX gw c w (ss++[a])::M:=by
 rw [rpX_eq]
 refine Fn.pur fun hp=>?_
 refine Fn.sub (L':=WldA gw c w::Star (ss.map SiteV.own)::M) ?_ (Star.opens [WldA gw c w,Star (ss.map SiteV.own)] M)
 refine (wSiteA (k:=198) gw c w ss.length _ ok (Nat.le_refl _) (node_of hx).1).resv ?_
 rintro v L' ⟨u1,u2,o1,o2,rfl,rfl⟩
 refine ⟨_,?_,⟨(w.node ss.length).site,u1,u2,o1,o2⟩,rfl,rfl⟩
 rw [rpX_eq]
 refine Sub.trans (Pur.cls ?_ M) ?_
 ·rw [List.length_append,List.map_append,hp,List.length_singleton,site_take hx];rfl
 refine Sub.trans (Star.closes [WldA gw c w,Star ((ss++[(⟨(w.node ss.length).site,u1,u2,o1,o2⟩:SiteV)]).map SiteV.own)] M) ?_
 rw [List.map_append]
 exact Sub.trans (B:=Star (ss.map SiteV.own++[SiteV.own (⟨(w.node ss.length).site,u1,u2,o1,o2⟩:SiteV)])::WldA gw c w::M) rP (Sub.trans (Star.last _ _) (Sub.trans (B:=Mks u1 (w.node ss.length).site.held::Mks u2 (w.node ss.length).site.log::Star (ss.map SiteV.own)::WldA gw c w::M) (SiteV.cls ⟨(w.node ss.length).site,u1,u2,o1,o2⟩ _) rP))
theorem report_F (gw n:Nat) (c:Cfg) (w:WSt) (v1:Value) (M:List Assn) (ok:WOk 198 c w) (o1:v1.oneCell'=true) (hn:w.nodes.length=n) :
  Fn Tryz.prog 87 #[.int .i64 n,ptrV gw,v1] (WldA gw c w::M) fun v L'=>∃ u2 ss,u2.oneCell'=true∧ss.map SiteV.p=w.sites∧v=.agg (repC v1 u2 w.hub.siteU w.fl.length).toArray∧L'=Sites u2 ss::Star (ss.map SiteV.own)::WldA gw c w::M:=by
 have hn5:=ok.n5
 refine Fn.of_ex Tryz.func87 rfl Tryz.ntmps87 rfl ?_
 (refine rn ?_;(repeat (first | intro (g:Nat) | intro h)))
 refine ExL.sub (L':=rpX gw c w []::Blk g 101 (repC (.slice none 0 0) (.slice none 0 0) HsU.zero 0)::M) ?_ (by rw [rpX_eq];exact Sub.trans (Pur.cls rfl _) (Sub.trans (Star.closes [WldA gw c w,Star (([]:List SiteV).map SiteV.own)] _) (Sub.trans (B:=Star []::WldA gw c w::Blk g 101 (repC (.slice none 0 0) (.slice none 0 0) HsU.zero 0)::M) rP (Sub.trans (Star.nil _) rP))))
 refine st_callIs [] rJ Tryz.call155 rE rJ (fillS_F 22 [ptrV gw] (rpX gw c w) n rM _ Tryz.call22 (fun ss M hx=>rpSite_F gw c w ss M ok rM)) ?_
 rintro u2 _ ⟨ss,hsl,ou,rfl⟩
 refine ExL.sub (L':=rpX gw c w ss::Sites u2 ss::Blk g 101 (repC (.slice none 0 0) (.slice none 0 0) HsU.zero 0)::M) ?_ rP
 rw [rpX_eq]
 refine Pur.exL fun hp=>?_
 have hps:ss.map SiteV.p=w.sites:=by rw [hp];unfold WSt.sites;rw [List.take_of_length_le rM]
 refine ExL.sub (L':=WldA gw c w::Star (ss.map SiteV.own)::Sites u2 ss::Blk g 101 (repC (.slice none 0 0) (.slice none 0 0) HsU.zero 0)::M) ?_ (Star.opens [WldA gw c w,Star (ss.map SiteV.own)] _)
 (refine rn ?_;intros)
 refine st_callIs [] rJ Tryz.call15 rE rJ (wHubA (k:=198) gw c w _ ok (Nat.le_refl _)) ?_
 rintro _ _ ⟨rfl,rfl⟩
 generalize w.hub.siteU=hs
 (refine rn ?_;intros)
 refine st_callIs [] rJ Tryz.call30 rE rJ (wFlyingA gw c w _) ?_
 rintro _ _ ⟨rfl,rfl⟩
 (refine rn ?_;intros)
 (refine fr ?_)
 exact ⟨_,rP,u2,ss,ou,hps,rfl,rfl⟩
theorem seList_F (gw g9:Nat) (c:Cfg) (w:WSt) (svs:List Sv) (M:List Assn) (ok:WOk 198 c w) (hx:svs.length<w.nodes.length) :
  Fn Tryz.prog 89 #[.int .i64 (svs.length:Nat),ptrV g9] (seX gw g9 c w svs::M) fun v L'=>∃ a:Sv,v=a.v∧L'=seX gw g9 c w (svs++[a])::M:=by
 refine seX_fn fun ls h1 h2=>?_
 have hll:ls.length=svs.length:=by rw [← h1,List.length_map]
 refine Fn.of_ex Tryz.func89 rfl Tryz.ntmps89 rfl ?_
 (refine rn ?_;(repeat (first | intro (cs:List Value) | intro (hcs:_=List.set _ _ _) | intro h)))
 refine st_callIs [] rJ Tryz.call23 rE rJ (wListA (k:=198) gw c w svs.length _ ok (Nat.le_refl _) (node_of hx).1) ?_
 rintro _ _ ⟨u,cs,ou,hcs,rfl,rfl⟩
 (refine rn ?_;(repeat (first | intro (cs:List Value) | intro (hcs:_=List.set _ _ _) | intro h)))
 (refine fr ?_)
 refine ⟨_,?_,⟨u,ou⟩,rfl,rfl⟩
 have e:svs++[⟨u,ou⟩]=(ls++[(⟨u,ou,cs⟩:Lst)]).map Lst.sv:=by rw [List.map_append,h1];rfl
 rw [e]
 refine Sub.trans (seX_cls _ (fun i hi=>?_) M) ?_
 ·by_cases h:i<ls.length
  ·rw [List.getElem_append_left h];exact h2 i h
  ·have:i=ls.length:=by rw [List.length_append,List.length_singleton] at hi;omega
   subst this
   rw [List.getElem_append_right (Nat.le_refl _)]
   simp only [Nat.sub_self,List.getElem_cons_zero]
   rw [hcs,hll]
 ·rw [List.map_append]
  refine Sub.trans (B:=Star (ls.map Lst.own++[Lst.own ⟨u,ou,cs⟩])::WldA gw c w::Blk g9 32 [ptrV gw]::M) rP (Sub.trans (Star.last _ _) (Sub.trans (B:=Cts_ u cs::Star (cs.map Ct.own)::Star (ls.map Lst.own)::WldA gw c w::Blk g9 32 [ptrV gw]::M) (Two.cls _ _ _) rP))
theorem Settle_F (c:Cfg) (v1:Value) (l:List Stp) (n:Nat) (M:List Assn) (hc:c.May) (o1:v1.oneCell'=true) (hs:∀ s∈l,s.Ok) (hl:l.length+15 * n≤190) (w:WSt) (hw:w=((WSt.new c).after c l l.length).roundsW c n) (ok:WOk 198 c w) :
  Fn Tryz.prog 33 #[.agg (Rep.cells c).toArray,v1,.int .i64 n] (RowT v1 29 l::M) fun v L'=>∃ (u1 u2 u3:Value) (ss:List SiteV) (ls:List Lst),u1.oneCell'=true∧u2.oneCell'=true∧u3.oneCell'=true∧ss.map SiteV.p=w.sites∧ls.length=w.nodes.length∧(∀ (i:Nat) (hi:i<ls.length),(ls[i]'hi).cs.map Ct.con=(w.node i).list.1) ∧
   v=.tuple #[.agg (repC u1 u2 w.hub.siteU w.fl.length).toArray,u3,.int .i64 0]∧L'=Sites u2 ss::Star (ss.map SiteV.own)::RowT u3 67 (ls.map Lst.sv)::Star (ls.map Lst.own)::M:=by
 have hn:=ok.n
 have hn5:=ok.n5
 obtain ⟨N,hcN⟩:∃ N:Nat,c.n=N:=⟨c.n.toNat,by have:=hc.n;omega⟩
 have hcc:Rep.cells c=[.int .i64 (N:Int),.int .i64 c.w,.int .i64 c.q,.int .i64 c.h,.int .i64 c.l,.int .i64 c.p]:=by rw [← hcN];rfl
 refine Fn.of_ex Tryz.func33 rfl Tryz.ntmps33 rfl ?_
 (refine rn ?_;(repeat (first | intro (g:Nat) | intro h)))
 rename_i g3
 revert g
 intro g6
 refine st_callIs [2] rJ Tryz.call86 rE rJ (played_F c v1 l _ hc o1 hs rM) ?_
 rintro _ _ ⟨gw,u,ou,rfl,rfl⟩
 have g1:=WGd.after (WGd.new hc) l l.length (Nat.le_refl _) rM
 (refine rn ?_;(repeat (first | intro (g:Nat) | intro h)))
 revert g
 intro g9
 refine st_callIs [1] rJ Tryz.call24 rE rJ (wRoundsA (kk:=198) gw c ((WSt.new c).after c l l.length) n _ (Nat.le_refl _) rM (g1.rdOk n rM)) ?_
 rintro _ _ rfl
 rw [← hw]
 have hnN:w.nodes.length=N:=by omega
 (refine rn ?_;intros)
 rw [hcN]
 refine ExL.sub (L':=seX gw g9 c w []::Blk g3 23 (Rep.cells c)::Blk g6 101 (repC (.slice none 0 0) (.slice none 0 0) HsU.zero 0)::M) ?_ (Sub.trans (seX_cls [] (fun i hi=>by cases hi) _) (Sub.trans (B:=Star []::WldA gw c w::Blk g9 32 [ptrV gw]::Blk g3 23 (Rep.cells c)::Blk g6 101 (repC (.slice none 0 0) (.slice none 0 0) HsU.zero 0)::M) rP (Sub.trans (Star.nil _) rP)))
 refine st_callIs [] rJ Tryz.call88 rE rJ (fillV_F 89 [ptrV g9] (seX gw g9 c w) N rM _ Tryz.call89 (fun svs M hx=>seList_F gw g9 c w svs M ok rM)) ?_
 rintro u3 _ ⟨svs,hsv,ou3,rfl⟩
 refine ExL.sub (L':=seX gw g9 c w svs::RowT u3 67 svs::Blk g3 23 (Rep.cells c)::Blk g6 101 (repC (.slice none 0 0) (.slice none 0 0) HsU.zero 0)::M) ?_ rP
 refine seX_exL fun ls hls hcon=>?_
 subst hls
 rw [List.length_map] at hsv
 (refine rn ?_;intros)
 rw [hcN]
 refine st_callIs [] rJ Tryz.call87 rE rJ (report_F gw N c w u _ ok ou hnN) ?_
 rintro _ _ ⟨u2,ss,ou2,hss,rfl,rfl⟩
 (refine rn ?_;intros)
 (refine fr ?_)
 exact ⟨_,rP,u,u2,u3,ss,ls,ou,ou2,ou3,hss,by omega,hcon,rfl,rfl⟩
end
end
section
set_option maxRecDepth 100000 in
theorem shn_len:((((WSt.new ⟨2,2,2,4,2,2⟩).after ⟨2,2,2,4,2,2⟩ [⟨0,0,⟨1,[99,121],0,[]⟩,0,0,0,0⟩] 1).roundsW ⟨2,2,2,4,2,2⟩ 2).nodes.length)=2:=by decide +kernel
set_option maxRecDepth 100000 in
theorem shn_clk:((((WSt.new ⟨2,2,2,4,2,2⟩).after ⟨2,2,2,4,2,2⟩ [⟨0,0,⟨1,[99,121],0,[]⟩,0,0,0,0⟩] 1).roundsW ⟨2,2,2,4,2,2⟩ 2).node 1).site.clk=⟨1,0,0,0,0⟩:=by decide +kernel
set_option maxRecDepth 100000 in
theorem shn_list:((((WSt.new ⟨2,2,2,4,2,2⟩).after ⟨2,2,2,4,2,2⟩ [⟨0,0,⟨1,[99,121],0,[]⟩,0,0,0,0⟩] 1).roundsW ⟨2,2,2,4,2,2⟩ 2).node 1).list.1.map Con.key=[[99,121]]:=by decide +kernel
def cS:Cfg:=⟨2,2,2,4,2,2⟩
def sS:Stp:=⟨0,0,⟨1,[99,121],0,[]⟩,0,0,0,0⟩
def wS:WSt:=((WSt.new cS).after cS [sS] [sS].length).roundsW cS 2
theorem cS_may:cS.May:=by
 refine ⟨?_,?_,?_,?_,?_,?_⟩ <;> decide
theorem WGd.loopW {c:Cfg}:∀ (n k:Nat) (w:WSt),WGd k c w→k+15 * n≤198→WGd (k+15 * n) c (w.loopW c n)
 | 0,k,w,g,h=>g
 | n+1,k,w,g,h=>by
  have hn:=g.n
  have h5:=g.hub.cm.n
  have gr:WGd (k+15) c (w.round c):=(g.roundK (3 * w.nodes.length) (Nat.le_refl _) rM).mono rM
  show WGd _ c (if _ then _ else _)
  split
  ·exact gr.mono rM
  ·exact (WGd.loopW n (k+15) _ gr rM).mono rM
theorem WGd.roundsW {c:Cfg} {k:Nat} {w:WSt} (g:WGd k c w) (n:Nat) (h:k+15 * n≤198):WGd (k+15 * n) c (w.roundsW c n):=WGd.loopW n k _ g.re h
theorem wS_ok:WOk 198 cS wS :=
 (((WGd.after (WGd.new cS_may) [sS] 1 (by decide) (by decide)).roundsW 2 (by decide)).mono (by decide)).ok (by decide)
theorem wS_eq:wS=((WSt.new cS).after cS [sS] [sS].length).roundsW cS 2:=rfl
theorem wS_len:wS.nodes.length=2:=shn_len
theorem wS_clk:(wS.node 1).site.clk=⟨1,0,0,0,0⟩:=shn_clk
theorem wS_list:(wS.node 1).list.1.map Con.key=[[99,121]]:=shn_list
theorem Lst.opn (l:Lst) (L:List Assn):Sub (Cts_ l.v l.cs::Star (l.cs.map Ct.own)::L) (l.own::L):=Two.opn _ _ _
theorem sS_ok:∀ s∈[sS],s.Ok:=by
 intro s hs
 simp at hs
 subst hs
 exact ⟨by unfold I64;decide,by decide,by decide,by decide⟩
theorem two_of {α:Type} {l:List α} (h:l.length=2):∃ a b,l=[a,b]:=by
 match l,h with
 | [a,b],_=>exact ⟨a,b,rfl⟩
set_option maxRecDepth 20000 attribute [local irreducible] Ex ExL Fn thn inb rnd fin meet Tab Mix mxEnd Val Sats RdT Rd RowT Row Blk Sub Fac ResV RVal Evs subs subs3 Hid Capd
section
attribute [local irreducible] Star NodeA HubA LkA nodesA WldA SiteV.own Lst.own wS
theorem shown_F (M:List Assn):Fn Tryz.prog 10 #[] M fun v L'=>v=.bool true∧L'=M:=by
 refine Fn.of_ex Tryz.func10 rfl Tryz.ntmps10 rfl ?_
 (refine rn ?_;(repeat (first | intro (g:Nat) | intro h)))
 refine st_callIs [] rJ Tryz.call32 rJ rJ (Run_no ⟨0,0,0,0,0,0⟩ (.slice none 0 0) rfl _ (by decide)) ?_
 rintro _ _ ⟨rfl,rfl⟩
 (refine rn ?_;(repeat (first | intro (g:Nat) | intro h)))
 rename_i M
 refine st_slice1T (a:=sS) rJ rJ rJ rJ (fun g=>?_)
 (refine rn ?_;(repeat (first | intro (g:Nat) | intro h)))
 rename_i g1
 revert g
 intro g15
 refine st_callIs [] rJ Tryz.call33 rE rJ (Settle_F cS (.slice (some ⟨g15,0,none⟩) 1 1) [sS] 2 _ cS_may rfl sS_ok (by decide) wS wS_eq wS_ok) ?_
 rintro _ _ ⟨u1,u2,u3,ss,ls,ou1,ou2,ou3,hss,hll,hcon,rfl,rfl⟩
 rw [wS_len] at hll
 have hsl:ss.length=2:=by
  have:=congrArg List.length hss
  unfold WSt.sites at this
  rw [List.length_map,List.length_map,wS_len] at this
  exact this
 obtain ⟨s0,s1,rfl⟩:=two_of hsl
 obtain ⟨l0,l1,rfl⟩:=two_of hll
 have hc1:s1.p.clk=⟨1,0,0,0,0⟩:=by
  obtain ⟨n0,n1,hn⟩:=two_of wS_len
  have hclk:=wS_clk
  unfold WSt.sites at hss
  unfold WSt.node at hclk
  rw [hn] at hss hclk
  simp only [List.map_cons,List.map_nil,List.cons.injEq] at hss
  rw [hss.2.1]
  exact hclk
 have hk:=hcon 1 (by simp)
 have hk:l1.cs.map Ct.con=(wS.node 1).list.1:=hk
 have hk2:=wS_list
 rw [← hk,List.map_map] at hk2
 obtain ⟨c1,hc⟩:∃ c1,l1.cs=[c1]:=by
  have:=congrArg List.length hk2
  rw [List.length_map] at this
  exact List.length_eq_one_iff.1 this
 rw [hc] at hk2
 have hkey:c1.key=[99,121]:=by simpa [Ct.con] using hk2
 generalize wS.hub.siteU=hub
 generalize (wS.fl.length:Int)=nfl
 refine ExL.sub (L':=Sites u2 [s0,s1]::RowT u3 67 [l0.sv,l1.sv]::Cts_ l1.v [c1]::M) ?_ ?_
 ·have hall:(repC u1 u2 hub nfl).all Value.oneCell'=true:=by
   unfold repC
   simp only [List.all_append,List.all_cons,List.all_nil,ou1,ou2,Rep.one,Bool.and_true,Bool.true_and]
   rfl
  (refine rn ?_;intros)
  refine ExL.val rJ rJ rJ (vl_eqlT_t (a:=s1.p.clk) (b:=(⟨1,0,0,0,0⟩:Clk)) rJ rJ hc1) ?_
  exact re1
 ·refine Sub.trans (B:=Star [l0.own,l1.own]::Sites u2 [s0,s1]::RowT u3 67 [l0.sv,l1.sv]::M) ?_ rP
  refine Sub.trans ?_ (Star.opens [l0.own,l1.own] _)
  refine Sub.trans (B:=l1.own::Sites u2 [s0,s1]::RowT u3 67 [l0.sv,l1.sv]::M) ?_ rP
  have h2:=Lst.opn l1 (Sites u2 [s0,s1]::RowT u3 67 [l0.sv,l1.sv]::M)
  rw [hc] at h2
  exact Sub.trans rP h2
end
end
section
open Go.ChangeShapes Go.WideShapes Go.ChangeAt Go.RowKit
set_option maxRecDepth 20000
theorem okT_txtT {H:Type} {enc:TypeId×Value→H} {P:Program} {w:World} {t:TypeId} {cs:List Value} (hu:P.underlying t=some .string) (h:OkT enc P w t cs):∃ l:List UInt8,cs=[.string (S l)]∧l.length≤140737488351232:=by
 obtain ⟨l,e,h⟩:=okT_string hu h
 exact ⟨l,e,by unfold reachBytes at h;omega⟩
theorem okT_u32T {H:Type} {enc:TypeId×Value→H} {P:Program} {w:World} {t:TypeId} {cs:List Value} (hu:P.underlying t=some (.int .u32)) (h:OkT enc P w t cs):∃ n:Int,cs=[.int .u32 n]∧0≤n∧n≤4294967295:=by
 obtain ⟨n,e,h⟩:=okT_int hu h
 have:=bounds_u32 h
 exact ⟨n,e,by omega,by omega⟩
theorem okT_edT {H:Type} {enc:TypeId×Value→H} {w:World} {cs:List Value} (h:OkT enc Tryz.prog w 26 cs):∃ e:Ed,cs=e.cells∧e.key.length≤140737488351232∧e.value.length≤140737488351232:=by
 obtain ⟨hl,hf⟩:=okT_struct Tryz.underlying26 h
 have hl:cs.length=4:=hl
 obtain ⟨k,e1,i1⟩:=okT_i64 rQ (hf 0 _ rfl)
 obtain ⟨key,e2,i2⟩:=okT_txtT rQ (hf 1 _ rfl)
 obtain ⟨lb,e3,i3⟩:=okT_i64 rQ (hf 2 _ rfl)
 obtain ⟨val,e4,i4⟩:=okT_txtT rQ (hf 3 _ rfl)
 match cs,hl with
 | [x0,x1,x2,x3],_ =>
  have e1:[x0]=[Value.int .i64 k]:=e1
  have e2:[x1]=[Value.string (S key)]:=e2
  have e3:[x2]=[Value.int .i64 lb]:=e3
  have e4:[x3]=[Value.string (S val)]:=e4
  cases e1;cases e2;cases e3;cases e4
  exact ⟨⟨k,key,lb,val⟩,rfl,i2,i4⟩
structure Stp.In (s:Stp):Prop where
 bit:I64 s.bit
 mask:0≤s.mask∧s.mask<4294967296
 key:s.ed.key.length≤140737488351232
 value:s.ed.value.length≤140737488351232
 r:I64 s.r
 at_:I64 s.at_
 keep:I64 s.keep
theorem okT_stp {H:Type} {enc:TypeId×Value→H} {w:World} {cs:List Value} (h:OkT enc Tryz.prog w 29 cs):∃ s:Stp,cs=Rep.cells s∧s.In:=by
 obtain ⟨hl,hf⟩:=okT_struct Tryz.underlying29 h
 have hl:cs.length=10:=hl
 obtain ⟨k,e1,i1⟩:=okT_i64 rQ (hf 0 _ rfl)
 obtain ⟨r,e2,i2⟩:=okT_i64 rQ (hf 1 _ rfl)
 obtain ⟨ed,e3,i3,i4⟩:=okT_edT (hf 2 _ rfl)
 obtain ⟨a,e4,i5⟩:=okT_i64 rQ (hf 3 _ rfl)
 obtain ⟨b,e5,i6⟩:=okT_i64 rQ (hf 4 _ rfl)
 obtain ⟨m,e6,i7,i8⟩:=okT_u32T rQ (hf 5 _ rfl)
 obtain ⟨kp,e7,i9⟩:=okT_i64 rQ (hf 6 _ rfl)
 match cs,hl with
 | [x0,x1,x2,x3,x4,x5,x6,x7,x8,x9],_ =>
  have e1:[x0]=[Value.int .i64 k]:=e1
  have e2:[x1]=[Value.int .i64 r]:=e2
  have e3:[x2,x3,x4,x5]=ed.cells:=e3
  have e4:[x6]=[Value.int .i64 a]:=e4
  have e5:[x7]=[Value.int .i64 b]:=e5
  have e6:[x8]=[Value.int .u32 m]:=e6
  have e7:[x9]=[Value.int .i64 kp]:=e7
  unfold Ed.cells at e3
  cases e1;cases e2;cases e3;cases e4;cases e5;cases e6;cases e7
  exact ⟨⟨k,r,ed,a,b,m,kp⟩,rfl,⟨i6,⟨i7,by show m<4294967296;omega⟩,i3,i4,i2,i5,i9⟩⟩
theorem okT_stps {H:Type} {enc:TypeId×Value→H} {w:World} {cs:List Value} (h:OkT enc Tryz.prog w 24 cs) :
  ∃ v,∃ l:List Stp,cs=[v]∧v.oneCell'=true∧Sl w v 10 l.length (cellsOf l)∧(∀ e∈l,e.In)∧l.length≤140737488351232:=by
 obtain ⟨v,xs,h1,h2,h3,h4,h5⟩:=okT_list (α:=Stp) Stp.In Tryz.underlying24 rQ (fun ecs h=>okT_stp h) h
 refine ⟨v,xs,h1,h2,h3,h4,?_⟩
 have hb:Tryz.prog.bytesOf 29=96:=by kernel_rfl
 rw [hb] at h5
 simp [reachBytes] at h5
 omega
theorem okT_cfgT {H:Type} {enc:TypeId×Value→H} {w:World} {cs:List Value} (h:OkT enc Tryz.prog w 23 cs):∃ c:Cfg,cs=Rep.cells c∧True:=by
 obtain ⟨hl,hf⟩:=okT_struct Tryz.underlying23 h
 have hl:cs.length=6:=hl
 obtain ⟨a,e1,i1⟩:=okT_i64 rQ (hf 0 _ rfl)
 obtain ⟨b,e2,i2⟩:=okT_i64 rQ (hf 1 _ rfl)
 obtain ⟨c,e3,i3⟩:=okT_i64 rQ (hf 2 _ rfl)
 obtain ⟨d,e4,i4⟩:=okT_i64 rQ (hf 3 _ rfl)
 obtain ⟨e,e5,i5⟩:=okT_i64 rQ (hf 4 _ rfl)
 obtain ⟨f,e6,i6⟩:=okT_i64 rQ (hf 5 _ rfl)
 match cs,hl with
 | [x1,x2,x3,x4,x5,x6],_ =>
  have e1:[x1]=[Value.int .i64 a]:=e1
  have e2:[x2]=[Value.int .i64 b]:=e2
  have e3:[x3]=[Value.int .i64 c]:=e3
  have e4:[x4]=[Value.int .i64 d]:=e4
  have e5:[x5]=[Value.int .i64 e]:=e5
  have e6:[x6]=[Value.int .i64 f]:=e6
  cases e1;cases e2;cases e3;cases e4;cases e5;cases e6
  exact ⟨⟨a,b,c,d,e,f⟩,rfl,trivial⟩
end
end Go.Proofs.YtogcfijlhpaeeaaGreat
