/- Texts, one behind the other. No condition. -/
import Derived.RangeFuncCalls
import Derived.RangeFuncIn
import Derived.RangeFuncLeaves
import Derived.RangeFuncRecord
import Derived.TacticsIn
import Derived.Test.YtogcfijlhpaeeaaGreatChecked
import Derived.Test.YtogcfijlhpaeeaaGreatZcjnnfnef
import Derived.Test.YtogcfijlhpaeeaaGreatZehjcikgl
import Derived.Test.YtogcfijlhpaeeaaGreatZopgnkiea
open Go.RowKit
set_option linter.unusedSimpArgs false
set_option linter.unusedVariables false
set_option linter.unusedSectionVars false
set_option maxHeartbeats 32000000
namespace Go.Proofs.YtogcfijlhpaeeaaGreat
section
theorem push_fmay {k:Nat} {c:Cfg} {r:Int} {st:NSt} (ok:NOk k c r st) (h:(st.push c r).2=0):(st.push c r).1.FMay:=by
 unfold NSt.push at h ⊢
 by_cases hu:st.up=false
 ·rw [if_pos hu] at h;cases h
 rw [if_neg hu] at h ⊢
 have hu:st.up=true:=by cases h:st.up with
  | true=>rfl
  | false=>exact absurd h hu
 by_cases hw:st.wait=[]
 ·rw [if_pos hw] at h;cases h
 rw [if_neg hw]
 obtain ⟨hw1,hw2,hw3⟩:=ok.wait hu
 have hcq:=ok.cm.q
 have hcw:=ok.cm.w
 have hwp:st.wait.length≠0:=fun h=>hw (List.eq_nil_of_length_eq_zero h)
 refine push_may ok.r5 (by rw [List.length_take];omega) (fun h=>?_) (fun y hy=>hw3 y (List.mem_of_mem_take hy))
 have:(st.wait.take (min (max c.w 0) st.wait.length).toNat).length=0:=by rw [h];rfl
 rw [List.length_take] at this
 omega
theorem tell_fmay {k:Nat} {c:Cfg} {r:Int} {st:NSt} (ok:NOk k c r st) (hk:k≤200) {kk:Int} (hkk:kk=3∨kk=5) (h:(st.tell r kk).2=0):(st.tell r kk).1.FMay:=by
 unfold NSt.tell at h ⊢
 by_cases hu:st.up=false
 ·rw [if_pos hu] at h;cases h
 rw [if_neg hu]
 have hu:st.up=true:=by cases h:st.up with
  | true=>rfl
  | false=>exact absurd h hu
 exact tell_may hkk ok.r5 (ok.clkB hk hu)
theorem send_shut {gw gh gl:Nat} {vs:Value} {gs:List Ptr} {c:Cfg} {w:WSt} {r:Int} (hr:w.has r) (p:Rcd×Int) (ov:vs.oneCell'=true) (hgl:gs.length=w.nodes.length) (M:List Assn) :
  Sub (WldA gw c (w.send p).1::M) (NodeA (gs.getD r.toNat ⟨0⟩).g c r (w.node r)::WdB gw gh gl vs::LkA gl (if p.2=0 then w.keys++[(5,p.1.fbytes)] else w.keys)::Nds vs gs::nodesBut c gs w r::HubA gh c w.hub::M):=by
 by_cases h:p.2=0
 ·have e:(w.send p).1={ w with fl:=w.fl++[(5,p.1)] }:=by unfold WSt.send;rw [if_pos h]
  have hk:w.keys++[(5,p.1.fbytes)]=({ w with fl:=w.fl++[(5,p.1)] }:WSt).keys:=by unfold WSt.keys;rw [List.map_append];rfl
  rw [e,if_pos h,hk]
  exact Sub.trans (wd_back (w:={ w with fl:=w.fl++[(5,p.1)] }) (gh:=gh) (gl:=gl) (vs:=vs) (gs:=gs) hr ov hgl M) rP
 ·have e:(w.send p).1=w:=by unfold WSt.send;rw [if_neg h]
  rw [e,if_neg h]
  exact Sub.trans (wd_back (gh:=gh) (gl:=gl) (vs:=vs) (gs:=gs) hr ov hgl M) rP
set_option maxRecDepth 20000 attribute [local irreducible] Ex ExL Fn thn inb rnd fin meet Tab Mix mxEnd Val Sats RdT Rd RowT Row Blk Sub Fac ResV RVal Evs subs subs3 Hid Capd
section
attribute [local irreducible] DkA DvA Star LvA
theorem nEditA {k:Nat} (gn:Nat) (c:Cfg) (r:Int) (st:NSt) (e:Ed) (M:List Assn) (ok:NOk k c r st) (hk:k≤200) (hkl:e.key.length≤1000) (hvl:e.value.length≤1000):Fn Tryz.prog 40 #[ptrV gn,.agg (Rep.cells e).toArray] (NodeA gn c r st::M)
  fun v L'=>∃ y:Ev,v=.tuple #[.agg (Rep.cells y).toArray,.int .i64 (st.edit c r e).2]∧L'=NodeA gn c r (st.edit c r e).1::M:=by
 refine NodeA.fn (fun hu dv ds vl sent b i o dok=>?_) (fun hu dv ds x dok ox=>nEdit_up gn c r st e dv ds x M ok hk hkl hvl hu dok ox)
 have e1:st.edit c r e=(st,18):=by
  have:st.editE c r e=18:=by unfold NSt.editE;rw [if_pos hu]
  unfold NSt.edit;rw [this,if_pos (by simp)]
 rw [e1]
 refine Fn.of_ex Tryz.func40 rfl Tryz.ntmps40 rfl ?_
 (refine rn ?_;intros)
 (refine fr ?_)
 exact ⟨_,Sub.trans (NodeA.cls_dn hu dok M) rP,Ev.zero,rfl,rfl⟩
attribute [local irreducible] NodeA HubA LkA nodesA WldA
theorem wStepA {k:Nat} (gw:Nat) (c:Cfg) (w:WSt) (s:Stp) (M:List Assn) (ok:WOk k c w) (hk:k≤198) (hs:s.Ok):Fn Tryz.prog 17 #[ptrV gw,.agg (Rep.cells s).toArray] (WldA gw c w::M)
  fun v L'=>v=.int .i64 (w.step c s).2∧L'=WldA gw c (w.step c s).1::M:=by
 have hn5:=ok.n5
 refine WldA.fn fun gh gl vs gs ov hgl=>?_
 by_cases hf:4≤s.kind∧s.kind≤7
 ·have e:w.step c s=w.flight c s:=by unfold WSt.step;rw [if_pos hf]
  rw [e]
  have hk4:s.kind=4∨s.kind=5∨s.kind=6∨s.kind=7:=by omega
  refine Fn.of_ex Tryz.func17 rfl Tryz.ntmps17 rfl ?_
  rcases hk4 with h | h | h | h <;>
  ·(refine rn ?_;(repeat (first | intro (g:Nat) | intro h)))
   refine st_callIs [5,5,5,5,5] rJ Tryz.call37 rE rJ (wflight_F (k:=k) gw gh gl vs gs c w s _ ok hk hs ov hgl) ?_
   rintro _ _ ⟨rfl,rfl⟩
   (refine rn ?_;(repeat (first | intro (g:Nat) | intro h)))
   (refine fr ?_)
   exact ⟨_,rP,rfl,rfl⟩
 by_cases hp:8≤s.kind∧s.kind≤10
 ·have e:w.step c s=w.power c s:=by unfold WSt.step;rw [if_neg hf,if_pos hp]
  rw [e]
  have hk4:s.kind=8∨s.kind=9∨s.kind=10:=by omega
  refine Fn.of_ex Tryz.func17 rfl Tryz.ntmps17 rfl ?_
  rcases hk4 with h | h | h <;>
  ·(refine rn ?_;(repeat (first | intro (g:Nat) | intro h)))
   refine st_callIs [5,5,5,5,5] rJ Tryz.call38 rE rJ (wpower_F (k:=k) gw gh gl vs gs c w s _ ok hk rM ov hgl) ?_
   rintro _ _ ⟨rfl,rfl⟩
   (refine rn ?_;(repeat (first | intro (g:Nat) | intro h)))
   (refine fr ?_)
   exact ⟨_,rP,rfl,rfl⟩
 have hne:s.kind≠4∧s.kind≠5∧s.kind≠6∧s.kind≠7∧s.kind≠8∧s.kind≠9∧s.kind≠10:=by omega
 refine Fn.of_ex Tryz.func17 rfl Tryz.ntmps17 rfl ?_
 (refine rn ?_;(repeat (first | intro (g:Nat) | intro h)))
 revert g
 intro g3
 have hkeyl:=hs.key
 have hvall:=hs.value
 refine st_callIs [2,2] rJ Tryz.call39 rE rJ (whas_F gw gh gl vs gs c w s.r _ hgl hn5.1) ?_
 rintro _ _ ⟨rfl,rfl⟩
 by_cases hh:w.has s.r
 case neg =>
  rw [decide_eq_false hh]
  have e:w.step c s=(w,1):=by unfold WSt.step;rw [if_neg hf,if_neg hp,if_pos hh]
  rw [e]
  (refine rn ?_;intros)
  (refine fr ?_)
  exact ⟨_,Sub.trans (WldA.cls ov hgl M) rP,rfl,rfl⟩
 rw [decide_eq_true hh]
 have e:w.step c s=if s.kind=0 then (w.upd s.r ((w.node s.r).edit c s.r s.ed).1,((w.node s.r).edit c s.r s.ed).2) else
   if s.kind=1 then w.send ((w.node s.r).push c s.r) else
   if s.kind=2 then w.send ((w.node s.r).tell s.r 3) else
   if s.kind=3 then w.send ((w.node s.r).tell s.r 5) else
   if s.kind=11 then (w.upd s.r ((w.node s.r).state s.r).1,((w.node s.r).state s.r).2) else (w,1):=by unfold WSt.step;rw [if_neg hf,if_neg hp,if_neg (by simpa using hh)]
 rw [e]
 have hr1:=hh.1
 have hr2:=hh.2
 have hr3:s.r<gs.length:=by omega
 clear e
 (refine rn ?_;intros)
 (refine mu8 ?_;intros)
 rw [← gs_get rM]
 have okn:=ok.node hh
 obtain ⟨hkl,hkb,hfl⟩:=keys_len ok
 by_cases h0:s.kind=0
 ·rw [if_pos h0]
  (refine rn ?_;intros)
  refine ExL.sub (L':=NodeA (gs.getD s.r.toNat ⟨0⟩).g c s.r (w.node s.r)::wdR gw gh gl vs gs c w s.r M) ?_ (Sub.trans (wd_open hh _) rP)
  refine st_callIs [] rJ Tryz.call40 rE rJ (nEditA (k:=k) _ c s.r (w.node s.r) s.ed _ okn rM hkeyl hvall) ?_
  rintro _ _ ⟨y,rfl,rfl⟩
  (refine rn ?_;intros)
  (refine fr ?_)
  exact ⟨_,Sub.trans (wd_shut hh _ ov hgl M) rP,rfl,rfl⟩
 rw [if_neg h0]
 by_cases h1:s.kind=1
 ·rw [if_pos h1]
  (refine rn ?_;intros)
  refine ExL.sub (L':=NodeA (gs.getD s.r.toNat ⟨0⟩).g c s.r (w.node s.r)::WdB gw gh gl vs::LkA gl w.keys::Nds vs gs::nodesBut c gs w s.r::HubA gh c w.hub::M) ?_ (Sub.trans (B:=NodeA (gs.getD s.r.toNat ⟨0⟩).g c s.r (w.node s.r)::wdR gw gh gl vs gs c w s.r M) rP (Sub.trans (wd_open hh _) rP))
  refine st_callIs [] rJ Tryz.call41 rE rJ (wsend_F 42 ((w.node s.r).push c s.r) gw gh gl _ c s.r (w.node s.r) vs w.keys _ Tryz.call42 (fun M=>nPushA (k:=k) _ c s.r (w.node s.r) M okn rM) rM (fun h=>by have:=Rcd.fbytes_len _ (push_fmay okn h);omega)) ?_
  rintro _ _ ⟨rfl,rfl⟩
  (refine rn ?_;intros)
  (refine fr ?_)
  exact ⟨_,send_shut hh _ ov hgl M,rfl,rfl⟩
 rw [if_neg h1]
 by_cases h2:s.kind=2
 ·rw [if_pos h2]
  (refine rn ?_;intros)
  refine ExL.sub (L':=NodeA (gs.getD s.r.toNat ⟨0⟩).g c s.r (w.node s.r)::WdB gw gh gl vs::LkA gl w.keys::Nds vs gs::nodesBut c gs w s.r::HubA gh c w.hub::M) ?_ (Sub.trans (B:=NodeA (gs.getD s.r.toNat ⟨0⟩).g c s.r (w.node s.r)::wdR gw gh gl vs gs c w s.r M) rP (Sub.trans (wd_open hh _) rP))
  refine st_callIs [] rJ Tryz.call41 rE rJ (wsend_F 43 ((w.node s.r).tell s.r 3) gw gh gl _ c s.r (w.node s.r) vs w.keys _ Tryz.call43 (fun M=>nFetchA (k:=k) _ c s.r (w.node s.r) M okn rM) rM (fun h=>by have:=Rcd.fbytes_len _ (tell_fmay okn rM (.inl rfl) h);omega)) ?_
  rintro _ _ ⟨rfl,rfl⟩
  (refine rn ?_;intros)
  (refine fr ?_)
  exact ⟨_,send_shut hh _ ov hgl M,rfl,rfl⟩
 rw [if_neg h2]
 by_cases h3:s.kind=3
 ·rw [if_pos h3]
  (refine rn ?_;intros)
  refine ExL.sub (L':=NodeA (gs.getD s.r.toNat ⟨0⟩).g c s.r (w.node s.r)::WdB gw gh gl vs::LkA gl w.keys::Nds vs gs::nodesBut c gs w s.r::HubA gh c w.hub::M) ?_ (Sub.trans (B:=NodeA (gs.getD s.r.toNat ⟨0⟩).g c s.r (w.node s.r)::wdR gw gh gl vs gs c w s.r M) rP (Sub.trans (wd_open hh _) rP))
  refine st_callIs [] rJ Tryz.call41 rE rJ (wsend_F 44 ((w.node s.r).tell s.r 5) gw gh gl _ c s.r (w.node s.r) vs w.keys _ Tryz.call44 (fun M=>nAckA (k:=k) _ c s.r (w.node s.r) M okn rM) rM (fun h=>by have:=Rcd.fbytes_len _ (tell_fmay okn rM (.inr rfl) h);omega)) ?_
  rintro _ _ ⟨rfl,rfl⟩
  (refine rn ?_;intros)
  (refine fr ?_)
  exact ⟨_,send_shut hh _ ov hgl M,rfl,rfl⟩
 rw [if_neg h3]
 by_cases h11:s.kind=11
 ·rw [if_pos h11]
  (refine rn ?_;intros)
  refine ExL.sub (L':=NodeA (gs.getD s.r.toNat ⟨0⟩).g c s.r (w.node s.r)::wdR gw gh gl vs gs c w s.r M) ?_ (Sub.trans (wd_open hh _) rP)
  refine st_callIs [] rJ Tryz.call45 rE rJ (nStateA (k:=k) _ c s.r (w.node s.r) _ okn rM) ?_
  rintro _ _ ⟨rfl,rfl⟩
  (refine rn ?_;intros)
  (refine fr ?_)
  exact ⟨_,wd_shut hh _ ov hgl M,rfl,rfl⟩
 rw [if_neg h11]
 (refine rn ?_;intros)
 (refine fr ?_)
 exact ⟨_,Sub.trans (WldA.cls ov hgl M) rP,rfl,rfl⟩
end
section
theorem nodesA_snoc (c:Cfg) (gs:List Ptr) (sts:List NSt) (p:Ptr) (s:NSt) (h:gs.length=sts.length):nodesA c (gs++[p]) (sts++[s])=nodesA c gs sts++[NodeA p.g c sts.length s]:=by
 unfold nodesA
 rw [List.length_append,List.length_singleton,List.range_succ,List.map_append]
 congr 1
 ·refine List.map_congr_left fun i hi=>?_
  have hi2:i<sts.length:=List.mem_range.1 hi
  have hi3:i<gs.length:=by omega
  have e1:(gs++[p]).getD i ⟨0⟩=gs.getD i ⟨0⟩:=by simp only [List.getD_eq_getElem?_getD,List.getElem?_append_left hi3]
  have e2:(sts++[s]).getD i NSt.fresh=sts.getD i NSt.fresh:=by simp only [List.getD_eq_getElem?_getD,List.getElem?_append_left hi2]
  rw [e1,e2]
 ·have e1:(gs++[p]).getD sts.length ⟨0⟩=p:=by rw [← h];simp [List.getD_eq_getElem?_getD]
  have e2:(sts++[s]).getD sts.length NSt.fresh=s:=by simp [List.getD_eq_getElem?_getD]
  simp only [List.map_cons,List.map_nil,e1,e2]
def newN (c:Cfg) (j:Nat):List NSt:=(List.range j).map fun (i:Nat)=>(NSt.fresh.start c i).1
attribute [local irreducible] Star NodeA HubA LkA nodesA
theorem wNewA (c:Cfg) (M:List Assn) (hc:c.May):Fn Tryz.prog 21 #[.agg (Rep.cells c).toArray] M
  fun v L'=>∃ gw,v=.tuple #[ptrV gw,.int .i64 0]∧L'=WldA gw c (WSt.new c)::M:=by
 have hn:=hc.n
 refine Fn.of_ex Tryz.func21 rfl Tryz.ntmps21 rfl ?_
 (refine rn ?_;(repeat (first | intro (g:Nat) | intro (v:Value) | intro (o:O1 _) | intro (cs:List Value) | intro (hcs:_=List.set _ _ _) | intro (zs:List _) | intro h)))
 refine st_callIs [] rJ Tryz.call55 rJ rJ (hNewA c _ hc) ?_
 rintro _ _ ⟨gh,rfl,rfl⟩
 (refine rn ?_;(repeat (first | intro (g:Nat) | intro (v:Value) | intro (o:O1 _) | intro (cs:List Value) | intro (hcs:_=List.set _ _ _) | intro (zs:List _) | intro h)))
 refine st_callIs [] rJ Tryz.call56 rJ rJ (lkNewA _) ?_
 rintro _ _ ⟨gl,rfl,rfl⟩
 (refine rn ?_;(repeat (first | intro (g:Nat) | intro (v:Value) | intro (o:O1 _) | intro (cs:List Value) | intro (hcs:_=List.set _ _ _) | intro (zs:List _) | intro h)))
 rename_i gc
 revert g
 intro gw
 obtain ⟨N,hcn⟩:∃ N:Nat,c.n=N:=⟨c.n.toNat,by omega⟩
 rw [hcn]
 refine Ex.sub (L':=WdB gw gh gl (.slice none 0 0)::Nds (.slice none 0 0) []::Star (nodesA c [] [])::HubA gh c ((HSt.fresh c).start c).1::LkA gl []::Blk gc 23 (Rep.cells c)::M) ?_ (Sub.cons _ (Sub.trans (Sub.empty (α:=Ptr) none 116 _) (Sub.trans (by unfold nodesA;exact Star.nil _) rP)))
 refine Ex.loop [24] (fun z vs2 L'=>∃ (j:Nat) (vs:Value) (gs:List Ptr),j≤N∧z=N - j∧vs.oneCell'=true∧gs.length=j∧vs2=[.int .i64 j]∧L'=WdB gw gh gl vs::Nds vs gs::Star (nodesA c gs (newN c j))::HubA gh c ((HSt.fresh c).start c).1::LkA gl []::Blk gc 23 (Rep.cells c)::M) N ⟨0,.slice none 0 0,[],by omega,rfl,rfl,rfl,rfl,rfl⟩ ?_
 rintro z vs2 g1 L1 ⟨j,vs,gs,hj,rfl,ovs,hgl,rfl,rfl⟩
 refine Ex.keep [1,6,23,24] rG (fun gk=>?_)
 have hlj:(newN c j).length=j:=by unfold newN;rw [List.length_map,List.length_range]
 by_cases hlt:j<N
 ·have hnew:newN c (j+1)=newN c j++[(NSt.fresh.start c j).1]:=by unfold newN;rw [List.range_succ,List.map_append];rfl
  (refine rn ?_;(repeat (first | intro (g:Nat) | intro (v:Value) | intro h)))
  refine st_callIs [] rJ Tryz.call57 rJ rJ (nNewA c j _ hc rM) ?_
  rintro _ _ ⟨gn,rfl,rfl⟩
  (refine rn ?_;(repeat (first | intro (g:Nat) | intro (v:Value) | intro h)))
  refine st_slice1V (⟨gn⟩:Ptr) rJ rJ rJ rJ rJ rJ rJ rJ (fun g=>?_)
  (refine rn ?_;(repeat (first | intro (v:Value) | intro h)))
  have hsn:=nodesA_snoc c gs (newN c j) ⟨gn⟩ (NSt.fresh.start c j).1 (by rw [hlj];exact hgl)
  rw [hlj] at hsn
  refine rnd_n ⟨N - (j+1),WdB gw gh gl v::Nds v (gs++[⟨gn⟩])::Star (nodesA c (gs++[⟨gn⟩]) (newN c (j+1)))::HubA gh c ((HSt.fresh c).start c).1::LkA gl []::Blk gc 23 (Rep.cells c)::M,by omega,?_,j+1,v,gs++[⟨gn⟩],by omega,rfl,by assumption,by simp [hgl],lcons (vint rM) rfl,rfl⟩
  rw [hnew,hsn]
  exact Sub.trans (B:=Star (nodesA c gs (newN c j)++[NodeA gn c j (NSt.fresh.start c j).1])::WdB gw gh gl v::Nds v (gs++[⟨gn⟩])::HubA gh c ((HSt.fresh c).start c).1::LkA gl []::Blk gc 23 (Rep.cells c)::M) rP (Sub.trans (Star.last _ _) rP)
 ·obtain rfl:j=N:=by omega
  (refine rn ?_;intros)
  (refine fr ?_)
  have hk:(WSt.new c).nodes=newN c j:=by unfold WSt.new newN;rw [hcn,Int.toNat_natCast]
  refine ⟨_,Sub.trans (WldA.cls (gh:=gh) (gl:=gl) (vs:=vs) (gs:=gs) ovs (by rw [hk,hlj];exact hgl) M) ?_,gw,rfl,rfl⟩
  show Sub (WdB gw gh gl vs::Nds vs gs::Star (nodesA c gs (WSt.new c).nodes)::HubA gh c ((HSt.fresh c).start c).1::LkA gl []::M) _
  rw [hk]
  exact rP
end
end
section
structure Wd (F:Fence):Prop where
 fn:∀ f,F.fn f
 depth:F.depth=none
 calls:∀ {n:Nat} {P:Program} {f:FuncId} {args:Array Value} {w:World} {R:Ending→World→Prop},Calls P f args w R→CallsIn F n P f args w R
 rows:∀ {n:Nat} {P:Program} {r:String} {args:Array Value} {w:World} {R:Value→World→Prop},Rows P r args w R→RowsIn F n P r args w R
theorem rows_wide {n:Nat} {P:Program} {r:String} {args:Array Value} {w:World} {R:Value→World→Prop} (h:Rows P r args w R):RowsIn Fence.wide n P r args w R:=fun c cs hr =>
 let ⟨v,w',hR,s⟩:=h c cs
 ⟨v,w',hR,stepsIn_wide.2 s⟩
theorem Wd.wide:Wd Fence.wide:=⟨fun _=>trivial,rfl,fun h=>callsIn_wide.2 h,fun h=>rows_wide h⟩
theorem Wd.round (l:Nat):Wd (Fence.wide.inRound l):=⟨fun _=>trivial,rfl,fun h=>CallsIn.inRound l (callsIn_wide.2 h),fun h=>rows_wide h⟩
def noDefer (o:Oper):Bool:=match o.op with | .defer _=>false | _=>true
theorem semAt_wd {F:Fence} (ρ:Operand→Value) (o:Oper) (h:noDefer o=true):o.semAt F.round ρ=execOp ρ o:=by
 cases F.round with
 | none=>rfl
 | some l=>exact Oper.semAt_some l ρ o (fun c hc=>by unfold noDefer at h;rw [hc] at h;cases h)
theorem upon_in {F:Fence} (hF:Wd F) {n:Nat} {P:Program} {o:Oper} {a:Act} {next next':Act→World→Prop} {Q Q':Exit→Act→World→Prop} (hn:∀ a w,next a w→next' a w) (hp:∀ c a w,Q (.panic c) a w→Q' (.panic c) a w)
  (hl:¬ LetsOut Q) {r:Result Next} (h:o.upon P a next Q r):o.uponIn F n P a next' Q' r:=by
 have hd:F.depth.isSome=true→1≤n:=fun e=>by rw [hF.depth] at e;cases e
 cases r with
 | halt x w' =>
  cases x with
  | panic v=>exact hp _ _ _ h
  | _=>exact h.elim
 | ok nx w' =>
  cases nx with
  | value v=>exact hn _ _ h
  | skip=>exact hn _ _ h
  | defer d=>exact hn _ _ h
  | enter f args =>
   refine ⟨hd,hF.calls (Calls.mono h fun e w2 he=>?_)⟩
   cases e with
   | returned v=>exact hn _ _ he
   | panicked c=>exact hp _ _ _ he
   | outgrown=>exact absurd he hl
  | row r args=>exact ⟨hd,hF.rows (Rows.mono h fun v w2 he=>hn _ _ he)⟩
  | _=>exact h.elim
theorem list_in {F:Fence} (hF:Wd F) {n:Nat} {P:Program} {ops:Array Oper} {Q Q':Exit→Act→World→Prop} (hp:∀ c a w,Q (.panic c) a w→Q' (.panic c) a w) (hl:¬ LetsOut Q) (l2:List Oper)
  (hq:∀ a w,Q .normal a w→wpListIn F n P ops Q' l2 a w):∀ (l1:List Oper),l1.all noDefer=true→∀ a w,wpList P ops Q l1 a w→wpListIn F n P ops Q' (l1++l2) a w
 | [],_,a,w,h=>hq a w h
 | o::l1,hd,a,w,h=>by
  rw [List.all_cons,Bool.and_eq_true] at hd
  show wpListIn F n P ops Q' (o::(l1++l2)) a w
  have h:(if Region.wanted o (yielded ops a.tmps) then o.wp P a w (wpList P ops Q l1) Q∨(o.asks P a w∧LetsOut Q) else wpList P ops Q l1 (a.put o.dst undef) w):=h
  show (if Region.wanted o (yielded ops a.tmps) then o.wpIn F n P a w (wpListIn F n P ops Q' (l1++l2)) Q' else (∀ f,o.about P w a.eval=some f→F.fn f)∧wpListIn F n P ops Q' (l1++l2) (a.put o.dst undef) w)
  split
  ·rename_i hw
   rw [if_pos hw] at h
   rcases h with h | h
   ·refine ⟨fun f _=>hF.fn f,?_⟩
    rw [semAt_wd a.eval o hd.1]
    exact upon_in hF (fun a w k=>list_in hF hp hl l2 hq l1 hd.2 a w k) hp hl h
   ·exact absurd h.2 hl
  ·rename_i hw
   rw [if_neg hw] at h
   exact ⟨fun f _=>hF.fn f,list_in hF hp hl l2 hq l1 hd.2 _ w h⟩
def Calm (Q:Post):Prop:=∀ e f L,Q e f L→(∀ c,e≠.panic c)∧e≠.outgrown
section
variable {P:Program} {n:Nat} {Q:Post} {f:Nat→Value} {L:List Assn}
theorem Calm.lets {Q:Post} (h:Calm Q) {D:List Deferred} {F:Frag} {w0:World} {f0:Nat→Value} {ws:Nat→Bool}:¬ LetsOut (Lift D n F w0 f0 ws Q):=fun ⟨a,w,f,L,_,q⟩=>(h _ _ _ q).2 rfl
def ExY (P:Program) (n:Nat) (ops:Array Oper) (l:List Oper) (Q:Post) (f:Nat→Value) (L:List Assn):Prop :=
 ∀ D F w0 f0 ws a w,Here D n F w0 f0 ws a w f L→(∀ d,d∈writesL l→ws d=true)→wpListIn Fence.wide 0 P ops (Lift D n F w0 f0 ws Q) l a w
theorem Ex.regionY {id:Nat} {ops:Array Oper} (h:ExY P n ops ops.toList Q f L):Ex P n (.region id ops false) Q f L:=fun D F w0 f0 ws a w H hc =>
 wpIn_wide.1 (wpIn_region_list (h D F w0 f0 ws a w H hc))
theorem writesL_app (l1 l2:List Oper):writesL (l1++l2)=writesL l1++writesL l2:=by
 induction l1 with
 | nil=>rfl
 | cons o l ih =>
  rw [List.cons_append]
  cases h:o.dst <;> simp [writesL,h,ih]
def midY (P:Program) (n:Nat) (ops:Array Oper) (l2:List Oper) (Q:Post):Post
 | .normal,f,L=>ExY P n ops l2 Q f L
 | _,_,_=>False
theorem ExY.app {ops:Array Oper} (l1 l2:List Oper) (hd:l1.all noDefer=true) (h:ExL P n ops l1 (midY P n ops l2 Q) f L):ExY P n ops (l1++l2) Q f L:=fun D F w0 f0 ws a w H hc=>by
 rw [writesL_app] at hc
 refine list_in (Q:=Lift D n F w0 f0 ws (midY P n ops l2 Q)) Wd.wide (fun c a w ⟨f,L,_,q⟩=>q.elim) (fun ⟨a,w,f,L,_,q⟩=>q.elim) l2 ?_ l1 hd a w (h D F w0 f0 ws a w H fun d hd=>hc d (List.mem_append_left _ hd))
 rintro a w ⟨f,L,H,q⟩
 exact q D F w0 f0 ws a w H fun d hd=>hc d (List.mem_append_right _ hd)
theorem ExY.of {ops:Array Oper} {l:List Oper} (hd:l.all noDefer=true) (hQ:Calm Q) (h:ExL P n ops l Q f L):ExY P n ops l Q f L:=fun D F w0 f0 ws a w H hc=>by
 have:=list_in (Q:=Lift D n F w0 f0 ws Q) (Q':=Lift D n F w0 f0 ws Q) (P:=P) (ops:=ops) (n:=0) Wd.wide (fun c a w h=>h) hQ.lets [] (fun a w h=>h) l hd a w (h D F w0 f0 ws a w H hc)
 rwa [List.append_nil] at this
def ExI (l:Nat) (P:Program) (n:Nat) (c:Code) (Q:Post) (f:Nat→Value) (L:List Assn):Prop :=
 ∀ D F w0 f0 ws a w,Here D n F w0 f0 ws a w f L→Within c ws→c.wpIn (Fence.wide.inRound l) 0 P (Lift D n F w0 f0 ws Q) a w
def thnI (l:Nat) (P:Program) (n:Nat) (c:Code) (Q:Post):Post
 | .normal,f,L=>ExI l P n c Q f L
 | e,f,L=>Q e f L
theorem thnI_n {l:Nat} {c:Code} (h:ExI l P n c Q f L):thnI l P n c Q .normal f L:=h
theorem Calm.thnI {l:Nat} {c:Code} (h:Calm Q):Calm (thnI l P n c Q):=fun e f L q=>by
 cases e with
 | normal=>exact ⟨(fun c h=>by cases h),(fun h=>by cases h)⟩
 | _=>exact h _ _ _ q
theorem Calm.inb {id:Nat} (h:Calm Q):Calm (inb id Q):=fun e f L q=>by
 cases e with
 | exit k=>exact ⟨(fun c h=>by cases h),(fun h=>by cases h)⟩
 | _=>exact h _ _ _ q
theorem ExI.region {l id:Nat} {ops:Array Oper} (hd:ops.toList.all noDefer=true) (hQ:Calm Q) (h:ExL P n ops ops.toList Q f L):ExI l P n (.region id ops false) Q f L:=fun D F w0 f0 ws a w H hc=>by
 refine wpIn_region_list ?_
 have:=list_in (Q:=Lift D n F w0 f0 ws Q) (Q':=Lift D n F w0 f0 ws Q) (P:=P) (ops:=ops) (n:=0) (Wd.round l) (fun c a w h=>h) hQ.lets [] (fun a w h=>h) ops.toList hd a w (h D F w0 f0 ws a w H hc)
 rwa [List.append_nil] at this
theorem ExI.seq {l:Nat} {x y:Code} (h:ExI l P n x (thnI l P n y Q) f L):ExI l P n (.seq x y) Q f L:=fun D F w0 f0 ws a w H hc =>
 wpIn_seq (wpIn_mono (h D F w0 f0 ws a w H fun d hd=>hc d (List.mem_append_left _ hd)) fun e a w ⟨f,L,H,q⟩=>by
  cases e with
  | normal=>exact q D F w0 f0 ws a w H fun d hd=>hc d (List.mem_append_right _ hd)
  | _=>exact ⟨f,L,H,q⟩)
theorem ExI.skip {l:Nat} (h:Q .normal f L):ExI l P n .skip Q f L:=fun D F w0 f0 ws a w H hc=>wpIn_skip ⟨f,L,H,h⟩
theorem ExI.cond_t {l:Nat} {c:Operand} {x y:Code} (hc:evalF f c=.bool true) (h:ExI l P n x Q f L):ExI l P n (.cond c x y) Q f L:=fun D F w0 f0 ws a w H hw =>
 wpIn_cond_true (by rw [H.2.1.eval];exact hc) (h D F w0 f0 ws a w H fun d hd=>hw d (List.mem_append_left _ hd))
theorem ExI.cond_f {l:Nat} {c:Operand} {x y:Code} (hc:evalF f c=.bool false) (h:ExI l P n y Q f L):ExI l P n (.cond c x y) Q f L:=fun D F w0 f0 ws a w H hw =>
 wpIn_cond_false (by rw [H.2.1.eval];exact hc) (h D F w0 f0 ws a w H fun d hd=>hw d (List.mem_append_right _ hd))
theorem ExI.block {l id:Nat} {c:Code} (h:ExI l P n c (inb id Q) f L):ExI l P n (.block id c) Q f L:=fun D F w0 f0 ws a w H hc =>
 wpIn_block (wpIn_mono (h D F w0 f0 ws a w H hc) fun e a w ⟨f,L,H,q⟩=>by
  cases e with
  | exit k =>
   simp only [Exit.inBlock]
   by_cases hk:k=id
   ·rw [if_pos hk]
    subst hk
    refine ⟨f,L,H,?_⟩
    simp only [Go.Proofs.YtogcfijlhpaeeaaGreat.inb] at q
    rw [show Nat.beq k k=true by simp] at q
    exact q
   ·rw [if_neg hk]
    refine ⟨f,L,H,?_⟩
    simp only [Go.Proofs.YtogcfijlhpaeeaaGreat.inb] at q
    cases hb:Nat.beq k id with
    | true=>exact absurd (Nat.eq_of_beq_eq_true hb) hk
    | false=>rw [hb] at q;exact q
  | _=>exact ⟨f,L,H,q⟩)
end
end
section
theorem Sats.putPt {w:World} {l:Nat} {o o':Obj} {L:List Assn} {F:Frag} (s:Sats w (Pt l o::L) F):w.heap[l]?=some o∧Sats (w.putObj l o') (Pt l o'::L) F:=by
 obtain ⟨h,rfl,d,s⟩:=s
 have hl:=Sats.frame_left s l o (Frag.one_self l o)
 have hlt:=(Array.getElem?_eq_some_iff.1 hl).1
 refine ⟨hl,Frag.one l o',rfl,fun n=>?_,?_⟩
 ·rcases d n with x | x
  ·left
   by_cases hn:n=l
   ·subst hn;rw [Frag.one_self] at x;cases x
   ·exact Frag.one_other o' hn
  ·exact .inr x
 ·refine Sats.swap (h:=Frag.one l o) (h':=Frag.one l o') (fun n hn=>?_) (fun n x hn hx=>?_) (fun n x hx=>?_) d s
  ·by_cases e:n=l
   ·subst e;rw [Frag.one_self] at hn;cases hn
   ·exact Frag.one_other o' e
  ·by_cases e:n=l
   ·subst e;rw [Frag.one_self] at hn;cases hn
   ·exact (World.putObj_heap_other rM).trans hx
  ·by_cases e:n=l
   ·subst e
    rw [Frag.one_self] at hx
    cases hx
    exact World.putObj_heap_same hlt
   ·rw [Frag.one_other o' e] at hx;cases hx
theorem Rest.putObj {a b:World} (h:Rest a b) (l:Nat) (o:Obj):Rest a (b.putObj l o):=h
@[reducible] def recL (st:LoopState) (fn:FuncId) (tm:Array Value) (p:Nat) (A B:Code) (D:Nat):Obj:=.loop { state:=st,pending:=none,fn:=fn,tmps:=tm,params:=#[p],assign:=A,body:=B,defers:=D }
def rndB (l:Nat) (o:Obj) (K:List Assn→Prop):Post
 | .normal,_,L=>∃ M,Sub (Pt l o::M) L∧K M
 | _,_,_=>False
def rndA (l:Nat) (P:Program) (nb:Nat) (o1 o2:Obj) (B:Code) (K:List Assn→Prop):Post
 | .normal,f,L=>∃ M,Sub (Pt l o1::M) L∧ExI l P nb B (rndB l o2 K) f (Pt l o2::M)
 | _,_,_=>False
theorem roundPost_n {P:Program} {l:Nat} {R:Ending→World→Prop} {a:Act} {w:World} (h:∃ v w',(Instr.endRound l none).run P w=.ok v w'∧R (.returned v) w'):roundPost P l R .normal a w:=h
section
variable {P:Program} {n:Nat} {Q:Post} {f:Nat→Value} {L:List Assn}
theorem ExY.yield {ops:Array Oper} {dd:Option Nat} {x y:Operand} {ts:Array TypeId} {ty:TypeId} {pos:String} {af:Array Edge} {rest:List Oper} {l:Nat} {v:Value} {fn:FuncId} {tm:Array Value} {p nb D0:Nat} {A B:Code} {fb:Nat→Value} {M:List Assn} {K:List Assn→Prop}
  (hd:dstOk n dd=true) (hx:evalF f x=.func (.yield l) #[] #[]) (hy:evalF f y=v) (hnb:tm.size=nb) (hp:p<nb) (hfb:∀ t,tm.getD t undef=fb t)
  (hA:ExI l P nb A (rndA l P nb (recL .ready fn tm p A B D0) (recL .busy fn tm p A B D0) B K) (upd fb p v) (Pt l (recL .ready fn tm p A B D0)::M))
  (h:∀ M',K M'→ExY P n ops rest Q (updo f dd (.bool true)) (Pt l (recL .ready fn tm p A B D0)::M')) :
  ExY P n ops (⟨dd,.call ⟨.value x,#[y],ts⟩,ty,pos,af,none⟩::rest) Q f (Pt l (recL .ready fn tm p A B D0)::M):=fun D F w0 f0 ws a w H hc=>by
 have hL:=(Sats.putPt (o':=recL .ready fn tm p A B D0) H.2.2.1).1
 have hrun:(execOp a.eval ⟨dd,.call ⟨.value x,#[y],ts⟩,ty,pos,af,none⟩).run P w=.ok (.round l fn (tm.setIfInBounds p v) A B) w:=by
  rw [H.2.1.eval]
  have:=run_yield (P:=P) (args:=#[v]) hL rfl
  simpa [execOp,resolve,Deferred.ofValue,hx,hy,invoke] using this
 show (if Region.wanted _ (yielded ops a.tmps) then _ else _)
 rw [if_pos rJ]
 refine ⟨fun f _=>trivial,?_⟩
 rw [show (Fence.wide.round:Option Nat)=none from rfl,Oper.semAt_none,hrun]
 refine ⟨(fun e=>by cases e),?_⟩
 refine roundIn_of_wpIn trivial ?_
 have agb:Agree [] nb { tmps:=tm.setIfInBounds p v,defers:=[] } (upd fb p v):=by
  refine ⟨rfl,by simpa using hnb,fun t=>?_⟩
  by_cases ht:t=p
  ·subst ht
   rw [upd_self]
   simp [Array.getD,hnb,hp]
  ·rw [upd_other _ _ ht,← hfb t]
   simp only [Array.getD_eq_getD_getElem?,Array.getElem?_setIfInBounds_ne (Ne.symm ht)]
 refine wpIn_mono (hA [] F w0 (upd fb p v) (fun _=>true) _ w ⟨H.1,agb,H.2.2.1,fun t ht=>by cases ht⟩ (fun _ _=>rfl)) ?_
 rintro e a1 w1 ⟨f1,L1,H1,q⟩
 cases e with
 | normal =>
  obtain ⟨M1,hs1,hB⟩:=q
  have s1:=hs1 w1 F H1.2.2.1
  obtain ⟨hl1,s2⟩:=Sats.putPt (o':=recL .busy fn tm p A B D0) s1
  refine ⟨_,run_beginRound hl1 rfl,?_⟩
  refine wpIn_mono (hB [] F w0 (upd fb p v) (fun _=>true) a1 _ ⟨H1.1,H1.2.1,s2,fun t ht=>by cases ht⟩ (fun _ _=>rfl)) ?_
  rintro e a2 w2 ⟨f2,L2,H2,q⟩
  cases e with
  | normal =>
   obtain ⟨M2,hs2,hK⟩:=q
   have s3:=hs2 w2 F H2.2.2.1
   obtain ⟨hl2,s4⟩:=Sats.putPt (o':=recL .ready fn tm p A B D0) s3
   refine roundPost_n ⟨_,_,run_endRound none hl2,?_⟩
   have HH:Here D n F w0 f0 ws (a.put dd (.bool true)) (w2.putObj l (recL .ready fn tm p A B D0)) (updo f dd (.bool true)) (Pt l (recL .ready fn tm p A B D0)::M2):=by
    have:=Here.puto (w':=w) H (Rest.refl w) H.2.2.1 hd (fun t ht=>hc t (mem_writesL (o:=⟨dd,.call ⟨.value x,#[y],ts⟩,ty,pos,af,none⟩) (t:=0) ht)) (.bool true)
    exact ⟨H2.1,this.2.1,s4,this.2.2.2⟩
   exact h M2 hK D F w0 f0 ws _ _ HH fun d hd=>hc d (mem_writesL' (t:=d) hd)
  | _=>exact q.elim
 | _=>exact q.elim
def marksD (ms:List Nat):List Deferred:=ms.map fun k=>{ target:=.collected k,args:=#[] }
def HereM (n:Nat) (F:Frag) (w0:World) (f0:Nat→Value) (ws:Nat→Bool) (a:Act) (w:World) (f:Nat→Value) (L:List Assn):Prop :=
 ∃ (ms:List Nat) (G:Frag),ms.Nodup∧G.disj F∧(∀ k∈ms,G k=some (.deferred (some [])))∧Here (marksD ms) n (G.add F) w0 f0 ws a w f L
def LiftM (n:Nat) (F:Frag) (w0:World) (f0:Nat→Value) (ws:Nat→Bool) (Q:Post):Exit→Act→World→Prop :=
 fun e a w=>∃ f L,HereM n F w0 f0 ws a w f L∧Q e f L
def ExM (P:Program) (n:Nat) (c:Code) (Q:Post) (f:Nat→Value) (L:List Assn):Prop :=
 ∀ F w0 f0 ws a w,HereM n F w0 f0 ws a w f L→Within c ws→c.wp P (LiftM n F w0 f0 ws Q) a w
def thnM (P:Program) (n:Nat) (c:Code) (Q:Post):Post
 | .normal,f,L=>ExM P n c Q f L
 | e,f,L=>Q e f L
theorem thnM_n {c:Code} (h:ExM P n c Q f L):thnM P n c Q .normal f L:=h
theorem thnM_ret {c:Code} (h:Q .ret f L):thnM P n c Q .ret f L:=h
theorem thnM_exit {c:Code} {k:Nat} (h:Q (.exit k) f L):thnM P n c Q (.exit k) f L:=h
theorem ExM.of {c:Code} (h:Ex P n c Q f L):ExM P n c Q f L:=fun F w0 f0 ws a w ⟨ms,G,hn,hd,hG,H⟩ hc =>
 wp_mono (h (marksD ms) (G.add F) w0 f0 ws a w H hc) fun e a w ⟨f,L,H,q⟩=>⟨f,L,⟨ms,G,hn,hd,hG,H⟩,q⟩
theorem ExM.sub {c:Code} {L':List Assn} (h:ExM P n c Q f L') (hs:Sub L' L):ExM P n c Q f L:=fun F w0 f0 ws a w ⟨ms,G,hn,hd,hG,r,ag,s,k⟩ hc =>
 h F w0 f0 ws a w ⟨ms,G,hn,hd,hG,r,ag,hs w _ s,k⟩ hc
theorem ExM.seq {x y:Code} (h:ExM P n x (thnM P n y Q) f L):ExM P n (.seq x y) Q f L:=fun F w0 f0 ws a w H hc =>
 wp_seq (wp_mono (h F w0 f0 ws a w H fun d hd=>hc d (List.mem_append_left _ hd)) fun e a w ⟨f,L,H,q⟩=>by
  cases e with
  | normal=>exact q F w0 f0 ws a w H fun d hd=>hc d (List.mem_append_right _ hd)
  | _=>exact ⟨f,L,H,q⟩)
theorem ExM.block {id:Nat} {c:Code} (h:ExM P n c (inb id Q) f L):ExM P n (.block id c) Q f L:=fun F w0 f0 ws a w H hc =>
 wp_block (wp_mono (h F w0 f0 ws a w H hc) fun e a w ⟨f,L,H,q⟩=>by
  cases e with
  | exit k =>
   simp only [Exit.inBlock]
   by_cases hk:k=id
   ·rw [if_pos hk]
    subst hk
    refine ⟨f,L,H,?_⟩
    simp only [Go.Proofs.YtogcfijlhpaeeaaGreat.inb] at q
    rw [show Nat.beq k k=true by simp] at q
    exact q
   ·rw [if_neg hk]
    refine ⟨f,L,H,?_⟩
    simp only [Go.Proofs.YtogcfijlhpaeeaaGreat.inb] at q
    cases hb:Nat.beq k id with
    | true=>exact absurd (Nat.eq_of_beq_eq_true hb) hk
    | false=>rw [hb] at q;exact q
  | _=>exact ⟨f,L,H,q⟩)
theorem ExM.loop {c:Code} (ss:List Nat) (I:Nat→List Value→List Assn→Prop) (m0:Nat) (h0:I m0 (ss.map f) L)
  (round:∀ (m:Nat) (vs:List Value) (g:Nat→Value) (L':List Assn),I m vs L'→ExM P n c (rnd I m ss Q) (upds (havoc f g (writes c)) ss vs) L'):ExM P n (.loop c) Q f L:=fun F w0 f0 ws a w H hc=>by
 let J:Act→World→Nat→Prop:=fun a w m=>∃ f' L',HereM n F w0 f (fun t=>(writes c).any (Nat.beq t)) a w f' L'∧I m (ss.map f') L'
 obtain ⟨ms,G,hn,hd,hG,r,ag,s,hf0⟩:=H
 refine wp_mono (Q:=LiftM n F w0 f (fun t=>(writes c).any (Nat.beq t)) Q) ?_ ?_
 ·refine wp_loop (fun a w=>∃ m,J a w m) (fun a w=>leastOf (J a w)) ⟨m0,f,L,⟨ms,G,hn,hd,hG,r,ag,s,fun _ _=>rfl⟩,h0⟩ ?_
  rintro a w ⟨m,hJ⟩
  have hl:=(leastOf_spec hJ).1
  obtain ⟨f',L',H,hI⟩:=hl
  have hf:∀ t,(writes c).any (Nat.beq t)=false→f' t=f t:=by
   obtain ⟨_,_,_,_,_,H⟩:=H
   exact H.2.2.2
  have e:f'=upds (havoc f f' (writes c)) ss (ss.map f'):=by
   have:havoc f f' (writes c)=f':=by
    funext t
    unfold havoc
    cases hb:(writes c).any (Nat.beq t) with
    | true=>simp only [hb]
    | false=>simp only [hb];exact (hf t hb).symm
   rw [this,upds_self]
  have h1:=round _ _ f' L' hI
  rw [← e] at h1
  refine wp_mono (h1 F w0 f _ a w H (fun d hd=>by simp only [List.any_eq_true];exact ⟨d,hd,by simp⟩)) ?_
  rintro e a w ⟨f2,L2,⟨ms2,G2,hn2,hd2,hG2,H⟩,q⟩
  cases e with
  | normal =>
   obtain ⟨m',L3,hm',hs3,hI'⟩:=q
   have hJ':J a w m':=⟨f2,L3,⟨ms2,G2,hn2,hd2,hG2,H.1,H.2.1,hs3 w _ H.2.2.1,H.2.2.2⟩,hI'⟩
   exact ⟨⟨m',hJ'⟩,Nat.lt_of_le_of_lt (leastOf_spec hJ').2 hm'⟩
  | _=>exact ⟨f2,L2,⟨ms2,G2,hn2,hd2,hG2,H⟩,q⟩
 ·rintro e a w ⟨f2,L2,⟨ms2,G2,hn2,hd2,hG2,r,ag,s,k⟩,q⟩
  refine ⟨f2,L2,⟨ms2,G2,hn2,hd2,hG2,r,ag,s,fun t ht=>?_⟩,q⟩
  rw [← hf0 t ht]
  refine k t ?_
  cases hb:(writes c).any (Nat.beq t) with
  | false=>exact hb
  | true =>
   simp only [List.any_eq_true] at hb
   obtain ⟨d,hd,hdt⟩:=hb
   have:=Nat.eq_of_beq_eq_true hdt
   subst this
   rw [hc t hd] at ht
   cases ht
end
end
end Go.Proofs.YtogcfijlhpaeeaaGreat
