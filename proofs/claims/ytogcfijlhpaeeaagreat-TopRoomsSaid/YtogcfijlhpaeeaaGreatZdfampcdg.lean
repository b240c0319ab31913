/- Texts, one behind the other. No condition. -/
import Derived.Test.YtogcfijlhpaeeaaGreatZcdhpjgdh
import Derived.Test.YtogcfijlhpaeeaaGreatZcjnnfnef
import Derived.Test.YtogcfijlhpaeeaaGreatZehjcikgl
import Derived.Test.YtogcfijlhpaeeaaGreatZiegkalfj
import Derived.Test.YtogcfijlhpaeeaaGreatZlfhngpji
open Go.RowKit
set_option linter.unusedSimpArgs false
set_option linter.unusedVariables false
set_option linter.unusedSectionVars false
set_option maxHeartbeats 32000000
namespace Go.Proofs.YtogcfijlhpaeeaaGreat
section
instance:EqT Tryz.prog 90 Mk:=⟨6,[.i .i64,.i .i64],by kernel_rfl,by kernel_rfl,by kernel_rfl,by kernel_rfl,fun _=>rfl,fun a b h=>by
 obtain ⟨a1,a2⟩:=a
 obtain ⟨b1,b2⟩:=b
 simp only [Rep.cells,List.cons.injEq,Value.int.injEq,true_and,and_true] at h
 simp [h]⟩
structure SiteV where
 p:SiteP
 u1:Value
 u2:Value
 o1:u1.oneCell'=true
 o2:u2.oneCell'=true
instance:Inhabited SiteV:=⟨⟨SiteP.zero,.slice none 0 0,.slice none 0 0,rfl,rfl⟩⟩
instance:Rep SiteV:=⟨9,fun s=>siteC s.p s.u1 s.u2,by decide,fun _=>rfl,fun s=>by simp only [siteC,List.all_cons,s.o1,s.o2];rfl⟩
instance:ZRep Tryz.prog 65 SiteV:=⟨⟨SiteP.zero,.slice none 0 0,.slice none 0 0,rfl,rfl⟩,by kernel_rfl,by kernel_rfl⟩
def SiteV.own (s:SiteV):Assn:=Two (Mks s.u1 s.p.held) (Mks s.u2 s.p.log)
@[reducible] def Sites (v:Value) (l:List SiteV):Assn:=RowT v 65 l
def WSt.sites (w:WSt):List SiteP:=w.nodes.map NSt.site
theorem SiteV.cls (s:SiteV) (L:List Assn):Sub (SiteV.own s::L) (Mks s.u1 s.p.held::Mks s.u2 s.p.log::L):=Two.cls _ _ _
theorem SiteV.rd {ss:List SiteV} {i:Nat} (h:i<ss.length) (L:List Assn):RdT (Star (ss.map SiteV.own)::L) (ss[i]'h).u1 (ss[i]'h).p.held∧RdT (Star (ss.map SiteV.own)::L) (ss[i]'h).u2 (ss[i]'h).p.log:=by
 have hf:Sub (SiteV.own (ss[i]'h)::Star ((ss.map SiteV.own).eraseIdx i)::L) (Star (ss.map SiteV.own)::L):=Star.focus L (by simp [h])
 have hs:Sub (Mks (ss[i]'h).u1 (ss[i]'h).p.held::Mks (ss[i]'h).u2 (ss[i]'h).p.log::Star ((ss.map SiteV.own).eraseIdx i)::L) (Star (ss.map SiteV.own)::L):=Sub.trans (Two.opn _ _ _) hf
 exact ⟨RdT.sub (RdT.row 0 rfl) hs,RdT.sub (RdT.row 1 rfl) hs⟩
theorem WOk.lens {k:Nat} {c:Cfg} {w:WSt} (ok:WOk k c w) (hk:k≤198):∀ p∈w.sites,p.held.length≤10000∧p.log.length≤10000:=by
 intro p hp
 obtain ⟨s,hs,rfl⟩:=List.mem_map.1 hp
 obtain ⟨i,hi,rfl⟩:=List.getElem_of_mem hs
 have okn:=ok.nd i hi
 unfold NSt.site
 split
 ·rename_i hu
  have h1:=(okn.held hu).1
  have h2:=okn.cm.h
  have h3:=okn.rlen
  rw [(okn.up hu).2] at h3
  simp only [List.length_map]
  constructor
  ·omega
  ·simp only at h3;omega
 ·exact ⟨Nat.zero_le _,Nat.zero_le _⟩
set_option maxRecDepth 20000 attribute [local irreducible] Ex ExL Fn thn inb rnd fin meet Tab Mix mxEnd Val Sats RdT Rd RowT Row Blk Sub Fac ResV RVal Evs subs subs3 Hid Capd
section
attribute [local irreducible] Star NodeA HubA LkA nodesA WldA SiteV.own
theorem standing_F {k:Nat} (gw:Nat) (c:Cfg) (w:WSt) (M:List Assn) (ok:WOk k c w) (hk:k≤198) (n:Nat) (hn:w.nodes.length=n) :
  Fn Tryz.prog 16 #[ptrV gw,.int .i64 n] (WldA gw c w::M) fun v L'=>∃ ss:List SiteV,v.oneCell'=true∧ss.map SiteV.p=w.sites∧L'=Sites v ss::Star (ss.map SiteV.own)::WldA gw c w::M:=by
 have hn5:=ok.n5
 refine Fn.of_ex Tryz.func16 rfl Tryz.ntmps16 rfl ?_
 (refine rn ?_;(repeat (first | intro (g:Nat) | intro (v:Value) | intro (o:O1 _) | intro h)))
 refine Ex.sub (L':=Sites (.slice (some ⟨g,0,none⟩) 0 0) []::Star ([]:List Assn)::WldA gw c w::M) ?_ (Sub.trans (Sub.empty (α:=SiteV) _ 65 _) (Star.nil _))
 refine Ex.loop [5,6] (fun z vs L'=>∃ (j:Nat) (vm:Value) (ss:List SiteV),j≤n∧vm.oneCell'=true∧z=n - j∧ss.map SiteV.p=(w.nodes.take j).map NSt.site∧vs=[vm,.int .i64 j]∧L'=Sites vm ss::Star (ss.map SiteV.own)::WldA gw c w::M) n ⟨0,_,[],by omega,rfl,rfl,rfl,rfl,rfl⟩ ?_
 rintro z vs g1 L1 ⟨j,vm,ss,hj,om,rfl,hss,rfl,rfl⟩
 refine Ex.keep [0,1,5,6] rG (fun gk=>?_)
 have hsl:ss.length≤5:=by
  have:=congrArg List.length hss
  simp only [List.length_map,List.length_take] at this
  omega
 by_cases hlt:j<n
 ·have hjl:j<w.nodes.length:=by omega
  have hh:w.has (j:Int):=⟨by omega,by omega⟩
  have hnd:w.node (j:Int)=w.nodes[j]'hjl:=by
   unfold WSt.node
   rw [show ((j:Int)).toNat=j from Int.toNat_natCast j]
   simp [List.getD_eq_getElem?_getD,hjl]
  have hlt2:(w.nodes.take (j+1)).map NSt.site=(w.nodes.take j).map NSt.site++[(w.node j).site]:=by rw [List.take_succ_eq_append_getElem hjl,List.map_append,hnd];rfl
  (refine rn ?_;(repeat (first | intro (g:Nat) | intro (v:Value) | intro (o:O1 _) | intro h)))
  refine st_callIs [2] rJ Tryz.call22 rE rJ (wSiteA (k:=k) gw c w j _ ok hk hh) ?_
  rintro _ _ ⟨u1,u2,o1,o2,rfl,rfl⟩
  (refine rn ?_;(repeat (first | intro (g:Nat) | intro (v:Value) | intro (o:O1 _) | intro h)))
  refine st_slice1T (a:=(⟨(w.node j).site,u1,u2,o1,o2⟩:SiteV)) rJ rJ rJ rJ (fun g=>?_)
  (refine rn ?_;(repeat (first | intro (v:Value) | intro (o:O1 _) | intro h)))
  refine rnd_n ⟨n - (j+1),Sites v (ss++[(⟨(w.node j).site,u1,u2,o1,o2⟩:SiteV)])::Star ((ss++[(⟨(w.node j).site,u1,u2,o1,o2⟩:SiteV)]).map SiteV.own)::WldA gw c w::M,by omega,?_,j+1,v,ss++[(⟨(w.node j).site,u1,u2,o1,o2⟩:SiteV)],by omega,o,rfl,by rw [List.map_append,hss,hlt2];rfl,lcons rfl (lcons (vint rM) rfl),rfl⟩
  rw [List.map_append]
  exact Sub.trans (B:=SiteV.own (⟨(w.node j).site,u1,u2,o1,o2⟩:SiteV)::Star (ss.map SiteV.own)::Sites v (ss++[(⟨(w.node j).site,u1,u2,o1,o2⟩:SiteV)])::WldA gw c w::M) (Sub.trans (B:=Star (ss.map SiteV.own++[SiteV.own (⟨(w.node j).site,u1,u2,o1,o2⟩:SiteV)])::Sites v (ss++[(⟨(w.node j).site,u1,u2,o1,o2⟩:SiteV)])::WldA gw c w::M) rP (Star.last _ _)) (Sub.trans (B:=Mks u1 (w.node j).site.held::Mks u2 (w.node j).site.log::Star (ss.map SiteV.own)::Sites v (ss++[(⟨(w.node j).site,u1,u2,o1,o2⟩:SiteV)])::WldA gw c w::M) (SiteV.cls ⟨(w.node j).site,u1,u2,o1,o2⟩ _) rP)
 ·obtain rfl:j=n:=by omega
  have e:w.sites=(w.nodes.take j).map NSt.site:=by unfold WSt.sites;rw [List.take_of_length_le rM]
  (refine rn ?_;intros)
  (refine fr ?_)
  exact ⟨_,rP,ss,om,by rw [hss,e],rfl⟩
theorem take_succ_ne {α:Type} [DecidableEq α] {xs ys:List α} {j:Nat} (hx:j<xs.length) (hy:j<ys.length) (h:xs[j]'hx≠ys[j]'hy):xs≠ys:=fun e=>by subst e;exact h rfl
theorem SameMarks_F (v1 v2:Value) (xs ys:List Mk) (M:List Assn) (h1:RdT M v1 xs) (h2:RdT M v2 ys) (l1:xs.length≤1000000) (l2:ys.length≤1000000) :
  Fn Tryz.prog 29 #[v1,v2] M fun v L'=>v=.bool (decide (xs=ys))∧L'=M:=by
 by_cases hl:xs.length=ys.length
 ·refine Fn.of_ex Tryz.func29 rfl Tryz.ntmps29 rfl ?_
  (refine rn ?_;intros)
  refine Ex.loop [5] (fun z vs L'=>∃ (j:Nat),j≤xs.length∧z=xs.length - j∧xs.take j=ys.take j∧vs=[.int .i64 j]∧L'=M) xs.length ⟨0,by omega,rfl,rfl,rfl,rfl⟩ ?_
  rintro z vs g1 L1 ⟨j,hj,rfl,htk,rfl,rfl⟩
  refine Ex.keep [0,1,5] rG (fun gk=>?_)
  by_cases hlt:j<xs.length
  ·have hlt2:j<ys.length:=by omega
   (refine rn ?_;intros)
   by_cases he:xs[j]'hlt=ys[j]'hlt2
   ·(refine mu9 ?_;intros)
    (refine rn ?_;intros)
    refine rnd_n ⟨xs.length - (j+1),L1,by omega,rP,j+1,by omega,rfl,by rw [List.take_succ_eq_append_getElem hlt,List.take_succ_eq_append_getElem hlt2,htk,he],lcons (vint rM) rfl,rfl⟩
   ·have e:decide (xs=ys)=false:=decide_eq_false (take_succ_ne hlt hlt2 he)
    rw [e]
    (refine mu9 ?_;intros)
    exact re1
  ·obtain rfl:j=xs.length:=by omega
   have e:decide (xs=ys)=true:=decide_eq_true (by rw [List.take_length] at htk;rw [htk,hl,List.take_length])
   rw [e]
   exact re1
 ·have e:decide (xs=ys)=false:=decide_eq_false (fun h=>hl (by rw [h]))
  rw [e]
  refine Fn.of_ex Tryz.func29 rfl Tryz.ntmps29 rfl ?_
  exact re1
theorem Same_F (p q:SiteP) (u1 u2 x1 x2:Value) (M:List Assn) (h1:RdT M u1 p.held) (h2:RdT M u2 p.log) (h3:RdT M x1 q.held) (h4:RdT M x2 q.log) (ou1:u1.oneCell'=true) (ou2:u2.oneCell'=true) (ox1:x1.oneCell'=true) (ox2:x2.oneCell'=true)
  (l1:p.held.length≤1000000) (l2:p.log.length≤1000000) (l3:q.held.length≤1000000) (l4:q.log.length≤1000000) :
  Fn Tryz.prog 54 #[.agg (siteC p u1 u2).toArray,.agg (siteC q x1 x2).toArray] M fun v L'=>v=.bool (decide (p=q))∧L'=M:=by
 refine Fn.of_ex Tryz.func54 rfl Tryz.ntmps54 rfl ?_
 (refine rn ?_;intros)
 refine st_callIs [] rJ Tryz.call29 rE rJ (SameMarks_F u1 x1 p.held q.held _ rD rD l1 l3) ?_
 rintro _ _ ⟨rfl,rfl⟩
 (refine rn ?_;intros)
 refine st_callIs [] rJ Tryz.call29 rE rJ (SameMarks_F u2 x2 p.log q.log _ rD rD l2 l4) ?_
 rintro _ _ ⟨rfl,rfl⟩
 have e:decide (p=q)=((decide (p.held=q.held) && decide (p.log=q.log)) && decide (p.up=q.up) && decide (p.clk=q.clk) && decide (p.sent=q.sent)):=by
  obtain ⟨up,pk,ps,ph,pl⟩:=p
  obtain ⟨uq,qk,qs,qh,ql⟩:=q
  rw [Bool.eq_iff_iff]
  simp only [SiteP.mk.injEq,decide_eq_true_eq,Bool.and_eq_true]
  constructor
  ·rintro ⟨a,b,c,d,e⟩;exact ⟨⟨⟨⟨d,e⟩,a⟩,b⟩,c⟩
  ·rintro ⟨⟨⟨⟨d,e⟩,a⟩,b⟩,c⟩;exact ⟨a,b,c,d,e⟩
 rw [e]
 by_cases e1:p.held=q.held
 ·by_cases e2:p.log=q.log
  ·by_cases e3:p.up=q.up
   ·by_cases e4:p.clk=q.clk
    ·by_cases e5:p.sent=q.sent
     ·rw [decide_eq_true e1,decide_eq_true e2,decide_eq_true e3,decide_eq_true e4,decide_eq_true e5]
      (repeat' (first | (refine r1 ?_;intros) | (refine Ex.cond_d rJ (fun h=>?_) (fun h=>?_) <;> try (exfalso;omega)) | (apply exlGuard;refine ExL.gsplit rJ rJ rJ (fun h=>?_) (fun h=>?_) <;> try (exfalso;omega))))
      all_goals (intros;first | contradiction | ((refine fr ?_);exact ⟨_,rP,rfl,rfl⟩))
     ·rw [decide_eq_true e1,decide_eq_true e2,decide_eq_true e3,decide_eq_true e4,decide_eq_false e5]
      (repeat' (first | (refine r1 ?_;intros) | (refine Ex.cond_d rJ (fun h=>?_) (fun h=>?_) <;> try (exfalso;omega)) | (apply exlGuard;refine ExL.gsplit rJ rJ rJ (fun h=>?_) (fun h=>?_) <;> try (exfalso;omega))))
      all_goals (intros;first | contradiction | ((refine fr ?_);exact ⟨_,rP,rfl,rfl⟩))
    ·rw [decide_eq_true e1,decide_eq_true e2,decide_eq_true e3,decide_eq_false e4]
     (repeat' (first | (refine r1 ?_;intros) | (refine Ex.cond_d rJ (fun h=>?_) (fun h=>?_) <;> try (exfalso;omega)) | (apply exlGuard;refine ExL.gsplit rJ rJ rJ (fun h=>?_) (fun h=>?_) <;> try (exfalso;omega))))
     all_goals (intros;first | contradiction | ((refine fr ?_);exact ⟨_,rP,rfl,rfl⟩))
   ·rw [decide_eq_true e1,decide_eq_true e2,decide_eq_false e3]
    (repeat' (first | (refine r1 ?_;intros) | (refine Ex.cond_d rJ (fun h=>?_) (fun h=>?_) <;> try (exfalso;omega)) | (apply exlGuard;refine ExL.gsplit rJ rJ rJ (fun h=>?_) (fun h=>?_) <;> try (exfalso;omega))))
    all_goals (intros;first | contradiction | ((refine fr ?_);exact ⟨_,rP,rfl,rfl⟩))
  ·rw [decide_eq_true e1,decide_eq_false e2]
   (repeat' (first | (refine r1 ?_;intros) | (refine Ex.cond_d rJ (fun h=>?_) (fun h=>?_) <;> try (exfalso;omega)) | (apply exlGuard;refine ExL.gsplit rJ rJ rJ (fun h=>?_) (fun h=>?_) <;> try (exfalso;omega))))
   all_goals (intros;first | contradiction | ((refine fr ?_);exact ⟨_,rP,rfl,rfl⟩))
 ·rw [decide_eq_false e1]
  (repeat' (first | (refine r1 ?_;intros) | (refine Ex.cond_d rJ (fun h=>?_) (fun h=>?_) <;> try (exfalso;omega)) | (apply exlGuard;refine ExL.gsplit rJ rJ rJ (fun h=>?_) (fun h=>?_) <;> try (exfalso;omega))))
  all_goals (intros;first | contradiction | ((refine fr ?_);exact ⟨_,rP,rfl,rfl⟩))
theorem same_F (v1 v2:Value) (ss ts:List SiteV) (M:List Assn) (hl:ss.length=ts.length) (h5:ss.length≤5) (l1:∀ p∈ss.map SiteV.p,p.held.length≤10000∧p.log.length≤10000) (l2:∀ p∈ts.map SiteV.p,p.held.length≤10000∧p.log.length≤10000) :
  Fn Tryz.prog 19 #[v1,v2] (Sites v1 ss::Star (ss.map SiteV.own)::Sites v2 ts::Star (ts.map SiteV.own)::M)
   fun v L'=>v=.bool (decide (ss.map SiteV.p=ts.map SiteV.p))∧L'=Sites v1 ss::Star (ss.map SiteV.own)::Sites v2 ts::Star (ts.map SiteV.own)::M:=by
 refine Fn.of_ex Tryz.func19 rfl Tryz.ntmps19 rfl ?_
 (refine rn ?_;intros)
 refine Ex.loop [5] (fun z vs L'=>∃ (j:Nat),j≤ss.length∧z=ss.length - j∧(ss.map SiteV.p).take j=(ts.map SiteV.p).take j∧vs=[.int .i64 j]∧L'=Sites v1 ss::Star (ss.map SiteV.own)::Sites v2 ts::Star (ts.map SiteV.own)::M) ss.length ⟨0,by omega,rfl,rfl,rfl,rfl⟩ ?_
 rintro z vs g1 L1 ⟨j,hj,rfl,htk,rfl,rfl⟩
 refine Ex.keep [0,1,5] rG (fun gk=>?_)
 by_cases hlt:j<ss.length
 ·have hlt2:j<ts.length:=by omega
  have q1:=SiteV.rd hlt (Sites v1 ss::Sites v2 ts::Star (ts.map SiteV.own)::M)
  have q2:=SiteV.rd hlt2 (Sites v1 ss::Star (ss.map SiteV.own)::Sites v2 ts::M)
  have b1:=l1 _ (List.mem_map.2 ⟨ss[j]'hlt,List.getElem_mem hlt,rfl⟩)
  have b2:=l2 _ (List.mem_map.2 ⟨ts[j]'hlt2,List.getElem_mem hlt2,rfl⟩)
  have hm1:j<(ss.map SiteV.p).length:=by rw [List.length_map];exact hlt
  have hm2:j<(ts.map SiteV.p).length:=by rw [List.length_map];exact hlt2
  have hg1:(ss.map SiteV.p)[j]'hm1=(ss[j]'hlt).p:=List.getElem_map ..
  have hg2:(ts.map SiteV.p)[j]'hm2=(ts[j]'hlt2).p:=List.getElem_map ..
  (refine rn ?_;intros)
  (refine Ex.mixA 9 _ rfl rQ (Fac.refl _) ?_;(repeat' (first | (refine m1 ?_;intros) | (refine mx_gsplit rJ rJ rJ (fun h=>?_) (fun h=>?_) <;> try (exfalso;omega)))))
  (refine mx_act rJ rJ rJ ?_;refine st_callIs [] rJ Tryz.call54 rE rJ (Same_F (ss[j]'hlt).p (ts[j]'hlt2).p _ _ _ _ _ (q1.1.sub rP) (q1.2.sub rP) (q2.1.sub rP) (q2.2.sub rP) (ss[j]'hlt).o1 (ss[j]'hlt).o2 (ts[j]'hlt2).o1 (ts[j]'hlt2).o2 rM rM rM rM) ?_)
  rintro _ _ ⟨rfl,rfl⟩
  by_cases he:(ss[j]'hlt).p=(ts[j]'hlt2).p
  ·rw [decide_eq_true he]
   (refine mw ?_;intros)
   (refine rn ?_;intros)
   refine rnd_n ⟨ss.length - (j+1),Sites v1 ss::Star (ss.map SiteV.own)::Sites v2 ts::Star (ts.map SiteV.own)::M,by omega,rP,j+1,by omega,rfl,by rw [List.take_succ_eq_append_getElem hm1,List.take_succ_eq_append_getElem hm2,htk,hg1,hg2,he],lcons (vint rM) rfl,rfl⟩
  ·have e:decide (ss.map SiteV.p=ts.map SiteV.p)=false:=decide_eq_false (take_succ_ne hm1 hm2 (by rw [hg1,hg2];exact he))
   rw [decide_eq_false he,e]
   (refine mw ?_;intros)
   exact re1
 ·obtain rfl:j=ss.length:=by omega
  have e:decide (ss.map SiteV.p=ts.map SiteV.p)=true:=decide_eq_true (by
   have a1:(ss.map SiteV.p).length=ss.length:=List.length_map ..
   have a2:(ts.map SiteV.p).length=ss.length:=by rw [List.length_map];omega
   rw [List.take_of_length_le rM,List.take_of_length_le rM] at htk
   exact htk)
  rw [e]
  exact re1
end
section
theorem fill_set {α:Type} (us:List α) (z a:α) {n j:Nat} (hj:us.length=j) (h:j<n):(us++List.replicate (n - j) z).set j a=(us++[a])++List.replicate (n - (j+1)) z:=by
 have e:n - j=(n - (j+1))+1:=by omega
 subst hj
 rw [e,List.set_append_right _ _ (Nat.le_refl _),Nat.sub_self,List.replicate_succ,List.set_cons_zero,List.append_assoc]
 rfl
instance:ZRep Tryz.prog 57 Int:=⟨0,by kernel_rfl,by kernel_rfl⟩
instance:ZRep Tryz.prog 67 Sv:=⟨⟨.slice none 0 0,rfl⟩,by kernel_rfl,by kernel_rfl⟩
attribute [local irreducible] Star NodeA HubA LkA nodesA WldA SiteV.own
theorem fillI_F (F:FuncId) (fs:List Value) (X:List Int→Assn) (n:Nat) (hn:n≤1000) (M:List Assn) (hrun:∀ (xs:Array Value) (w:World),(callFunc F xs).run Tryz.prog w=.ok (.enter F xs) w)
  (hF:∀ (xs:List Int) (M:List Assn),xs.length<n→Fn Tryz.prog F (([]:List Value)++[Value.int .i64 (xs.length:Nat)]++fs).toArray (X xs::M) fun v L'=>∃ a:Int,v=.int .i64 a∧L'=X (xs++[a])::M) :
  Fn Tryz.prog 153 #[.int .i64 n,.func (.func F) #[] fs.toArray] (X []::M) fun v L'=>∃ xs:List Int,xs.length=n∧v.oneCell'=true∧L'=RowT v 57 xs::X xs::M:=by
 refine Fn.of_ex Tryz.func153 rfl Tryz.ntmps153 rfl ?_
 (refine rn ?_;(repeat (first | intro (v:Value) | intro (o:O1 _) | intro h)))
 refine Ex.loop [11] (fun z vs L'=>∃ (j:Nat) (xs:List Int),j≤n∧xs.length=j∧z=n - j∧vs=[.int .i64 j]∧L'=RowT v 57 (xs++List.replicate (n - j) (0:Int))::X xs::M) n ⟨0,[],by omega,rfl,rfl,rfl,rfl⟩ ?_
 rintro z vs g1 L1 ⟨j,xs,hj,hx,rfl,rfl,rfl⟩
 refine Ex.keep [1,5,10,11] rG (fun gk=>?_)
 have hlen:(xs++List.replicate (n - j) (0:Int)).length=n:=by rw [List.length_append,List.length_replicate];omega
 have hlen0:([]++List.replicate n (0:Int):List Int).length=n:=by simp
 by_cases hlt:j<n
 ·have hc:=fun M=>hF xs M rM
  rw [hx] at hc
  have hset:=fun a:Int=>fill_set xs (0:Int) a hx hlt
  obtain ⟨row,hrow⟩:∃ row,row=xs++List.replicate (n - j) (0:Int):=⟨_,rfl⟩
  rw [← hrow] at hset hlen
  rw [← hrow]
  (refine rn ?_;(repeat (first | intro (v:Value) | intro (o:O1 _) | intro h)))
  refine st_callC [1] (xs:=[.tmp 17]) (fs:=[]) (us:=fs) (vs:=[.int .i64 j]) rJ rJ hrun rE rJ (hc _) ?_
  rintro _ _ ⟨a,rfl,rfl⟩
  refine ExL.sub (L':=RowT v 57 row::X (xs++[a])::M) ?_ rP
  (repeat' (first | (refine r1 ?_;(repeat (first | intro (v:Value) | intro (o:O1 _) | intro h))) | (refine Ex.cond_d rJ (fun h=>?_) (fun h=>?_) <;> try (exfalso;omega)) | (apply exlGuard;refine ExL.gsplit rJ rJ rJ (fun h=>?_) (fun h=>?_) <;> try (exfalso;omega))))
  refine st_storeR1 0 (a:=a) rJ rJ rJ rJ rJ rJ (show j<row.length by omega) (by decide) rJ rJ ?_
  (refine rn ?_;(repeat (first | intro (v:Value) | intro (o:O1 _) | intro h)))
  refine rnd_n ⟨n - (j+1),RowT v 57 ((xs++[a])++List.replicate (n - (j+1)) (0:Int))::X (xs++[a])::M,by omega,?_,j+1,xs++[a],by omega,by rw [List.length_append,hx];rfl,rfl,lcons (vint rM) rfl,rfl⟩
  rw [← hset]
  exact rP
 ·obtain rfl:j=n:=by omega
  rw [Nat.sub_self,List.replicate_zero,List.append_nil]
  (refine rn ?_;(repeat (first | intro (o:O1 _) | intro h)))
  (refine fr ?_)
  exact ⟨_,rP,xs,hx,o,rfl⟩
theorem fillV_F (F:FuncId) (fs:List Value) (X:List Sv→Assn) (n:Nat) (hn:n≤1000) (M:List Assn) (hrun:∀ (xs:Array Value) (w:World),(callFunc F xs).run Tryz.prog w=.ok (.enter F xs) w)
  (hF:∀ (xs:List Sv) (M:List Assn),xs.length<n→Fn Tryz.prog F (([]:List Value)++[Value.int .i64 (xs.length:Nat)]++fs).toArray (X xs::M) fun v L'=>∃ a:Sv,v=a.v∧L'=X (xs++[a])::M) :
  Fn Tryz.prog 88 #[.int .i64 n,.func (.func F) #[] fs.toArray] (X []::M) fun v L'=>∃ xs:List Sv,xs.length=n∧v.oneCell'=true∧L'=RowT v 67 xs::X xs::M:=by
 refine Fn.of_ex Tryz.func88 rfl Tryz.ntmps88 rfl ?_
 (refine rn ?_;(repeat (first | intro (v:Value) | intro (o:O1 _) | intro h)))
 refine Ex.loop [11] (fun z vs L'=>∃ (j:Nat) (xs:List Sv),j≤n∧xs.length=j∧z=n - j∧vs=[.int .i64 j]∧L'=RowT v 67 (xs++List.replicate (n - j) (⟨.slice none 0 0,rfl⟩:Sv))::X xs::M) n ⟨0,[],by omega,rfl,rfl,rfl,rfl⟩ ?_
 rintro z vs g1 L1 ⟨j,xs,hj,hx,rfl,rfl,rfl⟩
 refine Ex.keep [1,5,10,11] rG (fun gk=>?_)
 have hlen:(xs++List.replicate (n - j) (⟨.slice none 0 0,rfl⟩:Sv)).length=n:=by rw [List.length_append,List.length_replicate];omega
 have hlen0:([]++List.replicate n (⟨.slice none 0 0,rfl⟩:Sv):List Sv).length=n:=by simp
 by_cases hlt:j<n
 ·have hc:=fun M=>hF xs M rM
  rw [hx] at hc
  have hset:=fun a:Sv=>fill_set xs (⟨.slice none 0 0,rfl⟩:Sv) a hx hlt
  obtain ⟨row,hrow⟩:∃ row,row=xs++List.replicate (n - j) (⟨.slice none 0 0,rfl⟩:Sv):=⟨_,rfl⟩
  rw [← hrow] at hset hlen
  rw [← hrow]
  (refine rn ?_;(repeat (first | intro (v:Value) | intro (o:O1 _) | intro h)))
  refine st_callC [1] (xs:=[.tmp 17]) (fs:=[]) (us:=fs) (vs:=[.int .i64 j]) rJ rJ hrun rE rJ (hc _) ?_
  rintro _ _ ⟨a,rfl,rfl⟩
  refine ExL.sub (L':=RowT v 67 row::X (xs++[a])::M) ?_ rP
  (repeat' (first | (refine r1 ?_;(repeat (first | intro (v:Value) | intro (o:O1 _) | intro h))) | (refine Ex.cond_d rJ (fun h=>?_) (fun h=>?_) <;> try (exfalso;omega)) | (apply exlGuard;refine ExL.gsplit rJ rJ rJ (fun h=>?_) (fun h=>?_) <;> try (exfalso;omega))))
  refine st_storeR1 0 (a:=a) rJ rJ a.one rJ rJ rJ (show j<row.length by omega) (by decide) rJ rJ ?_
  (refine rn ?_;(repeat (first | intro (v:Value) | intro (o:O1 _) | intro h)))
  refine rnd_n ⟨n - (j+1),RowT v 67 ((xs++[a])++List.replicate (n - (j+1)) (⟨.slice none 0 0,rfl⟩:Sv))::X (xs++[a])::M,by omega,?_,j+1,xs++[a],by omega,by rw [List.length_append,hx];rfl,rfl,lcons (vint rM) rfl,rfl⟩
  rw [← hset]
  exact rP
 ·obtain rfl:j=n:=by omega
  rw [Nat.sub_self,List.replicate_zero,List.append_nil]
  (refine rn ?_;(repeat (first | intro (o:O1 _) | intro h)))
  (refine fr ?_)
  exact ⟨_,rP,xs,hx,o,rfl⟩
theorem fillS_F (F:FuncId) (fs:List Value) (X:List SiteV→Assn) (n:Nat) (hn:n≤1000) (M:List Assn) (hrun:∀ (xs:Array Value) (w:World),(callFunc F xs).run Tryz.prog w=.ok (.enter F xs) w)
  (hF:∀ (xs:List SiteV) (M:List Assn),xs.length<n→Fn Tryz.prog F (fs++[Value.int .i64 (xs.length:Nat)]).toArray (X xs::M) fun v L'=>∃ a:SiteV,v=.agg (siteC a.p a.u1 a.u2).toArray∧L'=X (xs++[a])::M) :
  Fn Tryz.prog 155 #[.int .i64 n,.func (.func F) fs.toArray #[]] (X []::M) fun v L'=>∃ xs:List SiteV,xs.length=n∧v.oneCell'=true∧L'=RowT v 65 xs::X xs::M:=by
 refine Fn.of_ex Tryz.func155 rfl Tryz.ntmps155 rfl ?_
 (refine rn ?_;(repeat (first | intro (v:Value) | intro (o:O1 _) | intro h)))
 refine Ex.loop [11] (fun z vs L'=>∃ (j:Nat) (xs:List SiteV),j≤n∧xs.length=j∧z=n - j∧vs=[.int .i64 j]∧L'=RowT v 65 (xs++List.replicate (n - j) (⟨SiteP.zero,.slice none 0 0,.slice none 0 0,rfl,rfl⟩:SiteV))::X xs::M) n ⟨0,[],by omega,rfl,rfl,rfl,rfl⟩ ?_
 rintro z vs g1 L1 ⟨j,xs,hj,hx,rfl,rfl,rfl⟩
 refine Ex.keep [1,5,10,11] rG (fun gk=>?_)
 have hlen:(xs++List.replicate (n - j) (⟨SiteP.zero,.slice none 0 0,.slice none 0 0,rfl,rfl⟩:SiteV)).length=n:=by rw [List.length_append,List.length_replicate];omega
 have hlen0:([]++List.replicate n (⟨SiteP.zero,.slice none 0 0,.slice none 0 0,rfl,rfl⟩:SiteV):List SiteV).length=n:=by simp
 by_cases hlt:j<n
 ·have hc:=fun M=>hF xs M rM
  rw [hx] at hc
  have hset:=fun a:SiteV=>fill_set xs (⟨SiteP.zero,.slice none 0 0,.slice none 0 0,rfl,rfl⟩:SiteV) a hx hlt
  obtain ⟨row,hrow⟩:∃ row,row=xs++List.replicate (n - j) (⟨SiteP.zero,.slice none 0 0,.slice none 0 0,rfl,rfl⟩:SiteV):=⟨_,rfl⟩
  rw [← hrow] at hset hlen
  rw [← hrow]
  (refine rn ?_;(repeat (first | intro (v:Value) | intro (o:O1 _) | intro h)))
  refine st_callV [1] (xs:=[.tmp 17]) (fs:=fs) (vs:=[.int .i64 j]) rJ rJ hrun rE rJ (hc _) ?_
  rintro _ _ ⟨a,rfl,rfl⟩
  refine ExL.sub (L':=RowT v 65 row::X (xs++[a])::M) ?_ rP
  (repeat' (first | (refine r1 ?_;(repeat (first | intro (v:Value) | intro (o:O1 _) | intro h))) | (refine Ex.cond_d rJ (fun h=>?_) (fun h=>?_) <;> try (exfalso;omega)) | (apply exlGuard;refine ExL.gsplit rJ rJ rJ (fun h=>?_) (fun h=>?_) <;> try (exfalso;omega))))
  refine st_storeRA 0 (a:=a) rJ rJ rJ rJ rJ (show j<row.length by omega) rJ ?_
  (refine rn ?_;(repeat (first | intro (v:Value) | intro (o:O1 _) | intro h)))
  refine rnd_n ⟨n - (j+1),RowT v 65 ((xs++[a])++List.replicate (n - (j+1)) (⟨SiteP.zero,.slice none 0 0,.slice none 0 0,rfl,rfl⟩:SiteV))::X (xs++[a])::M,by omega,?_,j+1,xs++[a],by omega,by rw [List.length_append,hx];rfl,rfl,lcons (vint rM) rfl,rfl⟩
  rw [← hset]
  exact rP
 ·obtain rfl:j=n:=by omega
  rw [Nat.sub_self,List.replicate_zero,List.append_nil]
  (refine rn ?_;(repeat (first | intro (o:O1 _) | intro h)))
  (refine fr ?_)
  exact ⟨_,rP,xs,hx,o,rfl⟩
end
end
end Go.Proofs.YtogcfijlhpaeeaaGreat
