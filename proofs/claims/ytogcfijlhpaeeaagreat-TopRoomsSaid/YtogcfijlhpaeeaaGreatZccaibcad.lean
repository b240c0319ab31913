/- Texts, one behind the other. No condition. -/
import Derived.Test.YtogcfijlhpaeeaaGreatZbjildoce
import Derived.Test.YtogcfijlhpaeeaaGreatZcdhpjgdh
import Derived.Test.YtogcfijlhpaeeaaGreatZdjglmago
import Derived.Test.YtogcfijlhpaeeaaGreatZehjcikgl
import Derived.Test.YtogcfijlhpaeeaaGreatZopgnkiea
open Go.RowKit
set_option linter.unusedSimpArgs false
set_option linter.unusedVariables false
set_option linter.unusedSectionVars false
set_option maxHeartbeats 32000000
namespace Go.Proofs.YtogcfijlhpaeeaaGreat
section
instance:ZRep Tryz.prog 90 Mk:=⟨⟨0,0⟩,by kernel_rfl,by kernel_rfl⟩
@[reducible] def Mks (v:Value) (l:List Mk):Assn:=RowT v 90 l
structure SiteP where
 up:Bool
 clk:Clk
 sent:Int
 held:List Mk
 log:List Mk
deriving DecidableEq
def SiteP.zero:SiteP:=⟨false,Clk.zero,0,[],[]⟩
def NSt.site (st:NSt):SiteP:=if st.up=true then ⟨true,st.clk,st.sent,st.held.map Ev.mk_,st.log.map Ev.mk_⟩ else SiteP.zero
@[reducible] def siteC (s:SiteP) (u1 u2:Value):List Value:=[.bool s.up,.int .i64 s.clk.a,.int .i64 s.clk.b,.int .i64 s.clk.c,.int .i64 s.clk.d,.int .i64 s.clk.e,.int .i64 s.sent,u1,u2]
def NSt.list (st:NSt):List Con×Int:=if st.up=true then (lvList (lvOf st.log),0) else ([],18)
def NSt.fresh:NSt:=⟨false,[],[],false,0,[],0,Clk.zero,[],[]⟩
theorem NSt.fresh_ok {c:Cfg} {r:Int} (hc:c.May) (hr:0≤r∧r<c.n):NOk 0 c r NSt.fresh :=
 ⟨hc,hr,by simp [NSt.fresh],rfl,Nat.le_refl _,Nat.le_refl _,by simp [NSt.fresh,replay],⟨Int.le_refl _,by show (0:Int)≤1048576;omega⟩,(fun h=>by cases h),(fun h=>by cases h),(fun h=>by cases h),(fun h=>by cases h)⟩
set_option maxRecDepth 20000 attribute [local irreducible] Ex ExL Fn thn inb rnd fin meet Tab Mix mxEnd Val Sats RdT Rd RowT Row Blk Sub Fac ResV RVal Evs subs subs3 Hid Capd
section
attribute [local irreducible] DkA DvA Star LvA NodeA
theorem marks_F (v0:Value) (l:List Ev) (M:List Assn) (hr:RdT M v0 l) (hl:l.length≤1000000):Fn Tryz.prog 120 #[v0] M fun v L'=>v.oneCell'=true∧L'=Mks v (l.map Ev.mk_)::M:=by
 refine Fn.of_ex Tryz.func120 rfl Tryz.ntmps120 rfl ?_
 (refine rn ?_;(repeat (first | intro (g:Nat) | intro (v:Value) | intro (o:O1 _) | intro h)))
 refine Ex.sub (L':=Mks (.slice none 0 0) []::M) ?_ (Sub.empty (α:=Mk) none 90 M)
 refine Ex.loop [3,8] (fun z vs L'=>∃ (j:Nat) (vm:Value),j≤l.length∧vm.oneCell'=true∧z=l.length - j∧vs=[vm,.int .i64 j]∧L'=Mks vm ((l.take j).map Ev.mk_)::M) l.length ⟨0,.slice none 0 0,by omega,rfl,rfl,rfl,rfl⟩ ?_
 rintro z vs g1 L1 ⟨j,vm,hj,om,rfl,rfl,rfl⟩
 refine Ex.keep [3,6,7,8] rG (fun gk=>?_)
 by_cases hlt:j<l.length
 ·have hlt2:(l.take (j+1)).map Ev.mk_=(l.take j).map Ev.mk_++[(l[j]'hlt).mk_]:=by rw [List.take_succ_eq_append_getElem hlt,List.map_append];rfl
  (refine rn ?_;(repeat (first | intro (g:Nat) | intro (v:Value) | intro (o:O1 _) | intro h)))
  refine st_slice1T (a:=(l[j]'hlt).mk_) rJ rJ rJ rJ (fun g=>?_)
  (refine rn ?_;(repeat (first | intro (v:Value) | intro (o:O1 _) | intro h)))
  refine rnd_n ⟨l.length - (j+1),Mks v ((l.take (j+1)).map Ev.mk_)::M,by omega,?_,j+1,v,by omega,o,rfl,lcons rfl (lcons (vint rM) rfl),rfl⟩
  rw [hlt2]
  exact rP
 ·obtain rfl:j=l.length:=by omega
  rw [List.take_length]
  (refine rn ?_;intros)
  (refine fr ?_)
  exact ⟨_,rP,om,rfl⟩
theorem nListA {k:Nat} (gn:Nat) (c:Cfg) (r:Int) (st:NSt) (M:List Assn) (ok:NOk k c r st) (hk:k≤200):Fn Tryz.prog 59 #[ptrV gn] (NodeA gn c r st::M)
  fun v L'=>∃ (u:Value) (cs:List Ct),u.oneCell'=true∧cs.map Ct.con=st.list.1∧v=.tuple #[u,.int .i64 st.list.2]∧L'=Cts_ u cs::Star (cs.map Ct.own)::NodeA gn c r st::M:=by
 refine NodeA.fn (fun hu dv ds vl sent b i o dok=>?_) (fun hu dv ds x dok ox=>?_)
 ·have e:st.list=([],18):=by unfold NSt.list;rw [if_neg (by rw [hu];simp)]
  rw [e]
  refine Fn.of_ex Tryz.func59 rfl Tryz.ntmps59 rfl ?_
  (refine rn ?_;(repeat (first | intro (cs:List Value) | intro (hcs:_=List.set _ _ _) | intro h)))
  (refine fr ?_)
  exact ⟨_,Sub.trans (Sub.empty (α:=Ct) none 75 _) (Sub.trans (Star.nil _) (NodeA.cls_dn hu dok M)),.slice none 0 0,[],rfl,rfl,rfl,rfl⟩
 ·obtain ⟨hll,hlog⟩:=ok.log hu
  obtain ⟨b1,b2,b3⟩:=lvOf_bd st.log
  have hkeys:∀ p∈lvOf st.log,p.1.length≤1000:=fun p hp=>by
   obtain ⟨y,hy,he⟩:=b3 p hp
   have:=(hlog y hy).lens.1
   rw [he] at this
   omega
  have e:st.list=(lvList (lvOf st.log),0):=by unfold NSt.list;rw [if_pos hu]
  rw [e]
  refine Fn.of_ex Tryz.func59 rfl Tryz.ntmps59 rfl ?_
  (refine rn ?_;(repeat (first | intro (cs:List Value) | intro (hcs:_=List.set _ _ _) | intro h)))
  refine st_callIs [7] rJ Tryz.call98 rE rJ (llist_F x.gb (lvOf st.log) _ rM rM hkeys) ?_
  rintro r1 _ ⟨cs,hcs,o1,rfl⟩
  (refine rn ?_;(repeat (first | intro (cs:List Value) | intro (hcs:_=List.set _ _ _) | intro h)))
  (refine fr ?_)
  exact ⟨_,Sub.trans (Sub.cons _ (Sub.cons _ (NodeA.cls_up x hu dok ox M))) rP,r1,cs,o1,hcs,rfl,rfl⟩
theorem nSiteA {k:Nat} (gn:Nat) (c:Cfg) (r:Int) (st:NSt) (M:List Assn) (ok:NOk k c r st) (hk:k≤200):Fn Tryz.prog 58 #[ptrV gn] (NodeA gn c r st::M)
  fun v L'=>∃ (u1 u2:Value),u1.oneCell'=true∧u2.oneCell'=true∧v=.agg (siteC st.site u1 u2).toArray∧L'=Mks u1 st.site.held::Mks u2 st.site.log::NodeA gn c r st::M:=by
 refine NodeA.fn (fun hu dv ds vl sent b i o dok=>?_) (fun hu dv ds x dok ox=>?_)
 ·have e:st.site=SiteP.zero:=by unfold NSt.site;rw [if_neg (by rw [hu];simp)]
  rw [e]
  refine Fn.of_ex Tryz.func58 rfl Tryz.ntmps58 rfl ?_
  (refine rn ?_;(repeat (first | intro (g:Nat) | intro h)))
  (refine fr ?_)
  exact ⟨_,Sub.trans (Sub.empty (α:=Mk) none 90 _) (Sub.trans (Sub.empty (α:=Mk) none 90 _) (Sub.trans (NodeA.cls_dn hu dok M) rP)),.slice none 0 0,.slice none 0 0,rfl,rfl,rfl,rfl⟩
 ·obtain ⟨hll,hlog⟩:=ok.log hu
  obtain ⟨hh1,hh2⟩:=ok.held hu
  have hch:=ok.cm.h
  have e:st.site=⟨true,st.clk,st.sent,st.held.map Ev.mk_,st.log.map Ev.mk_⟩:=by unfold NSt.site;rw [if_pos hu]
  rw [e]
  refine Fn.of_ex Tryz.func58 rfl Tryz.ntmps58 rfl ?_
  (refine rn ?_;(repeat (first | intro (g:Nat) | intro h)))
  revert g
  intro g2
  refine Ex.sub (L':=InO x.gi c.h st.clk x.v0::Evs_ x.v0 st.held::NdB gn c r true dv x.vl st.sent (ptrV x.gb) (ptrV x.gi) (ptrV x.go)::Evs_ x.vl st.log::Blk g2 65 (siteC SiteP.zero (.slice none 0 0) (.slice none 0 0))::DvA dv ds::OxO x.go c.q c.w st.sent x.vw::Evs_ x.vw st.wait::LvA x.gb (lvOf st.log)::M) ?_ rP
  (refine mu21 ?_;intros)
  (refine mx_act rJ rJ rJ ?_;refine st_callIs [] rJ Tryz.call100 rE rJ (inbox_Clock x.gi c.h st.clk x.v0 st.held _) ?_)
  rintro _ _ ⟨rfl,rfl⟩
  (refine mw ?_;intros)
  (repeat' (first | (refine m1 ?_;intros) | (refine mx_gsplit rJ rJ rJ (fun h=>?_) (fun h=>?_) <;> try (exfalso;omega))))
  (refine mx_act rJ rJ rJ ?_;refine st_callIs [] rJ Tryz.call121 rE rJ (inbox_Held x.gi c.h st.clk x.v0 st.held _ rM) ?_)
  rintro rh _ ⟨orh,rfl⟩
  (refine mw ?_;intros)
  (refine mx_act rJ rJ rJ ?_;refine st_callIs [] rJ Tryz.call120 rE rJ (marks_F rh st.held _ rD rM) ?_)
  rintro u1 _ ⟨ou1,rfl⟩
  (refine mw ?_;intros)
  (repeat' (first | (refine m1 ?_;intros) | (refine mx_gsplit rJ rJ rJ (fun h=>?_) (fun h=>?_) <;> try (exfalso;omega))))
  (refine mx_act rJ rJ rJ ?_;refine st_callIs [] rJ Tryz.call120 rE rJ (marks_F x.vl st.log _ rD rM) ?_)
  rintro u2 _ ⟨ou2,rfl⟩
  (refine mw ?_;intros)
  (repeat' (first | (refine m1 ?_;intros) | (refine mx_gsplit rJ rJ rJ (fun h=>?_) (fun h=>?_) <;> try (exfalso;omega))))
  (refine rn ?_;intros)
  (refine fr ?_)
  exact ⟨_,Sub.trans (Sub.cons _ (Sub.cons _ (NodeA.cls_up x hu dok ox M))) rP,u1,u2,ou1,ou2,rfl,rfl⟩
theorem nNewA (c:Cfg) (r:Int) (M:List Assn) (hc:c.May) (hr:0≤r∧r<c.n):Fn Tryz.prog 57 #[.agg (Rep.cells c).toArray,.int .i64 r] M
  fun v L'=>∃ gn,v=.tuple #[ptrV gn,.int .i64 0]∧L'=NodeA gn c r (NSt.fresh.start c r).1::M:=by
 refine Fn.of_ex Tryz.func57 rfl Tryz.ntmps57 rfl ?_
 (refine rn ?_;(repeat (first | intro (g:Nat) | intro (o:O1 _) | intro h)))
 refine st_callIs [] rJ Tryz.call119 rJ rJ (may_F c _) ?_
 rintro _ _ ⟨rfl,rfl⟩
 have hmay:mayC c=true:=by
  have h1:=hc.n
  have h2:=hc.w
  have h3:=hc.q
  have h4:=hc.h
  have h5:=hc.l
  have h6:=hc.p
  unfold mayC inB
  simp [*]
 rw [hmay]
 have hr1:=hr.1
 have hr2:=hr.2
 (refine rn ?_;(repeat (first | intro (g:Nat) | intro (o:O1 _) | intro h)))
 revert g
 intro gn
 refine ExL.sub (L':=NodeA gn c r NSt.fresh::M) ?_ (Sub.trans (NodeA.cls_dn (st:=NSt.fresh) (dv:=nilP) (ds:=DS.zero) (vl:=.slice none 0 0) (sent:=0) (b:=nilP) (i:=nilP) (o:=nilP) rfl ⟨rfl,(fun h=>by cases h),rfl,(fun h=>by cases h)⟩ M) (Sub.trans (Sub.cons _ (DvA.nil_ M)) rP))
 refine st_callIs [] rJ Tryz.call61 rE rJ (nStartA (k:=0) gn c r NSt.fresh M (NSt.fresh_ok hc hr) rM) ?_
 rintro _ _ ⟨rfl,rfl⟩
 (refine rn ?_;intros)
 (refine fr ?_)
 exact ⟨_,rP,gn,rfl,rfl⟩
end
end
section
def riseC (n:Int):List Ev→Bool
 | []=>true
 | e::l=>decide (e.n=n) && riseC (n+1) l
def gapC (len:Int) (l:List Ev):Bool:=match l with
 | []=>true
 | e::_=>decide (e.n≤len+1) && riseC e.n l
theorem riseC_iff:∀ (l:List Ev) (n:Int),riseC n l=true↔∀ j (hj:j<l.length),(l[j]'hj).n=n+j
 | [],n=>⟨fun _ j hj=>by simp at hj,fun _=>rfl⟩
 | e::l,n=>by
  unfold riseC
  rw [Bool.and_eq_true,decide_eq_true_eq,riseC_iff l]
  constructor
  ·rintro ⟨h1,h2⟩ j hj
   cases j with
   | zero=>simpa using h1
   | succ j =>
    have:=h2 j (by simpa using hj)
    rw [List.getElem_cons_succ,this];omega
  ·intro h
   refine ⟨by have:=h 0 (by simp);simp only [List.getElem_cons_zero] at this;omega,fun j hj=>?_⟩
   have:=h (j+1) (by simpa using hj)
   rw [List.getElem_cons_succ] at this
   rw [this];omega
theorem gapC_iff (len:Int) (l:List Ev):gapC len l=true↔GapOk len l:=by
 unfold gapC GapOk
 cases l with
 | nil=>exact ⟨fun _ h=>by simp at h,fun _=>rfl⟩
 | cons e l =>
  simp only [Bool.and_eq_true,decide_eq_true_eq,riseC_iff]
  constructor
  ·rintro ⟨h1,h2⟩ _
   exact ⟨by simpa using h1,fun j hj=>by rw [h2 j hj];rfl⟩
  ·intro h
   have h:=h (by simp)
   exact ⟨by simpa using h.1,fun j hj=>by rw [h.2 j hj];rfl⟩
def putC (most len k:Int) (l:List Ev):Int×List Ev :=
 if gapC len l=false then (20,[]) else if fresh len l≠[]∧most<k+(fresh len l).length then (21,[]) else (0,fresh len l)
theorem putC_eq (most len k:Int) (l:List Ev):putR most len k l=putC most len k l:=by
 unfold putR putC
 by_cases h:GapOk len l
 ·have hg:=(gapC_iff len l).2 h
  rw [if_neg (c:=¬ GapOk len l) (by simpa using h),if_neg (c:=gapC len l=false) (by rw [hg];simp)]
 ·have hg:gapC len l=false:=by
   cases hg:gapC len l with
   | false=>rfl
   | true=>exact absurd ((gapC_iff len l).1 hg) h
  rw [if_pos (c:=¬ GapOk len l) h,if_pos (c:=gapC len l=false) hg]
def Sf.putS (most:Int) (s:Sf) (l:List Ev):Int×List Ev:=putC most s.all.length (s.all.length - s.cut:Nat) l
def PSt.pushC (most:Int) (st:PSt) (r:Int) (l:List Ev):Int×Int×PSt :=
 if ¬ st.has r∨(l.any fun e=>decide (e.r≠r))=true then (0,23,st) else
 if ((st.sf.getD r.toNat Sf.none).putS most l).1≠0 then (0,((st.sf.getD r.toNat Sf.none).putS most l).1,st) else
 ((((st.sf.getD r.toNat Sf.none).all++((st.sf.getD r.toNat Sf.none).putS most l).2).length:Int),0,
  (⟨st.told,st.sf.set r.toNat ⟨(st.sf.getD r.toNat Sf.none).all++((st.sf.getD r.toNat Sf.none).putS most l).2,(st.sf.getD r.toNat Sf.none).cut⟩⟩:PSt).cutAt r.toNat)
theorem pushC_eq (most:Int) (st:PSt) (r:Int) (l:List Ev):st.push most r l=st.pushC most r l:=by
 have hany:(∃ e∈l,e.r≠r)↔(l.any fun e=>decide (e.r≠r))=true:=by
  rw [List.any_eq_true]
  exact ⟨fun ⟨e,h1,h2⟩=>⟨e,h1,by simpa using h2⟩,fun ⟨e,h1,h2⟩=>⟨e,h1,by simpa using h2⟩⟩
 unfold PSt.push PSt.pushC Sf.put Sf.putS
 rw [putC_eq]
 by_cases h:¬ st.has r∨∃ e∈l,e.r≠r
 ·rw [if_pos h,if_pos (c:=¬ st.has r∨(l.any fun e=>decide (e.r≠r))=true) (h.imp id hany.1)]
 ·rw [if_neg h,if_neg (c:=¬ st.has r∨(l.any fun e=>decide (e.r≠r))=true) (fun k=>h (k.imp id hany.2))]
structure HSt where
 up:Bool
 recs:List Rcd
 tail:List UInt8
 cuts:Bool
 keep:Int
 post:PSt
def PSt.zero (c:Cfg):PSt:=⟨List.replicate (min (max c.n 0) 5).toNat Clk.zero,List.replicate (min (max c.n 0) 5).toNat Sf.none⟩
def hpStep (c:Cfg) (p:PSt) (x:Rcd):PSt:=if x.kind=5 then (p.pushC c.w x.r x.l).2.2 else if x.kind=6 then (p.ack x.r x.c).2 else p
def hreplay (c:Cfg) (recs:List Rcd):PSt:=recs.foldl (hpStep c) (PSt.zero c)
theorem hreplay_snoc (c:Cfg) (recs:List Rcd) (x:Rcd):hreplay c (recs++[x])=hpStep c (hreplay c recs) x:=by unfold hreplay;rw [List.foldl_append];rfl
def HSt.write (st:HSt) (x:Rcd):HSt×Int :=
  if st.cuts then
    (if x.bytes.length≤keptOf st.keep x.bytes.length then { st with up:=false,cuts:=false,recs:=st.recs++[x],tail:=[] }
     else { st with up:=false,cuts:=false,tail:=x.bytes.take (keptOf st.keep x.bytes.length) },18)
  else ({ st with recs:=st.recs++[x] },0)
def HSt.crash (st:HSt):HSt:={ st with up:=false,cuts:=false }
def HSt.cut (st:HSt) (keep:Int):HSt:={ st with cuts:=true,keep:=keep }
def HSt.start (st:HSt) (c:Cfg):HSt×Int :=
 if st.up then (st,19) else ({ st with up:=true,tail:=[],cuts:=false,post:=hreplay c st.recs },0)
def HSt.push (st:HSt) (c:Cfg) (r:Int) (l:List Ev):HSt×Int×(Rcd×Int) :=
 if (st.post.pushC c.w r l).2.1≠0 then (st,-1,(Rcd.zero,(st.post.pushC c.w r l).2.1)) else
 if (st.post.pushC c.w r l).1=st.post.lenF r.toNat then ({ st with post:=(st.post.pushC c.w r l).2.2 },r,(⟨2,r,(st.post.pushC c.w r l).1,Clk.zero,[]⟩,0)) else
 if (st.write (rcEv 5 r l)).2≠0 then ((st.write (rcEv 5 r l)).1,-1,(Rcd.zero,18)) else
 ({ (st.write (rcEv 5 r l)).1 with post:=(st.post.pushC c.w r l).2.2 },r,(⟨2,r,(st.post.pushC c.w r l).1,Clk.zero,[]⟩,0))
def HSt.fetch (st:HSt) (r:Int) (k:Clk):Int×(Rcd×Int) :=
 if (st.post.fetch r k).2≠0 then (-1,(Rcd.zero,(st.post.fetch r k).2)) else (r,(⟨4,r,0,Clk.zero,(st.post.fetch r k).1⟩,0))
def HSt.ack (st:HSt) (r:Int) (k:Clk):HSt×Int :=
 if (st.post.ack r k).1≠0 then (st,(st.post.ack r k).1) else
 if (st.post.ack r k).2.told.getD r.toNat Clk.zero=st.post.told.getD r.toNat Clk.zero then ({ st with post:=(st.post.ack r k).2 },0) else
 if (st.write ⟨6,r,0,k,[]⟩).2≠0 then ((st.write ⟨6,r,0,k,[]⟩).1,18) else ({ (st.write ⟨6,r,0,k,[]⟩).1 with post:=(st.post.ack r k).2 },0)
def HSt.take (st:HSt) (c:Cfg) (f:Rcd×Int):HSt×Int×(Rcd×Int) :=
 if st.up=false then (st,-1,(Rcd.zero,18)) else
 if f.2≠0 then (st,-1,(Rcd.zero,f.2)) else
 if c.n≤f.1.r then (st,-1,(Rcd.zero,23)) else
 if f.1.kind=1 then st.push c f.1.r f.1.l else
 if f.1.kind=3 then (st,st.fetch f.1.r f.1.c) else
 if f.1.kind=5 then ((st.ack f.1.r f.1.c).1,-1,(Rcd.zero,(st.ack f.1.r f.1.c).2)) else (st,-1,(Rcd.zero,23))
structure PStOk (k:Nat) (c:Cfg) (p:PSt):Prop where
 n:(p.sf.length:Int)=c.n
 t:p.told.length=p.sf.length
 s:∀ x∈p.sf,x.Ok∧x.all.length≤50 * k∧((x.all.length - x.cut:Nat):Int)≤c.w∧∀ e∈x.all,e.May
 a:∀ x∈p.told,∀ i,i<5→0≤x.get i∧x.get i≤1048576
structure HOk (k:Nat) (c:Cfg) (st:HSt):Prop where
 cm:c.May
 recs:∀ x∈st.recs,x.May
 tail:rcFirst st.tail=none
 size:(rcsB st.recs).length+st.tail.length≤500000 * k
 post:PStOk k c (hreplay c st.recs)
 up:st.up=true→st.tail=[]∧hreplay c st.recs=st.post
 ok:∀ x∈st.recs,x.r<c.n
structure HDsOk (st:HSt) (ds:DS):Prop where
 b:ds.b=rcsB st.recs++st.tail
 up:st.up=true→ds.down=false
 cut:ds.cut=st.cuts
 keep:st.cuts=true→ds.keep=st.keep
theorem HSt.write_f {st:HSt} (h:st.cuts=false) (x:Rcd):st.write x=({ st with recs:=st.recs++[x] },0):=by
 unfold HSt.write;rw [if_neg (by rw [h];simp)]
theorem HSt.write_t {st:HSt} (h:st.cuts=true) (x:Rcd):st.write x=((if x.bytes.length≤keptOf st.keep x.bytes.length then { st with up:=false,cuts:=false,recs:=st.recs++[x],tail:=[] }
     else { st with up:=false,cuts:=false,tail:=x.bytes.take (keptOf st.keep x.bytes.length) }),18):=by
  unfold HSt.write;rw [if_pos h]
theorem HDsOk.write {st:HSt} {ds:DS} (h:HDsOk st ds) (hu:st.up=true) (ht:st.tail=[]) (x:Rcd):HDsOk (st.write x).1 (ds.write x.bytes).1∧(ds.write x.bytes).2=(st.write x).2:=by
 obtain ⟨b,down,cut,keep⟩:=ds
 obtain ⟨hb,hd,hc,hk⟩:=h
 simp only at hb hd hc hk
 rw [ht,List.append_nil] at hb
 have hd':=hd hu
 subst hd'
 cases hcut:st.cuts with
 | false =>
  rw [HSt.write_f hcut]
  rw [hcut] at hc
  subst hc
  refine ⟨⟨?_,fun _=>rfl,hcut.symm,hk⟩,rfl⟩
  show b++x.bytes=rcsB (st.recs++[x])++st.tail
  rw [rcsB_app,hb,ht];simp [rcsB]
 | true =>
  rw [HSt.write_t hcut]
  have hkk:=hk hcut
  rw [hcut] at hc
  subst hc
  subst hkk
  refine ⟨?_,rfl⟩
  simp only
  by_cases hl:x.bytes.length≤keptOf st.keep x.bytes.length
  ·rw [if_pos hl]
   refine ⟨?_,(fun hx=>by cases hx),rfl,(fun hx=>by cases hx)⟩
   show b++x.bytes.take (keptOf st.keep x.bytes.length)=rcsB (st.recs++[x])++[]
   rw [List.take_of_length_le hl,rcsB_app,hb];simp [rcsB]
  ·rw [if_neg hl]
   refine ⟨?_,(fun hx=>by cases hx),rfl,(fun hx=>by cases hx)⟩
   show b++x.bytes.take (keptOf st.keep x.bytes.length)=rcsB st.recs++_
   rw [hb]
theorem HSt.write_e (st:HSt) (x:Rcd):(st.write x).2=0∨(st.write x).2=18:=by unfold HSt.write;split <;> simp
theorem HSt.write_up (st:HSt) (x:Rcd):((st.write x).2=0→(st.write x).1={ st with recs:=st.recs++[x] })∧((st.write x).2≠0→(st.write x).1.up=false):=by
 unfold HSt.write
 split
 ·refine ⟨fun h=>by simp at h,fun _=>?_⟩
  simp only
  split <;> rfl
 ·exact ⟨fun _=>rfl,fun h=>absurd rfl h⟩
end
section
@[reducible] def hbC (c:Cfg) (up:Bool) (d po:Value):List Value :=
 [.bool up,d,.int .i64 c.n,.int .i64 c.w,.int .i64 c.q,.int .i64 c.h,.int .i64 c.l,.int .i64 c.p,po]
@[reducible] def HbB (g:Nat) (c:Cfg) (up:Bool) (d po:Value):Assn:=Blk g 176 (hbC c up d po)
set_option maxRecDepth 20000 attribute [local irreducible] Ex ExL Fn thn inb rnd fin meet Tab Mix mxEnd Val Sats RdT Rd RowT Row Blk Sub Fac ResV RVal Evs subs subs3 Hid Capd
section
attribute [local irreducible] DkA DvA
theorem hstore_F (g:Nat) (c:Cfg) (up:Bool) (dv po:Value) (s:DS) (M:List Assn) :
  Fn Tryz.prog 129 #[.pointer (some ⟨g,0,none⟩)] (HbB g c up dv po::DvA dv s::M) fun v L'=>∃ gd,v=ptrV gd∧L'=HbB g c up (ptrV gd) po::DkA gd s::M:=by
 refine DvA.fn (A:=fun dv=>HbB g c up dv po) (fun h0 h1=>?_) (fun gd h=>?_)
 ·subst h0;subst h1
  refine Fn.resv (R:=fun v L'=>∃ gd,v=ptrV gd∧L'=Blk gd 284 (dkC (.slice none 0 0) DS.zero)::RowT (.slice none 0 0) 5 ([]:List UInt8)::HbB g c up (ptrV gd) po::M) ?_ ?_
  ·unfold nilP ptrV
   refine Fn.of_ex Tryz.func129 rfl Tryz.ntmps129 rfl ?_
   (refine rn ?_;(repeat (first | intro (g:Nat) | intro (v:Value) | intro h)))
   refine ExL.val rJ rJ rJ (vl_nil_nn rJ rJ rJ) ?_
   (refine rn ?_;(repeat (first | intro (g:Nat) | intro (v:Value) | intro h)))
   refine st_callIs [] rJ Tryz.call184 rJ rJ (disk_New _) ?_
   rintro _ _ ⟨gd,rfl,rfl⟩
   (refine rn ?_;(repeat (first | intro (g:Nat) | intro (v:Value) | intro h)))
   (refine fr ?_)
   exact ⟨_,rB,gd,rfl,rfl⟩
  ·rintro v L' ⟨gd,rfl,rfl⟩
   exact ⟨_,Sub.trans (Sub.front (L:=DkA gd DS.zero::HbB g c up (ptrV gd) po::M) 1 rfl) (DkA.cls rfl _),gd,rfl,rfl⟩
 ·subst h
  unfold ptrV
  refine Fn.of_ex Tryz.func129 rfl Tryz.ntmps129 rfl ?_
  (refine rn ?_;intros)
  (refine fr ?_)
  exact ⟨_,rB,gd,rfl,rfl⟩
theorem hwrite_F (gn:Nat) (c:Cfg) (up:Bool) (dv po:Value) (s:DS) (x:Rcd) (v0:Value) (M:List Assn)
  (hr:RdT M v0 x.l) (o0:v0.oneCell'=true) (hl:x.l.length≤1000000000) (hs:∀ e∈x.l,e.ed.key.length≤1000∧e.ed.value.length≤1000) (hm:x.May)
  (hb:s.b.length+x.bytes.length≤140737488355328) :
  Fn Tryz.prog 197 #[ptrV gn,.agg (rcC x v0).toArray] (HbB gn c up dv po::DvA dv s::M)
   fun v L'=>∃ gd,v=.int .i64 (s.write x.bytes).2∧L'=HbB gn c (up && decide ((s.write x.bytes).2=0)) (ptrV gd) po::DkA gd (s.write x.bytes).1::M:=by
 refine Fn.of_ex Tryz.func197 rfl Tryz.ntmps197 rfl ?_
 (refine rn ?_;(repeat (first | intro (v:Value) | intro h)))
 refine st_callIs [] rJ Tryz.call172 rJ rJ (rput_F x v0 _ (hr.sub rB) o0 hl hs) ?_
 rintro _ _ (⟨hn,_,_⟩ | ⟨_,v,ov,rfl,rfl⟩)
 ·exact absurd hm hn
 (refine rn ?_;(repeat (first | intro (v:Value) | intro h)))
 refine st_callIs [3,3] rJ Tryz.call129 rE rJ (hstore_F _ c up dv po s _) ?_
 rintro _ _ ⟨gd,rfl,rfl⟩
 (refine rn ?_;(repeat (first | intro (v:Value) | intro h)))
 refine st_callIs [1] rJ Tryz.call173 rE rJ (dk_Write gd v s x.bytes _ rD hb) ?_
 rintro _ _ ⟨rfl,rfl⟩
 rcases s.write_errno x.bytes with he | he
 ·rw [he]
  have e1:(up && decide ((0:Int)=0))=up:=by simp
  rw [e1]
  (refine rn ?_;intros)
  (refine fr ?_)
  exact ⟨HbB gn c up (ptrV gd) po::DkA gd (s.write x.bytes).1::M,Sub.trans rB (Sub.front 1 rfl),gd,rfl,rfl⟩
 ·rw [he]
  have e1:(up && decide ((18:Int)=0))=false:=by simp
  rw [e1]
  (refine rn ?_;intros)
  (refine fr ?_)
  exact ⟨HbB gn c false (ptrV gd) po::DkA gd (s.write x.bytes).1::M,Sub.trans rB (Sub.front 1 rfl),gd,rfl,rfl⟩
end
end
section
@[reducible] def hbUp (g gp:Nat) (c:Cfg) (st:HSt) (dv:Value) (ds:DS) (M:List Assn):List Assn:=HbB g c true dv (ptrV gp)::DvA dv ds::PoA gp c.w st.post::M
@[reducible] def hbDn (g:Nat) (c:Cfg) (dv:Value) (ds:DS) (po:Value) (M:List Assn):List Assn:=HbB g c false dv po::DvA dv ds::M
def HubA (g:Nat) (c:Cfg) (st:HSt):Assn:=fun h =>
 (st.up=true∧∃ dv ds gp,HDsOk st ds∧Star (hbUp g gp c st dv ds []) h) ∨
 (st.up=false∧∃ dv ds po,HDsOk st ds∧Star (hbDn g c dv ds po []) h)
theorem HubA.fn {P:Program} {k:FuncId} {args:Array Value} {g:Nat} {c:Cfg} {st:HSt} {M:List Assn} {R:Value→List Assn→Prop}
  (hd:st.up=false→∀ dv ds po,HDsOk st ds→Fn P k args (hbDn g c dv ds po M) R)
  (hu:st.up=true→∀ dv ds gp,HDsOk st ds→Fn P k args (hbUp g gp c st dv ds M) R):Fn P k args (HubA g c st::M) R:=fun F w0 w rr ⟨h,a,d,s⟩=>by
 rcases a with ⟨u,dv,ds,gp,ok,a⟩ | ⟨u,dv,ds,po,ok,a⟩
 ·exact hu u dv ds gp ok F w0 w rr (Star.opens _ _ w F ⟨h,a,d,s⟩)
 ·exact hd u dv ds po ok F w0 w rr (Star.opens _ _ w F ⟨h,a,d,s⟩)
theorem HubA.cls_up {g gp:Nat} {c:Cfg} {st:HSt} {dv:Value} {ds:DS} (hu:st.up=true) (ok:HDsOk st ds) (M:List Assn):Sub (HubA g c st::M) (hbUp g gp c st dv ds M) :=
 Sub.trans (Sub.cons' (fun _ a=>.inl ⟨hu,dv,ds,gp,ok,a⟩) (Sub.refl M)) (Star.closes (hbUp g gp c st dv ds []) M)
theorem HubA.cls_upK {g gp gd:Nat} {c:Cfg} {st:HSt} {ds:DS} (hu:st.up=true) (ok:HDsOk st ds) (M:List Assn):Sub (HubA g c st::M) (HbB g c true (ptrV gd) (ptrV gp)::DkA gd ds::PoA gp c.w st.post::M) :=
 Sub.trans (HubA.cls_up hu ok M) (Sub.cons _ (DvA.of _))
theorem HubA.cls_dn {g:Nat} {c:Cfg} {st:HSt} {dv po:Value} {ds:DS} (hu:st.up=false) (ok:HDsOk st ds) (M:List Assn):Sub (HubA g c st::M) (hbDn g c dv ds po M) :=
 Sub.trans (Sub.cons' (fun _ a=>.inr ⟨hu,dv,ds,po,ok,a⟩) (Sub.refl M)) (Star.closes (hbDn g c dv ds po []) M)
theorem HubA.cls_dnK {g gd:Nat} {c:Cfg} {st:HSt} {po:Value} {ds:DS} (hu:st.up=false) (ok:HDsOk st ds) (M:List Assn):Sub (HubA g c st::M) (HbB g c false (ptrV gd) po::DkA gd ds::M) :=
 Sub.trans (HubA.cls_dn hu ok M) (Sub.cons _ (DvA.of _))
theorem HOk.disk {k:Nat} {c:Cfg} {st:HSt} {ds:DS} (ok:HOk k c st) (hk:k≤200) (dok:HDsOk st ds):ds.b.length≤100000000:=by
 have:=ok.size
 rw [dok.b,List.length_append]
 omega
theorem HDsOk.mem {st st':HSt} {ds:DS} (h:HDsOk st ds) (h1:st'.recs=st.recs) (h2:st'.tail=st.tail) (h3:st'.up=st.up) (h4:st'.cuts=st.cuts) (h5:st'.keep=st.keep):HDsOk st' ds :=
 ⟨by rw [h1,h2];exact h.b,by rw [h3];exact h.up,by rw [h4];exact h.cut,by rw [h4,h5];exact h.keep⟩
set_option maxRecDepth 20000 attribute [local irreducible] Ex ExL Fn thn inb rnd fin meet Tab Mix mxEnd Val Sats RdT Rd RowT Row Blk Sub Fac ResV RVal Evs subs subs3 Hid Capd
section
attribute [local irreducible] DkA DvA Star PoA
theorem hCut_F (gn:Nat) (c:Cfg) (up:Bool) (dv po:Value) (s:DS) (n:Int) (M:List Assn) :
  Fn Tryz.prog 368 #[ptrV gn,.int .i64 n] (HbB gn c up dv po::DvA dv s::M)
   fun v L'=>∃ gd,L'=HbB gn c up (ptrV gd) po::DkA gd ⟨s.b,s.down,true,n⟩::M:=by
 refine Fn.of_ex Tryz.func368 rfl Tryz.ntmps368 rfl ?_
 (refine rn ?_;intros)
 refine st_callIs [] rJ Tryz.call129 rE rJ (hstore_F _ c up dv po s _) ?_
 rintro _ _ ⟨gd,rfl,rfl⟩
 (refine rn ?_;intros)
 refine st_callIs [1] rJ Tryz.call369 rE rJ (dk_Cut gd s n _) ?_
 rintro _ _ rfl
 (refine rn ?_;intros)
 (refine fr ?_)
 exact ⟨HbB gn c up (ptrV gd) po::DkA gd ⟨s.b,s.down,true,n⟩::M,rP,gd,rfl⟩
theorem hCrash_F (gn:Nat) (c:Cfg) (up:Bool) (dv po:Value) (s:DS) (M:List Assn) :
  Fn Tryz.prog 62 #[ptrV gn] (HbB gn c up dv po::DvA dv s::M)
   fun v L'=>∃ gd,L'=HbB gn c false (ptrV gd) po::DkA gd ⟨s.b,true,false,s.keep⟩::M:=by
 refine Fn.of_ex Tryz.func62 rfl Tryz.ntmps62 rfl ?_
 (refine rn ?_;intros)
 refine st_callIs [] rJ Tryz.call129 rE rJ (hstore_F _ c false dv po s _) ?_
 rintro _ _ ⟨gd,rfl,rfl⟩
 (refine rn ?_;intros)
 refine st_callIs [1] rJ Tryz.call123 rE rJ (dk_Crash gd s _) ?_
 rintro _ _ rfl
 (refine rn ?_;intros)
 (refine fr ?_)
 exact ⟨HbB gn c false (ptrV gd) po::DkA gd ⟨s.b,true,false,s.keep⟩::M,rP,gd,rfl⟩
theorem hCutA (gn:Nat) (c:Cfg) (st:HSt) (n:Int) (M:List Assn):Fn Tryz.prog 368 #[ptrV gn,.int .i64 n] (HubA gn c st::M) fun v L'=>L'=HubA gn c (st.cut n)::M:=by
 refine HubA.fn (fun hu dv ds po ok=>?_) (fun hu dv ds gp ok=>?_)
 ·refine (hCut_F gn c false dv po ds n M).resv ?_
  rintro v L' ⟨gd,rfl⟩
  exact ⟨_,HubA.cls_dnK (st:=st.cut n) (ds:=⟨ds.b,ds.down,true,n⟩) hu ⟨ok.b,(fun h=>by rw [show (st.cut n).up=st.up from rfl,hu] at h;cases h),rfl,fun _=>rfl⟩ M,rfl⟩
 ·refine (hCut_F gn c true dv (ptrV gp) ds n (PoA gp c.w st.post::M)).resv ?_
  rintro v L' ⟨gd,rfl⟩
  exact ⟨_,HubA.cls_upK (st:=st.cut n) (gd:=gd) (ds:=⟨ds.b,ds.down,true,n⟩) hu ⟨ok.b,ok.up,rfl,fun _=>rfl⟩ M,rfl⟩
theorem hCrashA (gn:Nat) (c:Cfg) (st:HSt) (M:List Assn):Fn Tryz.prog 62 #[ptrV gn] (HubA gn c st::M) fun v L'=>L'=HubA gn c st.crash::M:=by
 refine HubA.fn (fun hu dv ds po ok=>?_) (fun hu dv ds gp ok=>?_)
 ·refine (hCrash_F gn c false dv po ds M).resv ?_
  rintro v L' ⟨gd,rfl⟩
  exact ⟨_,HubA.cls_dnK (st:=st.crash) (ds:=⟨ds.b,true,false,ds.keep⟩) rfl ⟨ok.b,(fun h=>by cases h),rfl,(fun h=>by cases h)⟩ M,rfl⟩
 ·refine (hCrash_F gn c true dv (ptrV gp) ds (PoA gp c.w st.post::M)).resv ?_
  rintro v L' ⟨gd,rfl⟩
  exact ⟨_,Sub.trans (HubA.cls_dnK (st:=st.crash) (gd:=gd) (ds:=⟨ds.b,true,false,ds.keep⟩) (po:=ptrV gp) rfl ⟨ok.b,(fun h=>by cases h),rfl,(fun h=>by cases h)⟩ M) rP,rfl⟩
structure HsU where
 up:Bool
 s:Hs
deriving DecidableEq
def HSt.siteU (st:HSt):HsU:=if st.up=true then ⟨true,st.post.site⟩ else ⟨false,⟨Clk.zero,Clk.zero,Clk.zero,Clk.zero,Clk.zero,Clk.zero,Clk.zero⟩⟩
instance:Rep HsU:=⟨36,fun h=>.bool h.up::(Rep.cells h.s.base++Rep.cells h.s.len++Rep.cells h.s.a0++Rep.cells h.s.a1++Rep.cells h.s.a2++Rep.cells h.s.a3++Rep.cells h.s.a4),by decide,fun _=>rfl,fun _=>rfl⟩
theorem HOk.pok {k:Nat} {c:Cfg} {st:HSt} (ok:HOk k c st) (hk:k≤200) (hu:st.up=true):st.post.Ok 1000000:=by
 have h:=ok.post
 rw [(ok.up hu).2] at h
 have h1:=h.n
 have h2:=ok.cm.n
 refine ⟨by omega,h.t,fun x hx=>⟨(h.s x hx).1,?_⟩⟩
 have:=(h.s x hx).2.1
 omega
theorem hSiteA {k:Nat} (gn:Nat) (c:Cfg) (st:HSt) (M:List Assn) (ok:HOk k c st) (hk:k≤200):Fn Tryz.prog 36 #[ptrV gn] (HubA gn c st::M) fun v L'=>v=.agg (Rep.cells st.siteU).toArray∧L'=HubA gn c st::M:=by
 refine HubA.fn (fun hu dv ds po dok=>?_) (fun hu dv ds gp dok=>?_)
 ·have e:st.siteU=⟨false,⟨Clk.zero,Clk.zero,Clk.zero,Clk.zero,Clk.zero,Clk.zero,Clk.zero⟩⟩:=by unfold HSt.siteU;rw [if_neg (by rw [hu];simp)]
  rw [e]
  refine Fn.of_ex Tryz.func36 rfl Tryz.ntmps36 rfl ?_
  (refine rn ?_;intros)
  (refine fr ?_)
  exact ⟨_,Sub.trans (HubA.cls_dn hu dok M) rP,rfl,rfl⟩
 ·have e:Rep.cells st.siteU=Rep.cells st.post.site:=by
   have:st.siteU=⟨true,st.post.site⟩:=by unfold HSt.siteU;rw [if_pos hu]
   rw [this];rfl
  rw [e]
  refine Fn.of_ex Tryz.func36 rfl Tryz.ntmps36 rfl ?_
  (refine rn ?_;intros)
  refine st_callIs [3] rJ Tryz.call92 rE rJ (post_SiteA gp c.w st.post _ (ok.pok hk hu)) ?_
  rintro _ _ ⟨rfl,rfl⟩
  generalize st.post.site=hs
  (refine rn ?_;intros)
  (refine fr ?_)
  exact ⟨_,Sub.trans (HubA.cls_up hu dok M) rP,rfl,rfl⟩
end
end
section
theorem set_getD_self {α:Type} (l:List α) (i:Nat) (d:α):l.set i (l.getD i d)=l:=by
 by_cases h:i<l.length
 ·rw [show l.getD i d=l[i]'h by simp [List.getD_eq_getElem?_getD,h],List.set_getElem_self]
 ·exact List.set_eq_of_length_le rM
def PSt.alls (p:PSt):List (List Ev):=p.sf.map Sf.all
theorem cutAt_alls (p:PSt) (s:Nat):(p.cutAt s).alls=p.alls:=by
 show (p.sf.set s _).map Sf.all=p.sf.map Sf.all
 rw [List.map_set]
 show (p.sf.map Sf.all).set s (p.sf.getD s Sf.none).all=_
 have:(p.sf.getD s Sf.none).all=(p.sf.map Sf.all).getD s []:=by
  simp only [List.getD_eq_getElem?_getD,List.getElem?_map]
  cases p.sf[s]? <;> rfl
 rw [this,set_getD_self]
theorem cutN_alls (p:PSt):∀ k,(p.cutN k).alls=p.alls
 | 0=>rfl
 | k+1=>by
  show ((p.cutN k).cutAt k).alls=_
  rw [cutAt_alls,cutN_alls p k]
theorem ack_alls (p:PSt) (r:Int) (c:Clk):(p.ack r c).2.alls=p.alls:=by
 unfold PSt.ack
 split
 ·rfl
 ·exact cutN_alls _ _
theorem push_alls (most:Int) (p:PSt) (r:Int) (l:List Ev):(p.pushC most r l).2.2.alls=p.alls ∨
  ((p.pushC most r l).2.1=0∧p.has r∧(p.pushC most r l).2.2.alls=p.alls.set r.toNat (p.alls.getD r.toNat []++((p.sf.getD r.toNat Sf.none).putS most l).2)):=by
 unfold PSt.pushC
 split
 ·exact .inl rfl
 ·rename_i h
  split
  ·exact .inl rfl
  ·refine .inr ⟨rfl,by
    by_cases hh:p.has r
    ·exact hh
    ·exact absurd (.inl hh) h,?_⟩
   simp only
   rw [cutAt_alls]
   show (p.sf.set _ _).map Sf.all=_
   rw [List.map_set]
   have:(p.sf.getD r.toNat Sf.none).all=p.alls.getD r.toNat []:=by
    unfold PSt.alls
    simp only [List.getD_eq_getElem?_getD,List.getElem?_map]
    cases p.sf[r.toNat]? <;> rfl
   simp only [this]
   rfl
def PLe (p q:PSt):Prop:=p.sf.length=q.sf.length∧p.told.length=q.told.length∧∀ i,p.alls.getD i [] <+: q.alls.getD i []
theorem PLe.refl (p:PSt):PLe p p:=⟨rfl,rfl,fun i=>List.prefix_refl _⟩
theorem PLe.trans {p q s:PSt} (h:PLe p q) (k:PLe q s):PLe p s:=⟨h.1.trans k.1,h.2.1.trans k.2.1,fun i=>(h.2.2 i).trans (k.2.2 i)⟩
theorem alls_len {p q:PSt} (h:p.alls.length=q.alls.length):p.sf.length=q.sf.length:=by simpa [PSt.alls] using h
theorem push_told (most:Int) (p:PSt) (r:Int) (l:List Ev):(p.pushC most r l).2.2.told=p.told:=by
 unfold PSt.pushC
 split
 ·rfl
 ·split <;> rfl
theorem push_le (most:Int) (p:PSt) (r:Int) (l:List Ev):PLe p (p.pushC most r l).2.2:=by
 rcases push_alls most p r l with h | ⟨_,hh,h⟩
 ·exact ⟨alls_len (by rw [h]),by rw [push_told],fun i=>by rw [h];exact List.prefix_refl _⟩
 ·refine ⟨alls_len (by rw [h,List.length_set]),by rw [push_told],fun i=>?_⟩
  rw [h]
  by_cases hi:r.toNat=i
  ·subst hi
   have hl:r.toNat<p.alls.length:=by unfold PSt.alls;rw [List.length_map];have:=hh.1;have:=hh.2;omega
   rw [List.getD_eq_getElem?_getD (l:=p.alls.set _ _),List.getElem?_set_self hl]
   exact List.prefix_append _ _
  ·rw [List.getD_eq_getElem?_getD (l:=p.alls.set _ _),List.getElem?_set_ne hi,← List.getD_eq_getElem?_getD]
   exact List.prefix_refl _
theorem ack_le (p:PSt) (r:Int) (c:Clk):PLe p (p.ack r c).2:=by
 have h:=ack_alls p r c
 refine ⟨alls_len (by rw [h]),?_,fun i=>by rw [h];exact List.prefix_refl _⟩
 unfold PSt.ack
 split
 ·rfl
 ·show p.told.length=((⟨p.told.set _ _,p.sf⟩:PSt).cutN _).told.length
  rw [PSt.cutN_told];simp
theorem hpStep_le (c:Cfg) (p:PSt) (x:Rcd):PLe p (hpStep c p x):=by
 unfold hpStep
 split
 ·exact push_le ..
 ·split
  ·exact ack_le ..
  ·exact PLe.refl p
theorem hreplay_le (c:Cfg) (recs:List Rcd) (j:Nat):PLe (hreplay c (recs.take j)) (hreplay c recs):=by
 have key:∀ (l:List Rcd) (p:PSt),PLe p (l.foldl (hpStep c) p):=by
  intro l
  induction l with
  | nil=>exact PLe.refl
  | cons x l ih=>exact fun p=>(hpStep_le c p x).trans (ih _)
 have h:=key (recs.drop j) (hreplay c (recs.take j))
 unfold hreplay at h ⊢
 rw [← List.foldl_append,List.take_append_drop] at h
 exact h
def SfOk (p:PSt):Prop:=∀ x∈p.sf,x.Ok
theorem getD_ok {p:PSt} (h:SfOk p) (s:Nat):(p.sf.getD s Sf.none).Ok:=by
 by_cases hs:s<p.sf.length
 ·rw [show p.sf.getD s Sf.none=p.sf[s]'hs by simp [List.getD_eq_getElem?_getD,hs]]
  exact h _ (List.getElem_mem hs)
 ·have hs2:p.sf.length≤s:=by omega
  rw [show p.sf.getD s Sf.none=Sf.none by simp [List.getD_eq_getElem?_getD,List.getElem?_eq_none hs2]]
  exact Nat.le_refl 0
theorem cutAt_ok {p:PSt} (h:SfOk p) (s:Nat):SfOk (p.cutAt s):=fun x hx=>by
 rcases List.mem_or_eq_of_mem_set hx with hx | rfl
 ·exact h x hx
 ·exact Sf.to_ok (getD_ok h s) _
theorem cutN_ok {p:PSt} (h:SfOk p):∀ k,SfOk (p.cutN k)
 | 0=>h
 | k+1=>cutAt_ok (cutN_ok h k) k
theorem push_ok {p:PSt} (h:SfOk p) (most r:Int) (l:List Ev):SfOk (p.pushC most r l).2.2:=by
 unfold PSt.pushC
 split
 ·exact h
 ·split
  ·exact h
  ·refine cutAt_ok (fun x hx=>?_) _
   rcases List.mem_or_eq_of_mem_set hx with hx | rfl
   ·exact h x hx
   ·have:=getD_ok h r.toNat
    unfold Sf.Ok at this
    show (p.sf.getD r.toNat Sf.none).cut≤((p.sf.getD r.toNat Sf.none).all++_).length
    rw [List.length_append]
    omega
theorem ack_ok {p:PSt} (h:SfOk p) (r:Int) (c:Clk):SfOk (p.ack r c).2:=by
 unfold PSt.ack
 split
 ·exact h
 ·exact cutN_ok (p:=⟨p.told.set r.toNat ((p.told.getD r.toNat Clk.zero).join c),p.sf⟩) h _
theorem hpStep_ok {c:Cfg} {p:PSt} (h:SfOk p) (x:Rcd):SfOk (hpStep c p x):=by
 unfold hpStep
 split
 ·exact push_ok h _ _ _
 ·split
  ·exact ack_ok h _ _
  ·exact h
theorem hreplay_ok (c:Cfg) (recs:List Rcd):SfOk (hreplay c recs):=by
 have key:∀ (l:List Rcd) (p:PSt),SfOk p→SfOk (l.foldl (hpStep c) p):=by
  intro l
  induction l with
  | nil=>exact fun p h=>h
  | cons x l ih=>exact fun p h=>ih _ (hpStep_ok h x)
 refine key recs _ (fun x hx=>?_)
 have:=List.eq_of_mem_replicate hx
 rw [this]
 exact Nat.le_refl 0
theorem hreplay_pok {k:Nat} {c:Cfg} {recs:List Rcd} (hc:c.May) (hk:k≤200) (h:PStOk k c (hreplay c recs)) (j:Nat):(hreplay c (recs.take j)).Ok 1000000:=by
 have hle:=hreplay_le c recs j
 have hok:=hreplay_ok c (recs.take j)
 have h1:=h.n
 have h2:=hc.n
 have h3:=hle.1
 have h4:=hle.2.1
 have h5:=h.t
 refine ⟨by omega,by omega,fun x hx=>⟨hok x hx,?_⟩⟩
 obtain ⟨i,hi,rfl⟩:=List.getElem_of_mem hx
 have hp:=(hle.2.2 i).length_le
 have e1:(hreplay c (recs.take j)).alls.getD i []=((hreplay c (recs.take j)).sf[i]'hi).all:=by
  unfold PSt.alls;simp [List.getD_eq_getElem?_getD,hi]
 have hi2:i<(hreplay c recs).sf.length:=by omega
 have e2:(hreplay c recs).alls.getD i []=((hreplay c recs).sf[i]'hi2).all:=by
  unfold PSt.alls;simp [List.getD_eq_getElem?_getD,hi2]
 rw [e1,e2] at hp
 have:=(h.s _ (List.getElem_mem hi2)).2.1
 omega
end
end Go.Proofs.YtogcfijlhpaeeaaGreat
