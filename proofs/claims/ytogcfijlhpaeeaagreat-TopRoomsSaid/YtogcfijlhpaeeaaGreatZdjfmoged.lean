/- Texts, one behind the other. No condition. -/
import Derived.Test.YtogcfijlhpaeeaaGreatZdjglmago
import Derived.Test.YtogcfijlhpaeeaaGreatZehjcikgl
import Derived.Test.YtogcfijlhpaeeaaGreatZlfhngpji
open Go.RowKit
set_option linter.unusedSimpArgs false
set_option linter.unusedVariables false
set_option linter.unusedSectionVars false
set_option maxHeartbeats 32000000
namespace Go.Proofs.YtogcfijlhpaeeaaGreat
section
attribute [local irreducible] DkA DvA Star LvA
theorem nCutA (gn:Nat) (c:Cfg) (r:Int) (st:NSt) (n:Int) (M:List Assn):Fn Tryz.prog 370 #[ptrV gn,.int .i64 n] (NodeA gn c r st::M) fun v L'=>L'=NodeA gn c r (st.cut n)::M:=by
 refine NodeA.fn (fun hu dv ds vl sent b i o ok=>?_) (fun hu dv ds x ok ox=>?_)
 ·refine (nCut_F gn c r false dv vl sent b i o ds n M).resv ?_
  rintro v L' ⟨gd,rfl⟩
  exact ⟨_,NodeA.cls_dnK (st:=st.cut n) (ds:=⟨ds.b,ds.down,true,n⟩) hu ⟨ok.b,(fun h=>by rw [show (st.cut n).up=st.up from rfl,hu] at h;cases h),rfl,fun _=>rfl⟩ M,rfl⟩
 ·refine ((nCut_F gn c r true dv x.vl st.sent (ptrV x.gb) (ptrV x.gi) (ptrV x.go) ds n (InO x.gi c.h st.clk x.v0::Evs_ x.v0 st.held::OxO x.go c.q c.w st.sent x.vw::Evs_ x.vw st.wait::Evs_ x.vl st.log::LvA x.gb (lvOf st.log)::M)).sub rP).resv ?_
  rintro v L' ⟨gd,rfl⟩
  exact ⟨_,Sub.trans (NodeA.cls_upK (st:=st.cut n) (gd:=gd) (ds:=⟨ds.b,ds.down,true,n⟩) x hu ⟨ok.b,ok.up,rfl,fun _=>rfl⟩ ox M) rP,rfl⟩
theorem nCrashA (gn:Nat) (c:Cfg) (r:Int) (st:NSt) (M:List Assn):Fn Tryz.prog 60 #[ptrV gn] (NodeA gn c r st::M) fun v L'=>L'=NodeA gn c r st.crash::M:=by
 refine NodeA.fn (fun hu dv ds vl sent b i o ok=>?_) (fun hu dv ds x ok ox=>?_)
 ·refine (nCrash_F gn c r false dv vl sent b i o ds M).resv ?_
  rintro v L' ⟨gd,rfl⟩
  exact ⟨_,NodeA.cls_dnK (st:=st.crash) (ds:=⟨ds.b,true,false,ds.keep⟩) rfl ⟨ok.b,(fun h=>by cases h),rfl,(fun h=>by cases h)⟩ M,rfl⟩
 ·refine ((nCrash_F gn c r true dv x.vl st.sent (ptrV x.gb) (ptrV x.gi) (ptrV x.go) ds (InO x.gi c.h st.clk x.v0::Evs_ x.v0 st.held::OxO x.go c.q c.w st.sent x.vw::Evs_ x.vw st.wait::Evs_ x.vl st.log::LvA x.gb (lvOf st.log)::M)).sub rP).resv ?_
  rintro v L' ⟨gd,rfl⟩
  exact ⟨_,Sub.trans (NodeA.cls_dnK (st:=st.crash) (gd:=gd) (ds:=⟨ds.b,true,false,ds.keep⟩) (vl:=x.vl) (sent:=st.sent) (b:=ptrV x.gb) (i:=ptrV x.gi) (o:=ptrV x.go) rfl ⟨ok.b,(fun h=>by cases h),rfl,(fun h=>by cases h)⟩ M) rP,rfl⟩
theorem tell_may {k r:Int} {c:Clk} (hk:k=3∨k=5) (hr:0≤r∧r<5) (hc:∀ i,i<5→0≤c.get i∧c.get i≤1048576):(⟨k,r,0,c,[]⟩:Rcd).FMay:=by
 refine ⟨by show 1≤k∧k≤5;omega,hr,by simp,fun _=>rfl,fun h=>?_,fun _=>rfl,hc,by simp,fun h=>?_,by simp,by simp⟩
 ·exact absurd hk h
 ·have:k=1:=h
  omega
theorem nFetchA {k:Nat} (gn:Nat) (c:Cfg) (r:Int) (st:NSt) (M:List Assn) (ok:NOk k c r st) (hk:k≤200):Fn Tryz.prog 43 #[ptrV gn] (NodeA gn c r st::M)
  fun v L'=>∃ u,u.oneCell'=true∧v=.tuple #[u,.int .i64 (st.tell r 3).2]∧L'=Bys u (frB (st.tell r 3))::NodeA gn c r st::M:=by
 refine NodeA.fn (fun hu dv ds vl sent b i o dok=>?_) (fun hu dv ds x dok ox=>?_)
 ·refine (nFetch_down gn c r dv vl sent b i o (DvA dv ds::M)).resv ?_
  rintro v L' ⟨rfl,rfl⟩
  have e:st.tell r 3=(Rcd.zero,18):=by unfold NSt.tell;rw [if_pos hu]
  rw [e]
  exact ⟨_,Sub.trans (Bys.nil _) (NodeA.cls_dn hu dok M),.slice none 0 0,rfl,rfl,rfl⟩
 ·refine (nFetch_up gn x.gi c r dv x.vl st.sent (ptrV x.gb) (ptrV x.go) c.h st.clk x.v0 st.held (DvA dv ds::OxO x.go c.q c.w st.sent x.vw::Evs_ x.vw st.wait::Evs_ x.vl st.log::LvA x.gb (lvOf st.log)::M) (tell_may (.inl rfl) ok.r5 (ok.clkB hk hu))).resv ?_
  rintro v L' ⟨u,ou,rfl,rfl⟩
  have e:st.tell r 3=(⟨3,r,0,st.clk,[]⟩,0):=by unfold NSt.tell;rw [if_neg (by rw [hu];simp)]
  rw [e]
  exact ⟨_,Sub.cons _ (NodeA.cls_up x hu dok ox M),u,ou,rfl,rfl⟩
theorem nAckA {k:Nat} (gn:Nat) (c:Cfg) (r:Int) (st:NSt) (M:List Assn) (ok:NOk k c r st) (hk:k≤200):Fn Tryz.prog 44 #[ptrV gn] (NodeA gn c r st::M)
  fun v L'=>∃ u,u.oneCell'=true∧v=.tuple #[u,.int .i64 (st.tell r 5).2]∧L'=Bys u (frB (st.tell r 5))::NodeA gn c r st::M:=by
 refine NodeA.fn (fun hu dv ds vl sent b i o dok=>?_) (fun hu dv ds x dok ox=>?_)
 ·refine (nAck_down gn c r dv vl sent b i o (DvA dv ds::M)).resv ?_
  rintro v L' ⟨rfl,rfl⟩
  have e:st.tell r 5=(Rcd.zero,18):=by unfold NSt.tell;rw [if_pos hu]
  rw [e]
  exact ⟨_,Sub.trans (Bys.nil _) (NodeA.cls_dn hu dok M),.slice none 0 0,rfl,rfl,rfl⟩
 ·refine (nAck_up gn x.gi c r dv x.vl st.sent (ptrV x.gb) (ptrV x.go) c.h st.clk x.v0 st.held (DvA dv ds::OxO x.go c.q c.w st.sent x.vw::Evs_ x.vw st.wait::Evs_ x.vl st.log::LvA x.gb (lvOf st.log)::M) (tell_may (.inr rfl) ok.r5 (ok.clkB hk hu))).resv ?_
  rintro v L' ⟨u,ou,rfl,rfl⟩
  have e:st.tell r 5=(⟨5,r,0,st.clk,[]⟩,0):=by unfold NSt.tell;rw [if_neg (by rw [hu];simp)]
  rw [e]
  exact ⟨_,Sub.cons _ (NodeA.cls_up x hu dok ox M),u,ou,rfl,rfl⟩
theorem push_may {r:Int} {l:List Ev} (hr:0≤r∧r<5) (hl:l.length≤20) (hn:l≠[]) (hm:∀ e∈l,e.May∧e.r=r):(rcEv 1 r l).FMay:=by
 refine ⟨by show (1:Int)≤1∧(1:Int)≤5;omega,hr,by show (0:Int)≤0∧(0:Int)≤1048576;omega,fun _=>rfl,fun _=>rfl,fun h=>?_,fun i hi=>?_,hl,fun _=>hn,fun e he=>(hm e he).1,fun _ e he=>(hm e he).2⟩
 ·exact absurd (.inl rfl) h
 ·have:Clk.zero.get i=0:=zero_get i
  show 0≤Clk.zero.get i∧Clk.zero.get i≤1048576
  omega
theorem nPushA {k:Nat} (gn:Nat) (c:Cfg) (r:Int) (st:NSt) (M:List Assn) (ok:NOk k c r st) (hk:k≤200):Fn Tryz.prog 42 #[ptrV gn] (NodeA gn c r st::M)
  fun v L'=>∃ u,u.oneCell'=true∧v=.tuple #[u,.int .i64 (st.push c r).2]∧L'=Bys u (frB (st.push c r))::NodeA gn c r st::M:=by
 refine NodeA.fn (fun hu dv ds vl sent b i o dok=>?_) (fun hu dv ds x dok ox=>?_)
 ·refine (nPush_down gn c r dv vl sent b i o (DvA dv ds::M)).resv ?_
  rintro v L' ⟨rfl,rfl⟩
  have e:st.push c r=(Rcd.zero,18):=by unfold NSt.push;rw [if_pos hu]
  rw [e]
  exact ⟨_,Sub.trans (Bys.nil _) (NodeA.cls_dn hu dok M),.slice none 0 0,rfl,rfl,rfl⟩
 ·obtain ⟨hw1,hw2,hw3⟩:=ok.wait hu
  have hcq:=ok.cm.q
  have hcw:=ok.cm.w
  by_cases hw:st.wait=[]
  ·have e:st.push c r=(Rcd.zero,24):=by unfold NSt.push;rw [if_neg (by rw [hu];simp),if_pos hw]
   rw [e]
   refine ((nPush_none gn x.go c r dv x.vl st.sent (ptrV x.gb) (ptrV x.gi) c.q c.w st.sent x.vw (InO x.gi c.h st.clk x.v0::Evs_ x.v0 st.held::DvA dv ds::Evs_ x.vl st.log::LvA x.gb (lvOf st.log)::M)).sub (by rw [← hw];exact rP)).resv ?_
   rw [← hw]
   rintro v L' ⟨rfl,rfl⟩
   exact ⟨_,Sub.trans (Bys.nil _) (Sub.trans (NodeA.cls_up x hu dok ox M) rP),.slice none 0 0,rfl,rfl,rfl⟩
  ·have e:st.push c r=(rcEv 1 r (st.wait.take (min (max c.w 0) st.wait.length).toNat),0):=by unfold NSt.push;rw [if_neg (by rw [hu];simp),if_neg hw]
   rw [e]
   obtain ⟨xs,hxs⟩:∃ xs,xs=st.wait.take (min (max c.w 0) st.wait.length).toNat:=⟨_,rfl⟩
   have hwp:st.wait.length≠0:=fun h=>hw (List.eq_nil_of_length_eq_zero h)
   have hxl:xs.length≤20∧xs≠[]:=by
    refine ⟨by rw [hxs,List.length_take];omega,fun h=>?_⟩
    have:xs.length=0:=by rw [h];rfl
    rw [hxs,List.length_take] at this
    omega
   have hxm:∀ y∈xs,y.May∧y.r=r:=fun y hy=>hw3 y (by rw [hxs] at hy;exact List.mem_of_mem_take hy)
   rw [← hxs]
   refine ((nPush_some gn x.go c r dv x.vl st.sent (ptrV x.gb) (ptrV x.gi) c.q c.w st.sent x.vw st.wait xs (InO x.gi c.h st.clk x.v0::Evs_ x.v0 st.held::DvA dv ds::Evs_ x.vl st.log::LvA x.gb (lvOf st.log)::M) hw rM hxs
    (fun y hy=>by have:=(hxm y hy).1.lens;omega) (push_may ok.r5 hxl.1 hxl.2 hxm)).sub rP).resv ?_
   rintro v L' ⟨u,ou,rfl,rfl⟩
   exact ⟨_,Sub.cons _ (Sub.trans (NodeA.cls_up x hu dok ox M) rP),u,ou,rfl,rfl⟩
theorem state_may {r sent:Int} {l:List Ev} (hr:0≤r∧r<5) (hs:0≤sent∧sent≤1048576) (hl:l.length≤4096) (hm:∀ e∈l,e.May):(⟨4,r,sent,Clk.zero,l⟩:Rcd).May:=by
 refine ⟨by show (1:Int)≤4∧(4:Int)≤6;omega,hr,hs,hl,fun i hi=>?_,fun h=>absurd (.inr rfl) h,fun _=>rfl,fun h=>absurd (.inr (.inr (.inr rfl))) h,hm,fun h=>?_⟩
 ·have:Clk.zero.get i=0:=zero_get i
  show 0≤Clk.zero.get i∧Clk.zero.get i≤1048576
  omega
 ·have:(4:Int)=1:=h
  omega
theorem sent_may {r u:Int} (hr:0≤r∧r<5) (hs:0≤u∧u≤1048576):(⟨3,r,u,Clk.zero,[]⟩:Rcd).May:=by
 refine ⟨by show (1:Int)≤3∧(3:Int)≤6;omega,hr,hs,by simp,fun i hi=>?_,fun h=>absurd (.inl rfl) h,fun _=>rfl,fun _=>rfl,by simp,fun h=>?_⟩
 ·have:Clk.zero.get i=0:=zero_get i
  show 0≤Clk.zero.get i∧Clk.zero.get i≤1048576
  omega
 ·have:(3:Int)=1:=h
  omega
theorem nStateA {k:Nat} (gn:Nat) (c:Cfg) (r:Int) (st:NSt) (M:List Assn) (ok:NOk k c r st) (hk:k≤200):Fn Tryz.prog 45 #[ptrV gn] (NodeA gn c r st::M)
  fun v L'=>v=.int .i64 (st.state r).2∧L'=NodeA gn c r (st.state r).1::M:=by
 refine NodeA.fn (fun hu dv ds vl sent b i o dok=>?_) (fun hu dv ds x dok ox=>?_)
 ·refine (nState_down gn c r dv vl sent b i o (DvA dv ds::M)).resv ?_
  rintro v L' ⟨rfl,rfl⟩
  have e:st.state r=(st,18):=by unfold NSt.state;rw [if_pos hu]
  rw [e]
  exact ⟨_,NodeA.cls_dn hu dok M,rfl,rfl⟩
 ·obtain ⟨hll,hlog⟩:=ok.log hu
  by_cases hl:4096<st.log.length
  ·refine ((nState_long gn c r dv x.vl st.sent (ptrV x.gb) (ptrV x.gi) (ptrV x.go) st.log (InO x.gi c.h st.clk x.v0::Evs_ x.v0 st.held::DvA dv ds::OxO x.go c.q c.w st.sent x.vw::Evs_ x.vw st.wait::LvA x.gb (lvOf st.log)::M) ox.l hl rM).sub rP).resv ?_
   rintro v L' ⟨rfl,rfl⟩
   have e:st.state r=(st,1):=by unfold NSt.state;rw [if_neg (by rw [hu];simp),if_pos hl]
   rw [e]
   exact ⟨_,Sub.trans (NodeA.cls_up x hu dok ox M) rP,rfl,rfl⟩
  ·have hm:=state_may ok.r5 (ok.sent hu) rM hlog
   have hb:=Rcd.bytes_len _ hm
   have hd:=ok.disk hk dok
   obtain ⟨d1,d2⟩:=dok.write hu (ok.up hu).1 ⟨4,r,st.sent,Clk.zero,st.log⟩
   refine ((nState_up gn c r dv x.vl st.sent (ptrV x.gb) (ptrV x.gi) (ptrV x.go) ds st.log (InO x.gi c.h st.clk x.v0::Evs_ x.v0 st.held::OxO x.go c.q c.w st.sent x.vw::Evs_ x.vw st.wait::LvA x.gb (lvOf st.log)::M) ox.l rM
    (fun y hy=>by have:=(hlog y hy).lens;omega) hm (by have h2:(⟨4,r,st.sent,Clk.zero,st.log⟩:Rcd).l.length≤4096:=(by show st.log.length≤4096;omega);omega)).sub rP).resv ?_
   rw [d2]
   rintro v L' ⟨gd,rfl,rfl⟩
   obtain ⟨w1,w2⟩:=st.write_up ⟨4,r,st.sent,Clk.zero,st.log⟩
   rcases st.write_e ⟨4,r,st.sent,Clk.zero,st.log⟩ with h0 | h0
   ·have e:st.state r=((st.write ⟨4,r,st.sent,Clk.zero,st.log⟩).1,0):=by unfold NSt.state;rw [if_neg (by rw [hu];simp),if_neg hl,if_neg (by rw [h0];simp)]
    rw [e,h0]
    have w1:=w1 h0
    rw [w1] at d1 ⊢
    exact ⟨_,Sub.trans (NodeA.cls_upK (st:={ st with recs:=st.recs++[⟨4,r,st.sent,Clk.zero,st.log⟩] }) x hu d1 ox M) rP,rfl,rfl⟩
   ·have e:st.state r=((st.write ⟨4,r,st.sent,Clk.zero,st.log⟩).1,18):=by unfold NSt.state;rw [if_neg (by rw [hu];simp),if_neg hl,if_pos (by rw [h0];simp)]
    rw [e,h0]
    exact ⟨_,Sub.trans (NodeA.cls_dnK (w2 (by rw [h0];simp)) d1 M) rP,rfl,rfl⟩
theorem nPushed_up {k:Nat} (gn:Nat) (c:Cfg) (r upto:Int) (st:NSt) (dv:Value) (ds:DS) (x:NX) (M:List Assn) (ok:NOk k c r st) (hk:k≤200) (hu:st.up=true) (dok:DsOk st ds) (ox:x.One) :
  Fn Tryz.prog 139 #[ptrV gn,.int .i64 upto] (ndUp gn c r st dv ds x M) fun v L'=>v=.int .i64 (st.pushed r upto).2∧L'=NodeA gn c r (st.pushed r upto).1::M:=by
 obtain ⟨s,hs⟩:∃ s,max st.sent (min upto (st.clk.get r.toNat))=s:=⟨_,rfl⟩
 have hr5:=ok.r5
 have hsn:=ok.sent hu
 have hc:=ok.clkB hk hu r.toNat rM
 obtain ⟨hw1,hw2,hw3⟩:=ok.wait hu
 have hcq:=ok.cm.q
 by_cases h:s=st.sent
 ·refine (npushed_same gn x.gi c r upto dv x.vl st.sent (ptrV x.gb) (ptrV x.go) c.h st.clk x.v0 st.held (DvA dv ds::OxO x.go c.q c.w st.sent x.vw::Evs_ x.vw st.wait::Evs_ x.vl st.log::LvA x.gb (lvOf st.log)::M) hr5 (by rw [hs,h])).resv ?_
  rintro v L' ⟨rfl,rfl⟩
  have e:st.pushed r upto=(st,0):=by unfold NSt.pushed;simp only [hs];rw [if_pos h]
  rw [e]
  exact ⟨_,NodeA.cls_up x hu dok ox M,rfl,rfl⟩
 ·have hm:=sent_may (u:=s) hr5 rM
  have hb:=Rcd.bytes_len _ hm
  have hd:=ok.disk hk dok
  have hl0:(⟨3,r,s,Clk.zero,[]⟩:Rcd).l.length=0:=rfl
  obtain ⟨d1,d2⟩:=dok.write hu (ok.up hu).1 ⟨3,r,s,Clk.zero,[]⟩
  obtain ⟨w1,w2⟩:=st.write_up ⟨3,r,s,Clk.zero,[]⟩
  rcases st.write_e ⟨3,r,s,Clk.zero,[]⟩ with h0 | h0
  ·refine (npushed_ok gn x.gi x.go c r upto s dv x.vl st.sent (ptrV x.gb) c.h st.clk x.v0 x.vw st.held st.wait c.q c.w ds (Evs_ x.vl st.log::LvA x.gb (lvOf st.log)::M) hr5 ox.w hs h (by unfold I64;omega) rM rM hm rM (by rw [d2];exact h0)).resv ?_
   rintro v L' ⟨gd,v',rfl,o',rfl⟩
   have w1:=w1 h0
   have e:st.pushed r upto=({ st with recs:=st.recs++[⟨3,r,s,Clk.zero,[]⟩],sent:=sentR st.sent st.wait s,wait:=st.wait.drop (sentR st.sent st.wait s - st.sent).toNat },0):=by
    unfold NSt.pushed;simp only [hs];rw [if_neg h,if_neg (by rw [h0];simp),w1]
   rw [w1] at d1
   rw [e]
   exact ⟨_,Sub.trans (NodeA.cls_upK (st:={ st with recs:=st.recs++[⟨3,r,s,Clk.zero,[]⟩],sent:=sentR st.sent st.wait s,wait:=st.wait.drop (sentR st.sent st.wait s - st.sent).toNat }) ⟨x.gb,x.gi,x.go,x.vl,x.v0,v'⟩ hu (d1.mem rfl rfl rfl rfl rfl) ⟨ox.l,ox.h,o'⟩ M) rP,rfl,rfl⟩
  ·refine (npushed_down gn x.gi x.go c r upto s dv x.vl st.sent (ptrV x.gb) c.h st.clk x.v0 x.vw st.held st.wait c.q c.w st.sent ds (OxO x.go c.q c.w st.sent x.vw::Evs_ x.vw st.wait::Evs_ x.vl st.log::LvA x.gb (lvOf st.log)::M) hr5 hs h hm rM (by rw [d2];exact h0)).resv ?_
   rintro v L' ⟨gd,rfl,rfl⟩
   have e:st.pushed r upto=((st.write ⟨3,r,s,Clk.zero,[]⟩).1,18):=by
    unfold NSt.pushed;simp only [hs];rw [if_neg h,if_pos (by rw [h0];simp)]
   rw [e]
   exact ⟨_,Sub.trans (NodeA.cls_dnK (w2 (by rw [h0];simp)) d1 M) rP,rfl,rfl⟩
end
section
set_option maxRecDepth 20000 attribute [local irreducible] Ex ExL Fn thn inb rnd fin meet Tab Mix mxEnd Val Sats RdT Rd RowT Row Blk Sub Fac ResV RVal Evs subs subs3 Hid Capd
section
attribute [local irreducible] DkA DvA Star LvA
theorem nEvents_up {k:Nat} (gn:Nat) (c:Cfg) (r:Int) (st:NSt) (v1:Value) (l:List Ev) (dv:Value) (ds:DS) (x:NX) (M:List Assn) (ok:NOk k c r st) (hk:k≤198) (hu:st.up=true) (dok:DsOk st ds) (ox:x.One)
  (hr:RdT M v1 l) (o1:v1.oneCell'=true) (hl:l.length≤20) (hm:∀ e∈l,e.May) :
  Fn Tryz.prog 140 #[ptrV gn,v1] (ndUp gn c r st dv ds x M) fun v L'=>v=.int .i64 (st.eventsC c r l).2∧L'=NodeA gn c r (st.eventsC c r l).1::M:=by
 obtain ⟨hll,hlog⟩:=ok.log hu
 obtain ⟨hh1,hh2⟩:=ok.held hu
 have hch:=ok.cm.h
 have hr5:=ok.r5
 have hall:∀ e∈st.held++l,e.May:=fun e he=>by
  rcases List.mem_append.1 he with h | h
  ·exact hh2 e h
  ·exact hm e h
 have hdd:=freshL_dst st.clk (st.held++l) [] List.Pairwise.nil
 have hlen:=drain_len st.clk (freshL st.clk (st.held++l)) hdd
 have hfl:=freshL_len st.clk (st.held++l)
 rw [List.length_append] at hfl
 have hdn:∀ e∈(drain st.clk (freshL st.clk (st.held++l))).1,e.May:=fun e he=>by
  exact hall e (freshL_mem st.clk _ e (drain_mem _ _ hdd e he))
 have hD:=drainL_eq st.clk (st.held++l)
 obtain ⟨D,hDe⟩:∃ D,drain st.clk (freshL st.clk (st.held++l))=D:=⟨_,rfl⟩
 rw [hDe] at hD hlen hdn
 refine Fn.of_ex Tryz.func140 rfl Tryz.ntmps140 rfl ?_
 (refine rn ?_;intros)
 refine st_callIs [] rJ Tryz.call201 rE rJ (inbox_Take x.gi c.h st.clk x.v0 v1 st.held l _ (hr.sub rP) ox.h o1 rM rM (fun e he=>(hall e he).I.1) (ok.cI rM hu)) ?_
 unfold TakeR
 rw [hDe]
 rintro _ _ (⟨h1,rfl,rfl⟩ | ⟨h1,u1,u2,ou1,ou2,rfl,rfl⟩)
 ·have e:st.eventsC c r l=(st,22):=by unfold NSt.eventsC;rw [hD,if_pos h1]
  rw [e]
  (refine rn ?_;intros)
  (refine fr ?_)
  exact ⟨_,Sub.trans (NodeA.cls_up x hu dok ox M) rP,rfl,rfl⟩
 by_cases h2:D.1=[]
 ·have e:st.eventsC c r l=({ st with clk:=D.2.2,held:=D.2.1 },0):=by unfold NSt.eventsC;rw [hD,if_neg h1,if_pos h2]
  rw [e]
  have h3:D.1.length=0:=by rw [h2];rfl
  (refine rn ?_;intros)
  (refine fr ?_)
  exact ⟨_,Sub.trans (NodeA.cls_up (st:={ st with clk:=D.2.2,held:=D.2.1 }) ⟨x.gb,x.gi,x.go,x.vl,u2,x.vw⟩ hu (dok.mem rfl rfl rfl rfl rfl) ⟨ox.l,ou2,ox.w⟩ M) rP,rfl,rfl⟩
 have h3:D.1.length≠0:=fun h=>h2 (List.eq_nil_of_length_eq_zero h)
 have hrm:=rcEv_may (k:=2) (l:=D.1) (.inr (.inl rfl)) hr5 rM hdn
 have hb:=Rcd.bytes_len _ hrm
 have hd:=ok.disk rM dok
 have hl0:(rcEv 2 r D.1).l.length=D.1.length:=rfl
 obtain ⟨d1,d2⟩:=dok.write hu (ok.up hu).1 (rcEv 2 r D.1)
 obtain ⟨w1,w2⟩:=st.write_up (rcEv 2 r D.1)
 obtain ⟨b1,b2,b3⟩:=lvOf_bd st.log
 (refine rn ?_;intros)
 refine st_callIs [4,4] rJ Tryz.call103 rE rJ (nwrite_F gn c r true dv x.vl st.sent (ptrV x.gb) (ptrV x.gi) (ptrV x.go) ds (rcEv 2 r D.1) u1 _ rD ou1 rM (fun y hy=>by have:=(hdn y hy).lens;omega) hrm rM) ?_
 rintro _ _ ⟨gd,rfl,rfl⟩
 rw [d2]
 rcases st.write_e (rcEv 2 r D.1) with h0 | h0
 ·have w1:=w1 h0
  have e:st.eventsC c r l=({ st with recs:=st.recs++[rcEv 2 r D.1],clk:=D.2.2,held:=D.2.1,log:=st.log++D.1 },0):=by
   unfold NSt.eventsC;rw [hD,if_neg h1,if_neg h2,if_neg (by rw [h0];simp),w1]
  rw [e,h0]
  rw [w1] at d1
  have e1:(true && decide ((0:Int)=0))=true:=rfl
  rw [e1]
  (refine rn ?_;intros)
  refine st_callIs [2,8,8] rJ Tryz.call106 rE rJ (ndeliver_F gn c r true (ptrV gd) x.vl st.sent x.gb (ptrV x.gi) (ptrV x.go) u1 st.log D.1 (lvOf st.log) _ rD ou1 ox.l rM (fun y hy=>by have h:=hdn y hy;have:=h.lens;exact ⟨h,by omega,by omega⟩) rM) ?_
  rintro _ _ ⟨vl2,ol2,rfl⟩
  (refine rn ?_;intros)
  (refine fr ?_)
  refine ⟨_,Sub.trans (NodeA.cls_upK (st:={ st with recs:=st.recs++[rcEv 2 r D.1],clk:=D.2.2,held:=D.2.1,log:=st.log++D.1 }) (gd:=gd) (ds:=(ds.write (rcEv 2 r D.1).bytes).1) ⟨x.gb,x.gi,x.go,vl2,u2,x.vw⟩ hu (d1.mem rfl rfl rfl rfl rfl) ⟨ol2,ou2,ox.w⟩ M) ?_,rfl,rfl⟩
  have e4:lvOf (st.log++D.1)=D.1.foldl lvApply (lvOf st.log):=by unfold lvOf;rw [List.foldl_append]
  show Sub (_::_::_::_::_::_::_::LvA x.gb (lvOf (st.log++D.1))::M) _
  rw [e4]
  exact rP
 ·have e:st.eventsC c r l=((st.write (rcEv 2 r D.1)).1,18):=by
   unfold NSt.eventsC;rw [hD,if_neg h1,if_neg h2,if_pos (by rw [h0];simp)]
  rw [e,h0]
  have e1:(true && decide ((18:Int)=0))=false:=rfl
  rw [e1]
  (refine rn ?_;intros)
  (refine fr ?_)
  exact ⟨_,Sub.trans (NodeA.cls_dnK (w2 (by rw [h0];simp)) d1 M) rP,rfl,rfl⟩
end
section
attribute [local irreducible] DkA DvA Star LvA
theorem nTakeA {k:Nat} (gn:Nat) (c:Cfg) (r:Int) (st:NSt) (v0:Value) (b:List UInt8) (M:List Assn) (ok:NOk k c r st) (hk:k≤198) (hr:RdT M v0 b) (o0:v0.oneCell'=true) (hb:b.length≤1000000) :
  Fn Tryz.prog 67 #[ptrV gn,v0] (NodeA gn c r st::M) fun v L'=>v=.int .i64 (st.takeC c r (frTake b)).2∧L'=NodeA gn c r (st.takeC c r (frTake b)).1::M:=by
 have hm:=fun h=>(frTake_may (b:=b) h).1
 obtain ⟨⟨f,fe⟩,hf⟩:∃ f,frTake b=f:=⟨_,rfl⟩
 rw [hf] at hm ⊢
 simp only at hm
 refine NodeA.fn (fun hu dv ds vl sent bb i o dok=>?_) (fun hu dv ds x dok ox=>?_)
 ·have e:st.takeC c r (f,fe)=(st,18):=by unfold NSt.takeC;rw [if_pos hu]
  rw [e]
  refine Fn.of_ex Tryz.func67 rfl Tryz.ntmps67 rfl ?_
  (refine rn ?_;(repeat (first | intro (g:Nat) | intro h)))
  (refine fr ?_)
  exact ⟨_,Sub.trans (NodeA.cls_dn hu dok M) rP,rfl,rfl⟩
 ·refine Fn.of_ex Tryz.func67 rfl Tryz.ntmps67 rfl ?_
  (refine rn ?_;(repeat (first | intro (g:Nat) | intro h)))
  refine st_callIs [] rJ Tryz.call135 rJ rJ (ftake_F v0 b _ (hr.sub rP) o0 rM) ?_
  rw [hf]
  rintro _ _ (⟨hne,⟨y,rfl⟩,rfl⟩ | ⟨he0,u,ou,rfl,rfl⟩)
  ·have e:st.takeC c r (f,fe)=(st,fe):=by unfold NSt.takeC;rw [if_neg (by rw [hu];simp),if_pos hne]
   rw [e]
   simp only at hne ⊢
   (refine rn ?_;(repeat (first | intro (g:Nat) | intro h)))
   (refine fr ?_)
   exact ⟨_,Sub.trans (NodeA.cls_up x hu dok ox M) rP,rfl,rfl⟩
  ·simp only at he0 ⊢
   subst he0
   have hm:=hm rfl
   by_cases hR:f.r=r
   case neg =>
    have e:st.takeC c r (f,0)=(st,23):=by unfold NSt.takeC;rw [if_neg (by rw [hu];simp),if_neg (by simp),if_pos hR]
    rw [e]
    (refine rn ?_;(repeat (first | intro (g:Nat) | intro h)))
    (refine mu7 ?_;(repeat (first | intro (g:Nat) | intro h)))
    (refine rn ?_;(repeat (first | intro (g:Nat) | intro h)))
    (refine fr ?_)
    exact ⟨_,Sub.trans (NodeA.cls_up x hu dok ox M) rP,rfl,rfl⟩
   case pos =>
    (refine rn ?_;(repeat (first | intro (g:Nat) | intro h)))
    (refine mu7 ?_;(repeat (first | intro (g:Nat) | intro h)))
    (refine rn ?_;(repeat (first | intro (g:Nat) | intro h)))
    revert g
    intro g5
    refine Ex.loop [32] (fun z vs L'=>∃ (j:Nat),j≤f.l.length∧(∀ i (hi:i<f.l.length),i<j→¬ ((f.l[i]'hi).r=r∨c.n≤(f.l[i]'hi).r))∧z=f.l.length - j∧vs=[.int .i64 j]∧L'=Blk g5 192 (rcC f u)::Evs_ u f.l::ndUp gn c r st dv ds x M) f.l.length ⟨0,by omega,fun i hi h=>by omega,rfl,rfl,rfl⟩ ?_
    rintro z vs g1 L1 ⟨j,hj,hok,rfl,rfl,rfl⟩
    have hm20:=hm.m
    refine Ex.keep [0,5,30,31,32] rG (fun gk=>?_)
    by_cases hlt:j<f.l.length
    ·by_cases hbad:(f.l[j]'hlt).r=r∨c.n≤(f.l[j]'hlt).r
     ·have e:st.takeC c r (f,0)=(st,23):=by
       unfold NSt.takeC
       rw [if_neg (by rw [hu];simp),if_neg (by simp),if_neg (by simp [hR]),if_pos (List.any_eq_true.2 ⟨_,List.getElem_mem hlt,by simpa using hbad⟩)]
      rw [e]
      clear hok
      rcases Classical.em ((f.l[j]'hlt).r=r) with h1 | h1
      ·(refine rn ?_;intros)
       (refine mu17 ?_;intros)
       (refine rn ?_;intros)
       (refine fr ?_)
       exact ⟨_,Sub.trans (NodeA.cls_up x hu dok ox M) rP,rfl,rfl⟩
      ·have h2:c.n≤(f.l[j]'hlt).r:=hbad.resolve_left h1
       clear hbad
       (refine rn ?_;intros)
       (refine mu17 ?_;intros)
       (refine rn ?_;intros)
       (refine fr ?_)
       exact ⟨_,Sub.trans (NodeA.cls_up x hu dok ox M) rP,rfl,rfl⟩
     ·have h1:¬ (f.l[j]'hlt).r=r:=fun h=>hbad (.inl h)
      have h2:¬ c.n≤(f.l[j]'hlt).r:=fun h=>hbad (.inr h)
      have hok2:∀ i (hi:i<f.l.length),i<j+1→¬ ((f.l[i]'hi).r=r∨c.n≤(f.l[i]'hi).r):=fun i hi h=>by
       by_cases hij:i=j
       ·subst hij;exact hbad
       ·exact hok i hi rM
      replace hok2:=Lib.hid hok2
      clear hok hbad
      (refine rn ?_;intros)
      (refine mu17 ?_;intros)
      (refine rn ?_;intros)
      refine rnd_n ⟨f.l.length - (j+1),Blk g5 192 (rcC f u)::Evs_ u f.l::ndUp gn c r st dv ds x M,by omega,rP,j+1,by omega,hok2.out,rfl,lcons (vint rM) rfl,rfl⟩
    ·obtain rfl:j=f.l.length:=by omega
     have hany:(f.l.any fun e=>decide (e.r=r∨c.n≤e.r))=false:=by
      rw [List.any_eq_false]
      intro y hy
      obtain ⟨i,hi,rfl⟩:=List.getElem_of_mem hy
      simpa using hok i hi hi
     have hk:st.takeC c r (f,0)=if f.kind=2 then st.pushed r f.upto else if f.kind=4 then st.eventsC c r f.l else (st,23):=by
      unfold NSt.takeC
      rw [if_neg (by rw [hu];simp),if_neg (by simp),if_neg (by simp [hR]),if_neg (by rw [hany];simp)]
     rw [hk]
     clear hok hk
     by_cases k2:f.kind=2
     ·rw [if_pos k2]
      (refine rn ?_;intros)
      refine ExL.sub (L':=ndUp gn c r st dv ds x M) ?_ rP
      refine st_callIs [] rJ Tryz.call139 rE rJ (nPushed_up (k:=k) gn c r f.upto st dv ds x M ok rM hu dok ox) ?_
      rintro _ _ ⟨rfl,rfl⟩
      exact re0
     ·rw [if_neg k2]
      by_cases k4:f.kind=4
      ·rw [if_pos k4]
       (refine rn ?_;intros)
       refine ExL.sub (L':=ndUp gn c r st dv ds x (Evs_ u f.l::M)) ?_ rP
       refine st_callIs [] rJ Tryz.call140 rE rJ (nEvents_up (k:=k) gn c r st u f.l dv ds x (Evs_ u f.l::M) ok hk hu dok ox (RdT.row 0 rfl) ou hm.m hm.l) ?_
       rintro _ _ ⟨rfl,rfl⟩
       (refine rn ?_;intros)
       (refine fr ?_)
       exact ⟨_,Sub.cons _ (Sub.drop _ (Sub.refl _)),rfl,rfl⟩
      ·rw [if_neg k4]
       (refine rn ?_;intros)
       (refine fr ?_)
       exact ⟨_,Sub.trans (NodeA.cls_up x hu dok ox M) rP,rfl,rfl⟩
end
end
end Go.Proofs.YtogcfijlhpaeeaaGreat
