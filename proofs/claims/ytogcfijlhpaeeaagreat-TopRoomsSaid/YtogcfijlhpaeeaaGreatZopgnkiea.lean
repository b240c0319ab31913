/- Texts, one behind the other. No condition. -/
import Derived.Test.YtogcfijlhpaeeaaGreatZdjfmoged
import Derived.Test.YtogcfijlhpaeeaaGreatZdjglmago
import Derived.Test.YtogcfijlhpaeeaaGreatZehjcikgl
import Derived.Test.YtogcfijlhpaeeaaGreatZiegkalfj
open Go.RowKit
set_option linter.unusedSimpArgs false
set_option linter.unusedVariables false
set_option linter.unusedSectionVars false
set_option maxHeartbeats 32000000
namespace Go.Proofs.YtogcfijlhpaeeaaGreat
section
set_option maxRecDepth 20000 attribute [local irreducible] Ex ExL Fn thn inb rnd fin meet Tab Mix mxEnd Val Sats RdT Rd RowT Row Blk Sub Fac ResV RVal Evs subs subs3 Hid Capd
section
attribute [local irreducible] DkA DvA Star LvA
theorem nEdit_up {k:Nat} (gn:Nat) (c:Cfg) (r:Int) (st:NSt) (e:Ed) (dv:Value) (ds:DS) (x:NX) (M:List Assn) (ok:NOk k c r st) (hk:k≤200) (hkl:e.key.length≤1000) (hvl:e.value.length≤1000) (hu:st.up=true) (dok:DsOk st ds) (ox:x.One) :
  Fn Tryz.prog 40 #[ptrV gn,.agg (Rep.cells e).toArray] (ndUp gn c r st dv ds x M)
   fun v L'=>∃ y:Ev,v=.tuple #[.agg (Rep.cells y).toArray,.int .i64 (st.edit c r e).2]∧L'=NodeA gn c r (st.edit c r e).1::M:=by
 obtain ⟨hll,hlog⟩:=ok.log hu
 obtain ⟨b1,b2,b3⟩:=lvOf_bd st.log
 obtain ⟨q1,q2⟩:=lvList_bd (lvOf st.log)
 have hq1:(lvList (lvOf st.log)).length≤10000 * 10000:=Nat.le_trans q1 (Nat.mul_le_mul rM rM)
 clear q1
 have hr5:=ok.r5
 have hclk:=ok.clk hu r.toNat rM
 obtain ⟨hw1,hw2,hw3⟩:=ok.wait hu
 have hcq:=ok.cm.q
 have hkeys:∀ p∈lvOf st.log,p.1.length≤1000:=fun p hp=>by
  obtain ⟨y,hy,he⟩:=b3 p hp
  have:=(hlog y hy).lens.1
  rw [he] at this
  omega
 have hrs:=ok.rsent
 rw [(ok.up hu).2] at hrs
 have hrs:0≤st.sent∧st.sent≤1048576:=hrs
 obtain ⟨hh1,hh2,hh3⟩:=height_may hlog st.clk
 refine Fn.of_ex Tryz.func40 rfl Tryz.ntmps40 rfl ?_
 (refine rn ?_;(repeat (first | intro (g:Nat) | intro (v:Value) | intro (o:O1 _) | intro (cs:List Value) | intro (hcs:_=List.set _ _ _) | intro (zs:List _) | intro h)))
 refine Ex.reord [9] rE ?_
 (refine mu11 ?_;(repeat (first | intro (g:Nat) | intro (v:Value) | intro (o:O1 _) | intro (cs:List Value) | intro (hcs:_=List.set _ _ _) | intro (zs:List _) | intro h)))
 (refine mx_act rJ rJ rJ ?_;refine st_callIs [] rJ Tryz.call98 rE rJ (llist_F x.gb (lvOf st.log) _ rM rM hkeys) ?_)
 rintro r1 _ ⟨cs,hcs,o1,rfl⟩
 have hcl:cs.length≤100000000:=by rw [← List.length_map (f:=Ct.con),hcs];exact hq1
 have hsl:∀ ct∈cs,ct.s0.length≤9000000000000000000∧ct.s1.length≤9000000000000000000:=fun ct hct=>by
  have hm:ct.con∈lvList (lvOf st.log):=by rw [← hcs];exact List.mem_map_of_mem hct
  have h:=q2 _ hm
  have h0:ct.con.s0.length=ct.s0.length:=List.length_map ..
  have h1:ct.con.s1.length=ct.s1.length:=List.length_map ..
  omega
 have hchk:chk c.l c.p cs e=chkC c.l c.p (lvList (lvOf st.log)) e:=by rw [← hcs,chkC_con]
 (refine ExL.nil ?_;refine mxEnd_n rF ?_;(refine mn ?_;(repeat (first | intro (g:Nat) | intro (v:Value) | intro (o:O1 _) | intro (cs:List Value) | intro (hcs:_=List.set _ _ _) | intro (zs:List _) | intro h))))
 (repeat' (first | (refine m1 ?_;(repeat (first | intro (g:Nat) | intro (v:Value) | intro (o:O1 _) | intro (cs:List Value) | intro (hcs:_=List.set _ _ _) | intro (zs:List _) | intro h))) | (refine mx_gsplit rJ rJ rJ (fun h=>?_) (fun h=>?_) <;> try (exfalso;omega))))
 (refine mx_act rJ rJ rJ ?_;refine st_callIs [] rJ Tryz.call97 rE rJ (check_F c r1 cs e _ rD (fun ct hct=>(Ct.rd_star hct _).sub (Sub.drop _ (Sub.refl _))) rM rM rM hsl) ?_)
 rintro _ _ ⟨rfl,rfl⟩
 rw [hchk]
 (refine ExL.nil ?_;refine mxEnd_n rF ?_;(refine mn ?_;(repeat (first | intro (g:Nat) | intro (v:Value) | intro (o:O1 _) | intro (cs:List Value) | intro (hcs:_=List.set _ _ _) | intro (zs:List _) | intro h))))
 (repeat' (first | (refine m1 ?_;(repeat (first | intro (g:Nat) | intro (v:Value) | intro (o:O1 _) | intro (cs:List Value) | intro (hcs:_=List.set _ _ _) | intro (zs:List _) | intro h))) | (refine mx_gsplit rJ rJ rJ (fun h=>?_) (fun h=>?_) <;> try (exfalso;omega))))
 obtain ⟨q,hq⟩:∃ q,q=chkC c.l c.p (lvList (lvOf st.log)) e:=⟨_,rfl⟩
 rw [← hq]
 by_cases hq0:q=0
 case neg =>
  have e1:st.edit c r e=(st,q):=by
   have:st.editE c r e=q:=by unfold NSt.editE;rw [if_neg (by rw [hu];simp),← hq,if_pos hq0]
   unfold NSt.edit;rw [this,if_pos hq0]
  rw [e1]
  (refine rn ?_;(repeat (first | intro (g:Nat) | intro (v:Value) | intro (o:O1 _) | intro (cs:List Value) | intro (hcs:_=List.set _ _ _) | intro (zs:List _) | intro h)))
  (refine fr ?_)
  exact ⟨_,Sub.trans (NodeA.cls_up x hu dok ox M) rP,Ev.zero,rfl,rfl⟩
 subst hq0
 rename_i g26
 revert g
 intro g80
 refine ExL.sub (L':=Blk g80 80 (Rep.cells Ev.zero)::Blk g26 26 (Rep.cells e)::ndUp gn c r st dv ds x M) ?_ rP
 clear hcs hcl hsl hchk o1
 by_cases hqw:c.q≤st.wait.length
 case pos =>
  have e1:st.edit c r e=(st,17):=by
   have:st.editE c r e=17:=by unfold NSt.editE;rw [if_neg (by rw [hu];simp),← hq,if_neg (by simp),if_pos hqw]
   unfold NSt.edit;rw [this,if_pos (by simp)]
  rw [e1]
  (refine rn ?_;(repeat (first | intro (g:Nat) | intro h)))
  refine st_callIs [7,7] rJ Tryz.call99 rE rJ (outbox_Room x.go c.q c.w st.sent x.vw st.wait _) ?_
  rintro _ _ ⟨rfl,rfl⟩
  (refine rn ?_;(repeat (first | intro (g:Nat) | intro h)))
  (refine fr ?_)
  exact ⟨_,Sub.trans (NodeA.cls_up x hu dok ox M) rP,Ev.zero,rfl,rfl⟩
 (refine rn ?_;(repeat (first | intro (g:Nat) | intro h)))
 refine st_callIs [7,7] rJ Tryz.call99 rE rJ (outbox_Room x.go c.q c.w st.sent x.vw st.wait _) ?_
 rintro _ _ ⟨rfl,rfl⟩
 (refine rn ?_;(repeat (first | intro (g:Nat) | intro h)))
 refine st_callIs [5,5] rJ Tryz.call100 rE rJ (inbox_Clock x.gi c.h st.clk x.v0 st.held _) ?_
 rintro _ _ ⟨rfl,rfl⟩
 (refine rn ?_;(repeat (first | intro (g:Nat) | intro h)))
 revert g
 intro g7
 refine Ex.reord [7] rE ?_
 (refine mu11 ?_;(repeat (first | intro (g:Nat) | intro h)))
 (refine mx_act rJ rJ rJ ?_;refine st_callIs [] rJ Tryz.call101 rE rJ (cnext_F st.clk r _ hr5 rM rM) ?_)
 rintro _ _ ⟨rfl,rfl⟩
 obtain ⟨c2,hc2⟩:∃ c2,c2=st.clk.set r.toNat (st.clk.get r.toNat+1):=⟨_,rfl⟩
 have hnext:st.clk.next r=(c2,0):=by unfold Clk.next;rw [if_neg rM,if_neg rM,hc2]
 rw [hnext]
 (refine ExL.nil ?_;refine mxEnd_n rF ?_;(refine mn ?_;(repeat (first | intro (g:Nat) | intro h))))
 (refine mx_act rJ rJ rJ ?_;(first | refine st_store1_ 0 rJ rJ rE rN rJ rJ rE rE ?_ | refine st_storeW_ 0 rJ rJ rJ rC rJ rJ rJ rE ?_ | refine st_storeR 0 rJ rJ rJ rE rJ rJ rE ?_);refine ExL.nil ?_;refine mxEnd_n rF ?_;(refine mn ?_;(repeat (first | intro (g:Nat) | intro h))))
 (refine rn ?_;(repeat (first | intro (g:Nat) | intro h)))
 revert g
 intro g8
 refine Ex.sub (L':=NdB gn c r true dv x.vl st.sent (ptrV x.gb) (ptrV x.gi) (ptrV x.go)::Blk g8 50 (Rep.cells c2)::Blk g7 50 (Rep.cells st.clk)::Blk g26 26 (Rep.cells e)::Evs_ x.vl st.log::DvA dv ds::LvA x.gb (lvOf st.log)::Blk g80 80 (Rep.cells Ev.zero)::InO x.gi c.h st.clk x.v0::Evs_ x.v0 st.held::OxO x.go c.q c.w st.sent x.vw::Evs_ x.vw st.wait::M) ?_ rP
 (refine mu6 ?_;(repeat (first | intro (g:Nat) | intro h)))
 (refine mx_act rJ rJ rJ ?_;refine st_callIs [] rJ Tryz.call102 rE rJ (pheight_F x.vl st.log st.clk _ rD rM (fun y hy=>(hlog y hy).I.2)) ?_)
 rintro _ _ ⟨rfl,rfl⟩
 rw [hh3]
 (refine ExL.nil ?_;refine mxEnd_n rF ?_;(refine mn ?_;(repeat (first | intro (g:Nat) | intro h))))
 by_cases hh:16777216<heightP st.log st.clk
 ·have e1:st.edit c r e=(st,25):=by
   have:st.editE c r e=25:=by unfold NSt.editE;rw [if_neg (by rw [hu];simp),← hq,if_neg (by simp),if_neg hqw,if_pos (.inr hh)]
   unfold NSt.edit;rw [this,if_pos (by simp)]
  rw [e1]
  (refine rn ?_;(repeat (first | intro (g:Nat) | intro h)))
  (refine fr ?_)
  exact ⟨_,Sub.trans (NodeA.cls_up x hu dok ox M) rP,Ev.zero,rfl,rfl⟩
 (refine rn ?_;(repeat (first | intro (g:Nat) | intro h)))
 (refine mu22 ?_;(repeat (first | intro (g:Nat) | intro h)))
 (refine rn ?_;(repeat (first | intro (g:Nat) | intro h)))
 revert g
 intro g11
 obtain ⟨ev,hev⟩:∃ ev,ev=st.mk1 r e:=⟨_,rfl⟩
 have hget:[c2.a,c2.b,c2.c,c2.d,c2.e].getD r.toNat 0=st.clk.get r.toNat+1:=by
  rw [c2.getD_eq,hc2,Clk.get_set _ _ _ _ rM,if_pos rfl]
 have hevc:Rep.cells ev=[.int .i64 r,.int .i64 ([c2.a,c2.b,c2.c,c2.d,c2.e].getD r.toNat 0),.int .i64 st.clk.a,.int .i64 st.clk.b,.int .i64 st.clk.c,.int .i64 st.clk.d,.int .i64 st.clk.e,.int .i64 (heightP st.log st.clk),.int .i64 e.kind,.string (S e.key),.int .i64 e.label,.string (S e.value)]:=by rw [hget,hev];rfl
 refine Ex.sub (L':=NdB gn c r true dv x.vl st.sent (ptrV x.gb) (ptrV x.gi) (ptrV x.go)::Blk g11 80 (Rep.cells ev)::DvA dv ds::Evs_ x.vl st.log::LvA x.gb (lvOf st.log)::InO x.gi c.h st.clk x.v0::Evs_ x.v0 st.held::OxO x.go c.q c.w st.sent x.vw::Evs_ x.vw st.wait::Blk g80 80 (Rep.cells Ev.zero)::M) ?_ (by rw [hevc];exact rP)
 clear hevc hget hnext
 have hem:ev.May:=by
  rw [hev]
  exact NSt.mk1_may ok hk hu (by have h:=chkC_err hq.symm;exact h) rM rM
 have hrm:=rcEv_may (k:=1) (r:=r) (l:=[ev]) (.inl ⟨rfl,rfl⟩) hr5 (by simp) (fun y hy=>by rw [List.mem_singleton.1 hy];exact hem)
 have hb:=Rcd.bytes_len _ hrm
 have hd:=ok.disk hk dok
 have hl0:(rcEv 1 r [ev]).l.length=1:=rfl
 obtain ⟨d1,d2⟩:=dok.write hu (ok.up hu).1 (rcEv 1 r [ev])
 obtain ⟨w1,w2⟩:=st.write_up (rcEv 1 r [ev])
 refine Ex.mixA 9 [NdO gn c r x.vl st.sent (ptrV x.gb) (ptrV x.gi) (ptrV x.go),Blk g11 80 (Rep.cells ev)] rfl rQ (NdO.fac (Sub.cons _ (Sub.nilL _))) ?_
 (refine mn ?_;(repeat (first | intro (g:Nat) | intro h)))
 refine mx_val rJ rJ rJ (NdO.val fun up d=>rV) ?_
 (refine mn ?_;(repeat (first | intro (g:Nat) | intro h)))
 (refine mx_act rJ rJ rJ ?_;refine st_callIs [2,3] rJ Tryz.call103 rE rJ (nwrite_F gn c r true dv x.vl st.sent (ptrV x.gb) (ptrV x.gi) (ptrV x.go) ds (rcEv 1 r [ev]) _ _ rD rfl rM (fun y hy=>by rw [List.mem_singleton.1 hy];have:=hem.lens;omega) hrm rM) ?_)
 rintro _ _ ⟨gd,rfl,rfl⟩
 rw [d2]
 refine ExL.nil ?_
 refine mxEnd_n (NdO.fac (Sub.pick 2 rfl (Sub.nilL _))) ?_
 have hed:st.editE c r e=0:=by unfold NSt.editE;rw [if_neg (by rw [hu];simp),← hq,if_neg (by simp),if_neg hqw,if_neg rM]
 rcases st.write_e (rcEv 1 r [ev]) with h0 | h0
 case inr =>
  have e1:st.edit c r e=((st.write (rcEv 1 r [ev])).1,18):=by unfold NSt.edit;rw [if_neg (by rw [hed];simp),← hev,if_pos (by rw [h0];simp)]
  rw [e1,h0]
  have e2:(true && decide ((18:Int)=0))=false:=rfl
  rw [e2]
  (refine mn ?_;(repeat (first | intro (g:Nat) | intro h)))
  refine ExL.sub (L':=Blk g80 80 (Rep.cells Ev.zero)::NdB gn c r false (ptrV gd) x.vl st.sent (ptrV x.gb) (ptrV x.gi) (ptrV x.go)::DkA gd (ds.write (rcEv 1 r [ev]).bytes).1::M) ?_ rP
  (refine rn ?_;(repeat (first | intro (g:Nat) | intro h)))
  (refine fr ?_)
  exact ⟨_,Sub.trans (NodeA.cls_dnK (w2 (by rw [h0];simp)) d1 M) rP,Ev.zero,rfl,rfl⟩
 have w1:=w1 h0
 have e1:st.edit c r e=({ st with recs:=st.recs++[rcEv 1 r [ev]],log:=st.log++[ev],clk:=st.clk.set r.toNat (st.clk.get r.toNat+1),wait:=(addR c.q st.sent st.wait ev).2 },0):=by
  unfold NSt.edit;rw [if_neg (by rw [hed];simp),← hev,if_neg (by rw [h0];simp),w1]
 rw [e1,h0]
 rw [w1] at d1
 clear e1
 have e2:(true && decide ((0:Int)=0))=true:=rfl
 rw [e2]
 (refine mn ?_;(repeat (first | intro (g:Nat) | intro h)))
 (refine rn ?_;(repeat (first | intro (g:Nat) | intro h)))
 refine Ex.sub (L':=InO x.gi c.h st.clk x.v0::Evs_ x.v0 st.held::NdB gn c r true (ptrV gd) x.vl st.sent (ptrV x.gb) (ptrV x.gi) (ptrV x.go)::Blk g11 80 (Rep.cells ev)::OxO x.go c.q c.w st.sent x.vw::Evs_ x.vw st.wait::Evs_ x.vl st.log::LvA x.gb (lvOf st.log)::DkA gd (ds.write (rcEv 1 r [ev]).bytes).1::Blk g80 80 (Rep.cells Ev.zero)::M) ?_ rP
 (refine Ex.mixA 6 (_::_::_::_::_::_::_::_::M) rfl rQ rF ?_;(refine mn ?_;(repeat (first | intro (g:Nat) | intro h))))
 (refine mx_act rJ rJ rJ ?_;refine st_callIs [] rJ Tryz.call104 rE rJ (inbox_Own x.gi c.h st.clk x.v0 st.held ev _ hem.I.1 (ok.cI hk hu)) ?_)
 have hrdy:ev.rdy st.clk:=by
  rw [hev]
  exact ⟨hr5.1,hr5.2,by show 1≤st.clk.get r.toNat+1;omega,by show st.clk.get r.toNat+1 - 1=st.clk.get r.toNat;omega,le_refl_clk _⟩
 rintro _ _ (⟨hno,_,_⟩ | ⟨_,rfl,rfl⟩)
 ·exact absurd hrdy hno
 (refine ExL.nil ?_;refine mxEnd_n rF ?_;(refine mn ?_;(repeat (first | intro (g:Nat) | intro h))))
 (refine rn ?_;(repeat (first | intro (g:Nat) | intro h)))
 refine Ex.sub (L':=OxO x.go c.q c.w st.sent x.vw::Evs_ x.vw st.wait::NdB gn c r true (ptrV gd) x.vl st.sent (ptrV x.gb) (ptrV x.gi) (ptrV x.go)::Blk g11 80 (Rep.cells ev)::InO x.gi c.h (st.clk.set ev.r.toNat ev.n) x.v0::Evs_ x.v0 st.held::Evs_ x.vl st.log::LvA x.gb (lvOf st.log)::DkA gd (ds.write (rcEv 1 r [ev]).bytes).1::Blk g80 80 (Rep.cells Ev.zero)::M) ?_ rP
 (refine Ex.mixA 6 (_::_::_::_::_::_::_::_::M) rfl rQ rF ?_;(refine mn ?_;(repeat (first | intro (g:Nat) | intro h))))
 (refine mx_act rJ rJ rJ ?_;refine st_callIs [] rJ Tryz.call105 rE rJ (outbox_Add x.go c.q c.w st.sent x.vw st.wait ev _ hw1 rM rM ox.w) ?_)
 rintro _ _ ⟨rfl,vw2,ow2,rfl⟩
 (refine ExL.nil ?_;refine mxEnd_n rF ?_;(refine mn ?_;(repeat (first | intro (g:Nat) | intro h))))
 (refine rn ?_;(repeat (first | intro (g:Nat) | intro h)))
 revert g
 intro g19
 refine ExL.sub (L':=NdB gn c r true (ptrV gd) x.vl st.sent (ptrV x.gb) (ptrV x.gi) (ptrV x.go)::Evs_ x.vl st.log::LvA x.gb (lvOf st.log)::RowT (.slice (some ⟨g19,0,none⟩) 1 1) 80 [ev]::Blk g11 80 (Rep.cells ev)::Blk g80 80 (Rep.cells Ev.zero)::OxO x.go c.q c.w st.sent vw2::Evs_ vw2 (addR c.q st.sent st.wait ev).2::InO x.gi c.h (st.clk.set ev.r.toNat ev.n) x.v0::Evs_ x.v0 st.held::DkA gd (ds.write (rcEv 1 r [ev]).bytes).1::M) ?_ rP
 refine st_callIs [] rJ Tryz.call106 rE rJ (ndeliver_F gn c r true (ptrV gd) x.vl st.sent x.gb (ptrV x.gi) (ptrV x.go) _ st.log [ev] (lvOf st.log) _ rD rfl ox.l (by simp;omega) (fun y hy=>by rw [List.mem_singleton.1 hy];have:=hem.lens;exact ⟨hem,by omega,by omega⟩) (by simp;omega)) ?_
 rintro _ _ ⟨vl2,ol2,rfl⟩
 (refine rn ?_;intros)
 (refine fr ?_)
 refine ⟨_,Sub.trans (NodeA.cls_upK (st:={ st with recs:=st.recs++[rcEv 1 r [ev]],log:=st.log++[ev],clk:=st.clk.set r.toNat (st.clk.get r.toNat+1),wait:=(addR c.q st.sent st.wait ev).2 }) (gd:=gd) (ds:=(ds.write (rcEv 1 r [ev]).bytes).1) ⟨x.gb,x.gi,x.go,vl2,x.v0,vw2⟩ hu (d1.mem rfl rfl rfl rfl rfl) ⟨ol2,ox.h,ow2⟩ M) ?_,ev,rfl,rfl⟩
 have e3:st.clk.set ev.r.toNat ev.n=st.clk.set r.toNat (st.clk.get r.toNat+1):=by rw [hev];rfl
 have e4:lvOf (st.log++[ev])=[ev].foldl lvApply (lvOf st.log):=by unfold lvOf;rw [List.foldl_append]
 rw [e3]
 show Sub (_::_::_::_::_::_::_::LvA x.gb (lvOf (st.log++[ev]))::M) _
 rw [e4]
 exact rP
end
section
theorem outOf_snoc (q r sent:Int) (log:List Ev) (e:Ev):outOf q r sent (log++[e])=outStep q r sent (outOf q r sent log) e:=by unfold outOf;rw [List.foldl_append];rfl
theorem clkOfLog_snoc (log:List Ev) (e:Ev):clkOfLog (log++[e])=clkStep (clkOfLog log) e:=by unfold clkOfLog;rw [List.foldl_append];rfl
theorem outOf_wait (q r sent:Int) (log:List Ev):Wait sent (outOf q r sent log)∧(outOf q r sent log).length≤log.length:=by
 have key:∀ (l w:List Ev),Wait sent w→Wait sent (l.foldl (outStep q r sent) w)∧(l.foldl (outStep q r sent) w).length≤w.length+l.length:=by
  intro l
  induction l with
  | nil=>exact fun w h=>⟨h,Nat.le_refl _⟩
  | cons e l ih =>
   intro w h
   have h1:Wait sent (outStep q r sent w e)∧(outStep q r sent w e).length≤w.length+1:=by
    unfold outStep
    split
    ·exact ⟨addR_wait h,addR_len⟩
    ·exact ⟨h,by omega⟩
   obtain ⟨i1,i2⟩:=ih _ h1.1
   exact ⟨i1,by rw [List.foldl_cons,List.length_cons];omega⟩
 have:=key log [] (Wait.nil sent)
 exact ⟨this.1,by have:=this.2;simpa [outOf] using this⟩
theorem clkOfLog_bd (log:List Ev) (h:∀ e∈log,0≤e.r∧e.r<5):∀ i,i<5→0≤(clkOfLog log).get i∧(clkOfLog log).get i≤log.length:=by
 have key:∀ (l:List Ev) (c:Clk) (m:Int),(∀ e∈l,0≤e.r∧e.r<5)→(∀ i,i<5→0≤c.get i∧c.get i≤m)→∀ i,i<5→0≤(l.foldl clkStep c).get i∧(l.foldl clkStep c).get i≤m+l.length:=by
  intro l
  induction l with
  | nil=>intro c m _ h i hi;simpa using h i hi
  | cons e l ih =>
   intro c m hr h i hi
   have he:=hr e (List.mem_cons_self ..)
   have:=ih (clkStep c e) (m+1) (fun x hx=>hr x (List.mem_cons_of_mem _ hx)) (fun j hj=>by
    have h1:=h j hj
    have h2:=h e.r.toNat rM
    unfold clkStep
    rw [Clk.get_set _ _ _ _ rM]
    split <;> omega) i hi
   rw [List.foldl_cons,List.length_cons]
   omega
 intro i hi
 have:=key log Clk.zero 0 h (fun j hj=>by
  match j,hj with
  | 0,_=>exact ⟨Int.le_refl _,Int.le_refl _⟩
  | 1,_=>exact ⟨Int.le_refl _,Int.le_refl _⟩
  | 2,_=>exact ⟨Int.le_refl _,Int.le_refl _⟩
  | 3,_=>exact ⟨Int.le_refl _,Int.le_refl _⟩
  | 4,_=>exact ⟨Int.le_refl _,Int.le_refl _⟩) i hi
 unfold clkOfLog
 omega
theorem clk_set_cells (c:Clk) (i:Nat) (v:Int) (h:i<5):(Rep.cells c).set i (.int .i64 v)=Rep.cells (c.set i v):=by
 match i,h with
 | 0,_=>rfl
 | 1,_=>rfl
 | 2,_=>rfl
 | 3,_=>rfl
 | 4,_=>rfl
attribute [local irreducible] DkA DvA Star LvA
theorem nbuild_F (gn:Nat) (c:Cfg) (r:Int) (up:Bool) (dv vl:Value) (sent:Int) (b i0 o:Value) (log:List Ev) (M:List Assn) (ol:vl.oneCell'=true) (hll:log.length≤10000) (hm:∀ e∈log,e.May) (hs:0≤sent∧sent≤1048576) :
  Fn Tryz.prog 128 #[ptrV gn] (NdB gn c r up dv vl sent b i0 o::Evs_ vl log::M)
   fun v L'=>∃ gb gi go vw,vw.oneCell'=true∧L'=NdB gn c r up dv vl sent (ptrV gb) (ptrV gi) (ptrV go)::InO gi c.h (clkOfLog log) (.slice none 0 0)::Evs_ (.slice none 0 0) []::OxO go c.q c.w sent vw::Evs_ vw (outOf c.q r sent log)::Evs_ vl log::LvA gb (lvOf log)::M:=by
 refine Fn.of_ex Tryz.func128 rfl Tryz.ntmps128 rfl ?_
 (refine rn ?_;(repeat (first | intro (g:Nat) | intro (cs:List Value) | intro (hcs:_=List.set _ _ _) | intro h)))
 refine st_callIs [] rJ Tryz.call186 rJ rJ (live_New _) ?_
 rintro _ _ ⟨gb,rfl,rfl⟩
 (refine rn ?_;(repeat (first | intro (g:Nat) | intro (cs:List Value) | intro (hcs:_=List.set _ _ _) | intro h)))
 (refine mu16 ?_;(repeat (first | intro (g:Nat) | intro (cs:List Value) | intro (hcs:_=List.set _ _ _) | intro h)))
 (refine mx_act rJ rJ rJ ?_;refine st_callIs [] rJ Tryz.call187 rE rJ (outbox_New c.q c.w sent _) ?_)
 rintro _ _ ⟨go,rfl,rfl⟩
 (refine ExL.nil ?_;refine mxEnd_n rF ?_;(refine mn ?_;(repeat (first | intro (g:Nat) | intro (cs:List Value) | intro (hcs:_=List.set _ _ _) | intro h))))
 (refine rn ?_;(repeat (first | intro (g:Nat) | intro (cs:List Value) | intro (hcs:_=List.set _ _ _) | intro h)))
 revert g
 intro g2
 refine Ex.sub (L':=NdB gn c r up dv vl sent (ptrV gb) i0 (ptrV go)::Blk g2 50 (Rep.cells Clk.zero)::LvA gb []::OxO go c.q c.w sent (.slice none 0 0)::Evs_ (.slice none 0 0) []::Evs_ vl log::M) ?_ rP
 refine Ex.loop [32] (fun z vs L'=>∃ (j:Nat) (vw:Value),j≤log.length∧vw.oneCell'=true∧z=log.length - j∧vs=[.int .i64 j]∧L'=NdB gn c r up dv vl sent (ptrV gb) i0 (ptrV go)::Blk g2 50 (Rep.cells (clkOfLog (log.take j)))::LvA gb (lvOf (log.take j))::OxO go c.q c.w sent vw::Evs_ vw (outOf c.q r sent (log.take j))::Evs_ vl log::M) log.length ⟨0,.slice none 0 0,by omega,rfl,rfl,rfl,rfl⟩ ?_
 rintro z vs g1 L1 ⟨j,vw,hj,ow,rfl,rfl,rfl⟩
 refine Ex.keep [0,2,30,31,32] rG (fun gk=>?_)
 by_cases hlt:j<log.length
 ·have hme:=hm (log[j]'hlt) (List.getElem_mem hlt)
  have her:=hme.r
  have hlt2:log.take (j+1)=log.take j++[log[j]'hlt]:=List.take_succ_eq_append_getElem hlt
  obtain ⟨hw1,hw2⟩:=outOf_wait c.q r sent (log.take j)
  obtain ⟨b1,b2,b3⟩:=lvOf_bd (log.take j)
  rw [List.length_take] at hw2 b1 b2
  have hlg:lvOf (log.take (j+1))=lvApply (lvOf (log.take j)) (log[j]'hlt):=by rw [hlt2,lvOf_snoc]
  have hog:outOf c.q r sent (log.take (j+1))=outStep c.q r sent (outOf c.q r sent (log.take j)) (log[j]'hlt):=by rw [hlt2,outOf_snoc]
  have hcg:clkOfLog (log.take (j+1))=clkStep (clkOfLog (log.take j)) (log[j]'hlt):=by rw [hlt2,clkOfLog_snoc]
  have hcb:=clkOfLog_bd (log.take j) (fun e he=>(hm e (List.mem_of_mem_take he)).r) (log[j]'hlt).r.toNat rM
  rw [List.length_take] at hcb
  have hkl:=hme.lens
  generalize lvOf (log.take j)=lj at *
  generalize clkOfLog (log.take j)=cj at *
  generalize outOf c.q r sent (log.take j)=oj at *
  have hlen:(Rep.cells cj).length=5:=rfl
  (refine rn ?_;(repeat (first | intro (g:Nat) | intro (cs:List Value) | intro (hcs:_=List.set _ _ _) | intro h)))
  have hcs2:cs=Rep.cells (clkStep cj (log[j]'hlt)):=by
   rw [hcs,cj.getD_eq,show 0+(log[j]'hlt).r.toNat * 1=(log[j]'hlt).r.toNat by omega,wrap_in (by unfold I64;omega),clk_set_cells _ _ _ rM];rfl
  subst hcs2
  revert g
  intro g4
  refine Ex.sub (L':=LvA gb lj::Blk g4 80 (Rep.cells (log[j]'hlt))::NdB gn c r up dv vl sent (ptrV gb) i0 (ptrV go)::Blk g2 50 (Rep.cells (clkStep cj (log[j]'hlt)))::OxO go c.q c.w sent vw::Evs_ vw oj::Evs_ vl log::M) ?_ rP
  (refine Ex.mixA 6 (_::_::_::_::_::_::M) rfl rQ rF ?_;(refine mn ?_;intros))
  (refine mx_act rJ rJ rJ ?_;refine st_callIs [] rJ Tryz.call175 rE rJ (lapply_F gb _ (log[j]'hlt) _ hme rM rM rM) ?_)
  rintro _ _ ⟨rfl,rfl⟩
  (refine mw ?_;intros)
  (refine rn ?_;intros)
  by_cases hadd:(log[j]'hlt).r=r∧sent<(log[j]'hlt).n
  ·obtain ⟨ha1,ha2⟩:=hadd
   have hos:outStep c.q r sent oj (log[j]'hlt)=(addR c.q sent oj (log[j]'hlt)).2:=by unfold outStep;rw [if_pos ⟨ha1,ha2⟩]
   (refine mu16 ?_;intros)
   (refine rn ?_;intros)
   refine Ex.reord [5,5] rE ?_
   (refine Ex.mixA 6 (_::_::_::_::_::M) rfl rQ rF ?_;(refine mn ?_;intros))
   (refine mx_act rJ rJ rJ ?_;refine st_callIs [] rJ Tryz.call105 rE rJ (outbox_Add go c.q c.w sent vw oj (log[j]'hlt) _ hw1 rM rM ow) ?_)
   rintro _ _ ⟨rfl,vw2,ow2,rfl⟩
   (refine mw ?_;intros)
   (refine rn ?_;intros)
   refine rnd_n ⟨log.length - (j+1),NdB gn c r up dv vl sent (ptrV gb) i0 (ptrV go)::Blk g2 50 (Rep.cells (clkOfLog (log.take (j+1))))::LvA gb (lvOf (log.take (j+1)))::OxO go c.q c.w sent vw2::Evs_ vw2 (outOf c.q r sent (log.take (j+1)))::Evs_ vl log::M,by omega,?_,j+1,vw2,by omega,ow2,rfl,lcons (vint rM) rfl,rfl⟩
   rw [hcg,hlg,hog,hos]
   exact rP
  ·have hos:outStep c.q r sent oj (log[j]'hlt)=oj:=by unfold outStep;rw [if_neg hadd]
   have hcase:¬ (log[j]'hlt).r=r∨((log[j]'hlt).r=r∧¬ sent<(log[j]'hlt).n):=by omega
   clear hadd
   rcases hcase with h1 | ⟨h1,h2⟩
   ·(refine mu16 ?_;intros)
    (refine rn ?_;intros)
    refine rnd_n ⟨log.length - (j+1),NdB gn c r up dv vl sent (ptrV gb) i0 (ptrV go)::Blk g2 50 (Rep.cells (clkOfLog (log.take (j+1))))::LvA gb (lvOf (log.take (j+1)))::OxO go c.q c.w sent vw::Evs_ vw (outOf c.q r sent (log.take (j+1)))::Evs_ vl log::M,by omega,?_,j+1,vw,by omega,ow,rfl,lcons (vint rM) rfl,rfl⟩
    rw [hcg,hlg,hog,hos]
    exact rP
   ·(refine mu16 ?_;intros)
    (refine rn ?_;intros)
    refine rnd_n ⟨log.length - (j+1),NdB gn c r up dv vl sent (ptrV gb) i0 (ptrV go)::Blk g2 50 (Rep.cells (clkOfLog (log.take (j+1))))::LvA gb (lvOf (log.take (j+1)))::OxO go c.q c.w sent vw::Evs_ vw (outOf c.q r sent (log.take (j+1)))::Evs_ vl log::M,by omega,?_,j+1,vw,by omega,ow,rfl,lcons (vint rM) rfl,rfl⟩
    rw [hcg,hlg,hog,hos]
    exact rP
 ·obtain rfl:j=log.length:=by omega
  rw [List.take_length]
  (refine rn ?_;intros)
  (refine mu8 ?_;intros)
  (refine mx_act rJ rJ rJ ?_;refine st_callIs [] rJ Tryz.call188 rE rJ (inbox_New c.h (clkOfLog log) _) ?_)
  rintro _ _ ⟨gi,rfl,rfl⟩
  (refine mw ?_;intros)
  (refine rn ?_;intros)
  (refine fr ?_)
  exact ⟨_,rP,gb,gi,go,vw,ow,rfl⟩
end
end
section
def ngo (Q:Post):Post
 | .goto _,_,_=>False
 | e,f,L=>Q e f L
theorem ngo_ret {Q:Post} {f:Nat→Value} {L:List Assn} (h:Q .ret f L):ngo Q .ret f L:=h
section
variable {P:Program} {n:Nat} {Q:Post} {f:Nat→Value} {L:List Assn}
theorem Ex.scope0 {c:Code} (h:Ex P n c (ngo Q) f L):Ex P n (.scope c) Q f L:=fun D F w0 f0 ws a w H hW=>by
 refine wp_scope_straight (wp_mono (h D F w0 f0 ws a w H hW) ?_)
 rintro e a w ⟨f2,L2,H2,q⟩
 cases e with
 | goto l=>exact q.elim
 | _=>exact ⟨f2,L2,H2,q⟩
end
end
section
theorem replay_bd {recs:List Rcd} {j:Nat} (hm:∀ x∈recs,x.May):(replay (recs.take j)).1.length≤4096 * j∧0≤(replay (recs.take j)).2∧(replay (recs.take j)).2≤1048576:=by
 induction j with
 | zero=>exact ⟨Nat.le_refl _,Int.le_refl _,(by show (0:Int)≤1048576;omega)⟩
 | succ j ih =>
  by_cases hlt:j<recs.length
  ·rw [List.take_succ_eq_append_getElem hlt,replay_snoc]
   have h1:=(hm _ (List.getElem_mem hlt)).m
   have h2:=(hm _ (List.getElem_mem hlt)).u
   unfold rpStep
   split
   ·exact ⟨by simp only;omega,h2⟩
   ·split
    ·exact ⟨by simp only;omega,h2⟩
    ·refine ⟨by simp only [List.length_append];omega,ih.2⟩
  ·rw [List.take_of_length_le rM] at ih ⊢
   exact ⟨by omega,ih.2⟩
theorem recs_len:∀ {recs:List Rcd},(∀ x∈recs,x.May)→recs.length≤(rcsB recs).length
 | [],_=>Nat.le_refl _
 | x::l,h=>by
  have h1:=recs_len (fun y hy=>h y (List.mem_cons_of_mem _ hy))
  have h2:=(x.bytes_len (h x (List.mem_cons_self ..))).1
  rw [rcsB_cons,List.length_append,List.length_cons]
  omega
set_option maxRecDepth 20000 attribute [local irreducible] Ex ExL Fn thn inb rnd fin meet Tab Mix mxEnd Val Sats RdT Rd RowT Row Blk Sub Fac ResV RVal Evs subs subs3 Hid Capd
section
attribute [local irreducible] DkA DvA Star LvA
theorem nStart_dn {k:Nat} (gn:Nat) (c:Cfg) (r:Int) (st:NSt) (dv:Value) (ds:DS) (vl:Value) (sent:Int) (b i0 o0:Value) (M:List Assn) (ok:NOk k c r st) (hk:k≤200) (hu:st.up=false) (dok:DsOk st ds) :
  Fn Tryz.prog 61 #[ptrV gn] (NdB gn c r false dv vl sent b i0 o0::DvA dv ds::M) fun v L'=>v=.int .i64 (st.start c r).2∧L'=NodeA gn c r (st.start c r).1::M:=by
 have hd:=ok.disk hk dok
 refine Fn.of_ex Tryz.func61 rfl Tryz.ntmps61 rfl ?_
 (refine rn ?_;(repeat (first | intro (g:Nat) | intro (v:Value) | intro (o:O1 _) | intro h)))
 refine Ex.scope0 ?_
 (refine rn ?_;(repeat (first | intro (g:Nat) | intro (v:Value) | intro (o:O1 _) | intro h)))
 refine st_callIs [] rJ Tryz.call122 rE rJ (nstore_F gn c r false dv vl sent b i0 o0 ds _) ?_
 rintro _ _ ⟨gd,rfl,rfl⟩
 (refine rn ?_;(repeat (first | intro (g:Nat) | intro (v:Value) | intro (o:O1 _) | intro h)))
 refine st_callIs [1] rJ Tryz.call124 rE rJ (dk_Start gd ds _) ?_
 rintro _ _ rfl
 (refine rn ?_;(repeat (first | intro (g:Nat) | intro (v:Value) | intro (o:O1 _) | intro h)))
 refine st_callIs [] rJ Tryz.call126 rE rJ (dk_Bytes gd ⟨ds.b,false,false,ds.keep⟩ _ (by show ds.b.length≤_;omega)) ?_
 rintro rb _ ⟨orb,rfl⟩
 (refine rn ?_;(repeat (first | intro (g:Nat) | intro (v:Value) | intro (o:O1 _) | intro h)))
 refine st_callIs [] rJ Tryz.call125 rJ rJ (rall_F rb ds.b _ rD orb rM) ?_
 rintro _ _ ⟨l,n,u,hA,hn,ou,rfl,rfl⟩
 rw [dok.b] at hA
 obtain ⟨hl1,hn1⟩:=RcAll.of ok.tail ok.recs hA
 have hsz:=ok.size
 have hrl:=recs_len ok.recs
 have hll:l.length=st.recs.length:=by rw [← hl1,List.length_map]
 (refine rn ?_;(repeat (first | intro (g:Nat) | intro (v:Value) | intro (o:O1 _) | intro h)))
 refine st_callIs [3] rJ Tryz.call127 rE rJ (dk_Trim gd ⟨ds.b,false,false,ds.keep⟩ n _ (by show ds.b.length≤_;omega)) ?_
 rintro _ _ rfl
 have htr:(⟨ds.b,false,false,ds.keep⟩:DS).trim n=⟨rcsB st.recs,false,false,ds.keep⟩:=by
  unfold DS.trim
  rw [if_pos ⟨by omega,by show (n:Int)≤(ds.b.length:Int);omega⟩]
  show (⟨ds.b.take (n:Int).toNat,_,_,_⟩:DS)=_
  rw [Int.toNat_natCast,dok.b,hn1,List.take_left]
 rw [htr]
 refine ExL.sub (L':=NdB gn c r false (ptrV gd) vl sent b i0 o0::Rcs_ u l::Star (l.map Rcv.ev)::DkA gd ⟨rcsB st.recs,false,false,ds.keep⟩::M) ?_ rP
 (refine rn ?_;(repeat (first | intro (g:Nat) | intro (v:Value) | intro (o:O1 _) | intro h)))
 refine Ex.label ?_
 (refine rn ?_;(repeat (first | intro (g:Nat) | intro (v:Value) | intro (o:O1 _) | intro h)))
 refine Ex.sub (L':=NdB gn c r false (ptrV gd) (.slice none 0 0) 0 b i0 o0::Evs_ (.slice none 0 0) []::Rcs_ u l::Star (l.map Rcv.ev)::DkA gd ⟨rcsB st.recs,false,false,ds.keep⟩::M) ?_ (Sub.cons _ (Sub.empty (α:=Ev) none 80 _))
 refine Ex.loop [33] (fun z vs L'=>∃ (j:Nat) (va:Value),j≤l.length∧va.oneCell'=true∧z=l.length - j∧vs=[.int .i64 j]∧L'=NdB gn c r false (ptrV gd) va (replay (st.recs.take j)).2 b i0 o0::Evs_ va (replay (st.recs.take j)).1::Rcs_ u l::Star (l.map Rcv.ev)::DkA gd ⟨rcsB st.recs,false,false,ds.keep⟩::M) l.length ⟨0,.slice none 0 0,by omega,rfl,rfl,rfl,rfl⟩ ?_
 rintro z vs g1 L1 ⟨j,va,hj,oa,rfl,rfl,rfl⟩
 refine Ex.keep [0,31,32,33] rG (fun gk=>?_)
 by_cases hlt:j<l.length
 ·have hjr:j<st.recs.length:=by omega
  have hxe:st.recs[j]'hjr=(l[j]'hlt).x:=by simp [← hl1]
  have hrep:replay (st.recs.take (j+1))=rpStep (replay (st.recs.take j)) (l[j]'hlt).x:=by rw [List.take_succ_eq_append_getElem hjr,replay_snoc,hxe]
  obtain ⟨hb1,hb2,hb3⟩:=replay_bd (j:=j) ok.recs
  have hmx:(l[j]'hlt).x.May:=by rw [← hxe];exact ok.recs _ (List.getElem_mem hjr)
  have hmm:=hmx.m
  have hov:(l[j]'hlt).v.oneCell'=true:=(l[j]'hlt).o
  have hfo:∀ L,Sub (Evs_ (l[j]'hlt).v (l[j]'hlt).x.l::Star ((l.map Rcv.ev).eraseIdx j)::L) (Star (l.map Rcv.ev)::L):=fun L=>Star.focus (As:=l.map Rcv.ev) (i:=j) L (by simp [hlt];rfl)
  have hun:∀ L,Sub (Star (l.map Rcv.ev)::L) (Evs_ (l[j]'hlt).v (l[j]'hlt).x.l::Star ((l.map Rcv.ev).eraseIdx j)::L):=fun L=>by
   have h:=Star.unfocus (As:=l.map Rcv.ev) (i:=j) (l[j]'hlt).ev L (by simpa using hlt)
   have e:(l.map Rcv.ev).set j (l[j]'hlt).ev=l.map Rcv.ev:=by
    have e2:(l[j]'hlt).ev=(l.map Rcv.ev)[j]'(by simpa using hlt):=by simp
    rw [e2,List.set_getElem_self]
   rw [e] at h
   exact h
  generalize replay (st.recs.take j)=p at *
  by_cases k3:(l[j]'hlt).x.kind=3
  ·(refine rn ?_;(repeat (first | intro (g:Nat) | intro (v:Value) | intro (o:O1 _) | intro h)))
   refine rnd_n ⟨l.length - (j+1),NdB gn c r false (ptrV gd) va (replay (st.recs.take (j+1))).2 b i0 o0::Evs_ va (replay (st.recs.take (j+1))).1::Rcs_ u l::Star (l.map Rcv.ev)::DkA gd ⟨rcsB st.recs,false,false,ds.keep⟩::M,by omega,?_,j+1,va,by omega,oa,rfl,lcons (vint rM) rfl,rfl⟩
   rw [hrep]
   unfold rpStep
   rw [if_pos k3]
   exact rP
  ·by_cases k4:(l[j]'hlt).x.kind=4
   ·(refine rn ?_;(repeat (first | intro (g:Nat) | intro (v:Value) | intro (o:O1 _) | intro h)))
    revert g
    intro g7
    refine Ex.reord [1] rE ?_
    (refine Ex.mixA 7 (_::_::_::_::_::M) rfl rQ rF ?_;(refine mn ?_;(repeat (first | intro (g:Nat) | intro (v:Value) | intro (o:O1 _) | intro h))))
    (refine mx_act rJ rJ rJ ?_;(first | refine st_store1_ 0 rJ rJ rE rN rJ rJ rE rE ?_ | refine st_storeW_ 0 rJ rJ rJ rC rJ rJ rJ rE ?_ | refine st_storeR 0 rJ rJ rJ rE rJ rJ rE ?_);refine ExL.nil ?_;refine mxEnd_n rF ?_;(refine mn ?_;(repeat (first | intro (g:Nat) | intro (v:Value) | intro (o:O1 _) | intro h))))
    (refine rn ?_;(repeat (first | intro (g:Nat) | intro (v:Value) | intro (o:O1 _) | intro h)))
    refine Ex.sub (L':=Evs_ (.slice none 0 0) []::NdB gn c r false (ptrV gd) (.slice none 0 0) (l[j]'hlt).x.upto b i0 o0::Blk g7 88 (Rep.cells (l[j]'hlt))::Evs_ (l[j]'hlt).v (l[j]'hlt).x.l::Star ((l.map Rcv.ev).eraseIdx j)::Rcs_ u l::DkA gd ⟨rcsB st.recs,false,false,ds.keep⟩::M) ?_ (Sub.trans (Sub.empty (α:=Ev) none 80 _) (Sub.trans rP (Sub.trans (hfo (NdB gn c r false (ptrV gd) (.slice none 0 0) (l[j]'hlt).x.upto b i0 o0::Blk g7 88 (Rep.cells (l[j]'hlt))::Rcs_ u l::DkA gd ⟨rcsB st.recs,false,false,ds.keep⟩::M)) rP)))
    (refine Ex.mixA 8 (_::_::_::_::_::_::M) rfl rQ rF ?_;(refine mn ?_;(repeat (first | intro (g:Nat) | intro (v:Value) | intro (o:O1 _) | intro h))))
    (refine rn ?_;(repeat (first | intro (g:Nat) | intro (v:Value) | intro (o:O1 _) | intro h)))
    have hlk:replay (st.recs.take (j+1))=((l[j]'hlt).x.l,(l[j]'hlt).x.upto):=by rw [hrep];unfold rpStep;rw [if_neg k3,if_pos k4]
    refine rnd_n ⟨l.length - (j+1),NdB gn c r false (ptrV gd) v (replay (st.recs.take (j+1))).2 b i0 o0::Evs_ v (replay (st.recs.take (j+1))).1::Rcs_ u l::Star (l.map Rcv.ev)::DkA gd ⟨rcsB st.recs,false,false,ds.keep⟩::M,by omega,?_,j+1,v,by omega,o,rfl,lcons (vint rM) rfl,rfl⟩
    rw [hlk]
    exact Sub.trans rP (Sub.trans (hun (NdB gn c r false (ptrV gd) v (l[j]'hlt).x.upto b i0 o0::Evs_ v (l[j]'hlt).x.l::Rcs_ u l::DkA gd ⟨rcsB st.recs,false,false,ds.keep⟩::M)) rP)
   ·(refine rn ?_;(repeat (first | intro (g:Nat) | intro (v:Value) | intro (o:O1 _) | intro h)))
    revert g
    intro g7
    refine Ex.sub (L':=Evs_ va p.1::NdB gn c r false (ptrV gd) va p.2 b i0 o0::Blk g7 88 (Rep.cells (l[j]'hlt))::Evs_ (l[j]'hlt).v (l[j]'hlt).x.l::Star ((l.map Rcv.ev).eraseIdx j)::Rcs_ u l::DkA gd ⟨rcsB st.recs,false,false,ds.keep⟩::M) ?_ (Sub.trans rP (Sub.trans (hfo (Evs_ va p.1::NdB gn c r false (ptrV gd) va p.2 b i0 o0::Blk g7 88 (Rep.cells (l[j]'hlt))::Rcs_ u l::DkA gd ⟨rcsB st.recs,false,false,ds.keep⟩::M)) rP))
    (refine Ex.mixA 8 (_::_::_::_::_::_::M) rfl rQ rF ?_;(refine mn ?_;(repeat (first | intro (v:Value) | intro (o:O1 _) | intro h))))
    (refine rn ?_;(repeat (first | intro (v:Value) | intro (o:O1 _) | intro h)))
    have hlk:replay (st.recs.take (j+1))=(p.1++(l[j]'hlt).x.l,p.2):=by rw [hrep];unfold rpStep;rw [if_neg k3,if_neg k4]
    refine rnd_n ⟨l.length - (j+1),NdB gn c r false (ptrV gd) v (replay (st.recs.take (j+1))).2 b i0 o0::Evs_ v (replay (st.recs.take (j+1))).1::Rcs_ u l::Star (l.map Rcv.ev)::DkA gd ⟨rcsB st.recs,false,false,ds.keep⟩::M,by omega,?_,j+1,v,by omega,o,rfl,lcons (vint rM) rfl,rfl⟩
    rw [hlk]
    exact Sub.trans rP (Sub.trans (hun (NdB gn c r false (ptrV gd) v p.2 b i0 o0::Evs_ v (p.1++(l[j]'hlt).x.l)::Rcs_ u l::DkA gd ⟨rcsB st.recs,false,false,ds.keep⟩::M)) rP)
 ·obtain rfl:j=l.length:=by omega
  rw [hll,List.take_length]
  (refine rn ?_;intros)
  have hlg:=ok.rlen
  refine st_callIs [] rJ Tryz.call128 rE rJ (nbuild_F gn c r false (ptrV gd) va (replay st.recs).2 b i0 o0 (replay st.recs).1 _ oa rM ok.revs ok.rsent) ?_
  rintro _ _ ⟨gb,gi,go,vw,ow,rfl⟩
  (refine rn ?_;intros)
  refine ngo_ret ?_
  (refine fr ?_)
  have e:st.start c r=({ st with up:=true,tail:=[],cuts:=false,log:=(replay st.recs).1,sent:=(replay st.recs).2,clk:=clkOfLog (replay st.recs).1,held:=[],wait:=outOf c.q r (replay st.recs).2 (replay st.recs).1 },0):=by unfold NSt.start;rw [if_neg (by rw [hu];simp)]
  rw [e]
  exact ⟨_,Sub.trans (NodeA.cls_upK (st:={ st with up:=true,tail:=[],cuts:=false,log:=(replay st.recs).1,sent:=(replay st.recs).2,clk:=clkOfLog (replay st.recs).1,held:=[],wait:=outOf c.q r (replay st.recs).2 (replay st.recs).1 }) (gd:=gd) (ds:=⟨rcsB st.recs,false,false,ds.keep⟩) ⟨gb,gi,go,va,.slice none 0 0,vw⟩ rfl ⟨by simp,fun _=>rfl,rfl,(fun h=>by cases h)⟩ ⟨oa,rfl,ow⟩ M) rP,rfl,rfl⟩
theorem nStartA {k:Nat} (gn:Nat) (c:Cfg) (r:Int) (st:NSt) (M:List Assn) (ok:NOk k c r st) (hk:k≤200):Fn Tryz.prog 61 #[ptrV gn] (NodeA gn c r st::M) fun v L'=>v=.int .i64 (st.start c r).2∧L'=NodeA gn c r (st.start c r).1::M:=by
 refine NodeA.fn (fun hu dv ds vl sent b i o dok=>nStart_dn gn c r st dv ds vl sent b i o M ok hk hu dok) (fun hu dv ds x dok ox=>?_)
 have e:st.start c r=(st,19):=by unfold NSt.start;rw [if_pos hu]
 rw [e]
 refine Fn.of_ex Tryz.func61 rfl Tryz.ntmps61 rfl ?_
 (refine rn ?_;intros)
 refine Ex.scope0 ?_
 (refine rn ?_;intros)
 refine ngo_ret ?_
 (refine fr ?_)
 exact ⟨_,NodeA.cls_up x hu dok ox M,rfl,rfl⟩
end
end
end Go.Proofs.YtogcfijlhpaeeaaGreat
