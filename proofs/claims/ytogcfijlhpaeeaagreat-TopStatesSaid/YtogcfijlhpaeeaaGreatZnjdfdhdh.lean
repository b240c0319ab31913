/- Texts, one behind the other. No condition. -/
import Derived.Test.YtogcfijlhpaeeaaGreatChecked
import Derived.Test.YtogcfijlhpaeeaaGreatRows
import Derived.Test.YtogcfijlhpaeeaaGreatZajmfbmbb
import Derived.Test.YtogcfijlhpaeeaaGreatZbndogacj
import Derived.Test.YtogcfijlhpaeeaaGreatZccaibcad
import Derived.Test.YtogcfijlhpaeeaaGreatZdfampcdg
import Derived.Test.YtogcfijlhpaeeaaGreatZehjcikgl
import Derived.Test.YtogcfijlhpaeeaaGreatZmnaoofmf
open Go.RowKit
set_option linter.unusedSimpArgs false
set_option linter.unusedVariables false
set_option linter.unusedSectionVars false
set_option maxHeartbeats 32000000
namespace Go.Proofs.YtogcfijlhpaeeaaGreat
section
instance:EqT Tryz.prog 53 HsU:=⟨6,.b::List.replicate 35 (.i .i64),by kernel_rfl,by kernel_rfl,by kernel_rfl,by kernel_rfl,fun _=>rfl,fun a b h=>by
 obtain ⟨a0,⟨⟨a1,a2,a3,a4,a5⟩,⟨b1,b2,b3,b4,b5⟩,⟨c1,c2,c3,c4,c5⟩,⟨d1,d2,d3,d4,d5⟩,⟨e1,e2,e3,e4,e5⟩,⟨f1,f2,f3,f4,f5⟩,⟨g1,g2,g3,g4,g5⟩⟩⟩:=a
 obtain ⟨A0,⟨⟨A1,A2,A3,A4,A5⟩,⟨B1,B2,B3,B4,B5⟩,⟨C1,C2,C3,C4,C5⟩,⟨D1,D2,D3,D4,D5⟩,⟨E1,E2,E3,E4,E5⟩,⟨F1,F2,F3,F4,F5⟩,⟨G1,G2,G3,G4,G5⟩⟩⟩:=b
 simp only [Rep.cells,List.cons_append,List.nil_append,List.append_assoc,List.cons.injEq,Value.int.injEq,Value.bool.injEq,true_and,and_true] at h
 simp only [HsU.mk.injEq,Hs.mk.injEq,Clk.mk.injEq]
 simp only [and_assoc] at h ⊢
 exact h⟩
end
section
section
variable {P:Ev→Prop}
def NAll (P:Ev→Prop) (st:NSt):Prop:=(∀ e∈(replay st.recs).1,P e)∧(st.up=true→(∀ e∈st.held,P e)∧∀ e∈st.wait,P e)
def HAll (P:Ev→Prop) (c:Cfg) (st:HSt):Prop:=∀ s∈(hreplay c st.recs).sf,∀ e∈s.all,P e
structure WAll (P:Ev→Prop) (c:Cfg) (w:WSt):Prop where
 nd:∀ r:Int,w.has r→NAll P (w.node r)
 hub:HAll P c w.hub
 fl:∀ x∈w.fl,∀ e∈x.2.l,P e
theorem write_recs (st:NSt) (x:Rcd):(st.write x).1.recs=st.recs∨(st.write x).1.recs=st.recs++[x]:=by
 unfold NSt.write
 split
 ·simp only
  split
  ·exact .inr rfl
  ·exact .inl rfl
 ·exact .inr rfl
theorem hwrite_recs (st:HSt) (x:Rcd):(st.write x).1.recs=st.recs∨(st.write x).1.recs=st.recs++[x]:=by
 unfold HSt.write
 split
 ·simp only
  split
  ·exact .inr rfl
  ·exact .inl rfl
 ·exact .inr rfl
theorem NAll.down {st:NSt} (h:∀ e∈(replay st.recs).1,P e) (hd:st.up=false):NAll P st:=⟨h,fun hu=>by rw [hd] at hu;cases hu⟩
theorem all_write {st:NSt} {x:Rcd} (h:∀ e∈(replay st.recs).1,P e) (hx:∀ e∈(rpStep (replay st.recs) x).1,P e):∀ e∈(replay (st.write x).1.recs).1,P e:=by
 rcases write_recs st x with hr | hr
 ·rw [hr];exact h
 ·rw [hr,replay_snoc];exact hx
theorem NAll.start {k:Nat} {c:Cfg} {r:Int} {st:NSt} (g:NGd k c r st) (h:NAll P st):NAll P (st.start c r).1:=by
 unfold NSt.start
 split
 ·exact h
 ·have h5:=g.r5
  have hq:=g.cm.q
  obtain ⟨o1,o2⟩:=outOf_len c.q r (replay st.recs).2 h5 g.dur.rsent.1 _ g.dur.num (Ev.May.r5 g.dur.revs) g.dur.rsent.2.2 rM
  exact ⟨h.1,fun _=>⟨(fun e he=>by cases he),fun e he=>h.1 e (o2 e he).1⟩⟩
theorem addR_mem {q s:Int} {w:List Ev} {e y:Ev} (h:y∈(addR q s w e).2):y∈w∨y=e:=by
 unfold addR at h
 split at h
 ·exact .inl h
 ·split at h
  ·rcases List.mem_append.1 h with h | h
   ·exact .inl h
   ·simp at h;exact .inr h
  ·exact .inl h
theorem NAll.edit {k:Nat} {c:Cfg} {r:Int} {st:NSt} (g:NGd k c r st) (h:NAll P st) (e:Ed) (hn:st.editE c r e=0→P (st.mk1 r e)):NAll P (st.edit c r e).1:=by
 unfold NSt.edit
 by_cases hE:st.editE c r e≠0
 ·rw [if_pos hE];exact h
 rw [if_neg hE]
 have hE:st.editE c r e=0:=by simpa using hE
 have hu:st.up=true:=by
  cases hh:st.up with
  | true=>rfl
  | false=>unfold NSt.editE at hE;rw [if_pos hh] at hE;cases hE
 have hP:=hn hE
 have hrp:=(g.up hu).2
 have hx:∀ y∈(rpStep (replay st.recs) (rcEv 1 r [st.mk1 r e])).1,P y:=by
  rw [hrp]
  show ∀ y∈st.log++[st.mk1 r e],P y
  intro y hy
  have h1:=h.1
  rw [hrp] at h1
  rcases List.mem_append.1 hy with hy | hy
  ·exact h1 y hy
  ·simp at hy;rw [hy];exact hP
 have hw:=all_write h.1 hx
 split
 ·rename_i hwe;exact NAll.down hw (((st.write_up _).2 hwe))
 ·rename_i hwe
  have hwe:(st.write (rcEv 1 r [st.mk1 r e])).2=0:=by simpa using hwe
  rw [write_same hwe] at hw ⊢
  exact ⟨hw,fun _=>⟨(h.2 hu).1,fun y hy=>(addR_mem hy).elim ((h.2 hu).2 y) (fun e=>e ▸ hP)⟩⟩
theorem NAll.state {k:Nat} {c:Cfg} {r:Int} {st:NSt} (g:NGd k c r st) (h:NAll P st):NAll P (st.state r).1:=by
 unfold NSt.state
 split
 ·exact h
 rename_i hu0
 have hu:st.up=true:=by cases hh:st.up with
  | true=>rfl
  | false=>exact absurd hh hu0
 split
 ·exact h
 have hrp:=(g.up hu).2
 have hl:∀ y∈st.log,P y:=by have:=h.1;rw [hrp] at this;exact this
 have hw:=all_write (x:=⟨4,r,st.sent,Clk.zero,st.log⟩) h.1 hl
 split
 ·rename_i hwe;exact NAll.down hw (((st.write_up _).2 hwe))
 ·rename_i hwe
  have hwe:(st.write ⟨4,r,st.sent,Clk.zero,st.log⟩).2=0:=by simpa using hwe
  simp only
  rw [write_same hwe] at hw ⊢
  exact ⟨hw,h.2⟩
theorem NAll.take {k:Nat} {c:Cfg} {r:Int} {st:NSt} (g:NGd k c r st) (h:NAll P st) {f:Rcd×Int} (hf:∀ e∈f.1.l,P e):NAll P (st.takeC c r f).1:=by
 unfold NSt.takeC
 split
 ·exact h
 rename_i hu0
 have hu:st.up=true:=by cases hh:st.up with
  | true=>rfl
  | false=>exact absurd hh hu0
 have hrp:=(g.up hu).2
 have hl:∀ y∈st.log,P y:=by have:=h.1;rw [hrp] at this;exact this
 split
 ·exact h
 split
 ·exact h
 split
 ·exact h
 split
 ·unfold NSt.pushed
  simp only
  split
  ·exact h
  have hw:=all_write (x:=⟨3,r,max st.sent (min f.1.upto (st.clk.get r.toNat)),Clk.zero,[]⟩) h.1 h.1
  split
  ·rename_i hwe;exact NAll.down hw (((st.write_up _).2 hwe))
  ·rename_i hwe
   have hwe:(st.write ⟨3,r,max st.sent (min f.1.upto (st.clk.get r.toNat)),Clk.zero,[]⟩).2=0:=by simpa using hwe
   simp only
   rw [write_same hwe] at hw ⊢
   exact ⟨hw,fun _=>⟨(h.2 hu).1,fun y hy=>(h.2 hu).2 y (List.mem_of_mem_drop hy)⟩⟩
 split
 ·unfold NSt.eventsC
  obtain ⟨m1,m2,_⟩:=drainL_mem st.clk (st.held++f.1.l)
  have hX:∀ e∈st.held++f.1.l,P e:=fun e he=>(List.mem_append.1 he).elim ((h.2 hu).1 e) (hf e)
  split
  ·exact h
  split
  ·exact ⟨h.1,fun _=>⟨fun e he=>hX e (m2 e he),(h.2 hu).2⟩⟩
  have hw:=all_write (x:=rcEv 2 r (drainL st.clk (st.held++f.1.l)).1) h.1 (by
   rw [hrp]
   show ∀ y∈st.log++_,P y
   intro y hy
   exact (List.mem_append.1 hy).elim (hl y) (fun hy=>hX y (m1 y hy)))
  split
  ·rename_i hwe;exact NAll.down hw (((st.write_up _).2 hwe))
  ·rename_i hwe
   have hwe:(st.write (rcEv 2 r (drainL st.clk (st.held++f.1.l)).1)).2=0:=by simpa using hwe
   simp only
   rw [write_same hwe] at hw ⊢
   exact ⟨hw,fun _=>⟨fun e he=>hX e (m2 e he),(h.2 hu).2⟩⟩
 ·exact h
def PAll (P:Ev→Prop) (p:PSt):Prop:=∀ s∈p.sf,∀ e∈s.all,P e
theorem PAll.alls {p q:PSt} (h:PAll P p) (he:q.alls=p.alls):PAll P q:=fun s hs e hse=>by
 have:s.all∈q.alls:=List.mem_map.2 ⟨s,hs,rfl⟩
 rw [he] at this
 obtain ⟨t,ht,hte⟩:=List.mem_map.1 this
 exact h t ht e (by rw [hte];exact hse)
theorem PAll.push {p:PSt} (h:PAll P p) (most r:Int) {l:List Ev} (hl:∀ e∈l,P e):PAll P (p.pushC most r l).2.2:=by
 rcases push_alls most p r l with he | ⟨_,_,he⟩
 ·exact h.alls he
 ·intro s hs e hse
  have:s.all∈(p.pushC most r l).2.2.alls:=List.mem_map.2 ⟨s,hs,rfl⟩
  rw [he] at this
  rcases List.mem_or_eq_of_mem_set this with hm | hm
  ·obtain ⟨t,ht,hte⟩:=List.mem_map.1 hm
   exact h t ht e (by rw [hte];exact hse)
  ·rw [hm] at hse
   rcases List.mem_append.1 hse with hse | hse
   ·rcases getD_mem_or p.alls r.toNat [] with hg | hg
    ·obtain ⟨t,ht,hte⟩:=List.mem_map.1 hg
     exact h t ht e (by rw [hte];exact hse)
    ·rw [hg] at hse;cases hse
   ·refine hl e ?_
    unfold Sf.putS putC at hse
    split at hse
    ·cases hse
    ·split at hse
     ·cases hse
     ·exact (List.mem_filter.1 hse).1
theorem PAll.ack {p:PSt} (h:PAll P p) (r:Int) (c:Clk):PAll P (p.ack r c).2:=h.alls (ack_alls p r c)
theorem PAll.fetch {p:PSt} (h:PAll P p) (r:Int) (ck:Clk):∀ e∈(p.fetch r ck).1,P e:=by
 have h1:∀ i,∀ e∈above (ck.get i) ((p.sf.getD i Sf.none).all.drop (p.sf.getD i Sf.none).cut),P e:=fun i e he=>by
  unfold above at he
  have he:=List.mem_of_mem_drop (List.mem_filter.1 he).1
  rcases getD_mem_or p.sf i Sf.none with hg | hg
  ·exact h _ hg e he
  ·rw [hg] at he;cases he
 have key:∀ j,∀ e∈p.getN r ck j,P e:=by
  intro j
  induction j with
  | zero=>intro e he;cases he
  | succ j ih =>
   intro e he
   unfold PSt.getN at he
   split at he
   ·exact (List.mem_append.1 he).elim (ih e) (h1 j e)
   ·exact ih e he
 unfold PSt.fetch
 split
 ·intro e he;cases he
 ·exact key _
theorem hall_write {c:Cfg} {st:HSt} {x:Rcd} (h:PAll P (hreplay c st.recs)) (hx:PAll P (hpStep c (hreplay c st.recs) x)):PAll P (hreplay c (st.write x).1.recs):=by
 rcases hwrite_recs st x with hr | hr
 ·rw [hr];exact h
 ·rw [hr,hreplay_snoc];exact hx
theorem HAll.take {k:Nat} {c:Cfg} {st:HSt} (g:HGd k c st) (h:HAll P c st) {f:Rcd×Int} (hf:∀ e∈f.1.l,P e):HAll P c (st.take c f).1∧∀ e∈(st.take c f).2.2.1.l,P e:=by
 have z:∀ e∈Rcd.zero.l,P e:=fun e he=>by cases he
 have h:PAll P (hreplay c st.recs):=h
 unfold HSt.take
 split
 ·exact ⟨h,z⟩
 rename_i hu0
 have hu:st.up=true:=by cases hh:st.up with
  | true=>rfl
  | false=>exact absurd hh hu0
 have hrp:=(g.up hu).2
 have hp:PAll P st.post:=by rw [← hrp];exact h
 split
 ·exact ⟨h,z⟩
 split
 ·exact ⟨h,z⟩
 split
 ·unfold HSt.push
  split
  ·exact ⟨h,z⟩
  split
  ·exact ⟨h,fun e he=>by cases he⟩
  have hw:=hall_write (x:=rcEv 5 f.1.r f.1.l) h (by rw [hrp];exact hp.push c.w f.1.r hf)
  split
  ·exact ⟨hw,z⟩
  ·exact ⟨hw,fun e he=>by cases he⟩
 split
 ·refine ⟨h,?_⟩
  unfold HSt.fetch
  split
  ·exact z
  ·exact hp.fetch f.1.r f.1.c
 split
 ·refine ⟨?_,z⟩
  unfold HSt.ack
  split
  ·exact h
  split
  ·exact h
  have hw:=hall_write (x:=⟨6,f.1.r,0,f.1.c,[]⟩) h (by rw [hrp];exact hp.ack f.1.r f.1.c)
  split
  ·exact hw
  ·exact hw
 ·exact ⟨h,z⟩
theorem WAll.upd {c:Cfg} {w:WSt} (h:WAll P c w) {r:Int} (hr:w.has r) {s:NSt} (hs:NAll P s):WAll P c (w.upd r s):=by
 refine ⟨fun q hq=>?_,h.hub,h.fl⟩
 have hq2:=(upd_has w r s q).1 hq
 rw [upd_node hr s q hq2.1]
 split
 ·exact hs
 ·exact h.nd q hq2
theorem WAll.fly {c:Cfg} {w:WSt} (h:WAll P c w) (t:Int) {x:Rcd} (hx:∀ e∈x.l,P e):WAll P c { w with fl:=w.fl++[(t,x)] }:=by
 refine ⟨h.nd,h.hub,fun y hy=>?_⟩
 rcases List.mem_append.1 hy with hy | hy
 ·exact h.fl y hy
 ·simp at hy;subst hy;exact hx
theorem WAll.send {c:Cfg} {w:WSt} (h:WAll P c w) {p:Rcd×Int} (hp:∀ e∈p.1.l,P e):WAll P c (w.send p).1:=by
 unfold WSt.send
 simp only
 split
 ·exact h.fly 5 hp
 ·exact h
theorem WAll.arrive {k:Nat} {c:Cfg} {w:WSt} (g:WGd k c w) (h:WAll P c w) (to:Int) {f:Rcd×Int} (hf:∀ e∈f.1.l,P e):WAll P c (w.arrive c to f).1:=by
 unfold WSt.arrive
 split
 ·rename_i hh;exact h.upd hh ((h.nd to hh).take (g.nd to hh) hf)
 ·obtain ⟨h1,h2⟩:=h.hub.take g.hub hf
  simp only
  split
  ·refine ⟨h.nd,h1,fun y hy=>?_⟩
   rcases List.mem_append.1 hy with hy | hy
   ·exact h.fl y hy
   ·simp at hy;subst hy;exact h2
  ·exact ⟨h.nd,h1,h.fl⟩
theorem burstF_all {x:Rcd} (hx:∀ e∈x.l,P e) (bit mask:Int):∀ e∈(burstF x bit mask).1.l,P e:=by
 unfold burstF
 split
 ·exact hx
 ·exact fun e he=>by cases he
theorem fl_getD_all {c:Cfg} {w:WSt} (h:WAll P c w) (i:Nat):∀ e∈(w.fl.getD i (0,Rcd.zero)).2.l,P e:=by
 rcases getD_mem_or w.fl i (0,Rcd.zero) with hg | hg
 ·exact h.fl _ hg
 ·rw [hg];exact fun e he=>by cases he
theorem WAll.flight {k:Nat} {c:Cfg} {w:WSt} (g:WGd k c w) (h:WAll P c w) (s:Stp):WAll P c (w.flight c s).1:=by
 unfold WSt.flight
 split
 ·have hx:=fl_getD_all h s.at_.toNat
  have h2:WAll P c (if s.kind=5 then w else { w with fl:=tkA w.fl s.at_ })∧WGd k c (if s.kind=5 then w else { w with fl:=tkA w.fl s.at_ }):=by
   split
   ·exact ⟨h,g⟩
   ·exact ⟨⟨h.nd,h.hub,fun y hy=>h.fl y (tkA_mem hy)⟩,⟨g.n,g.nd,g.hub,by have:=g.fl.1;have:=tkA_len w.fl s.at_;show (tkA w.fl s.at_).length≤k;omega,fun y hy=>g.fl.2 y (tkA_mem hy)⟩⟩
  simp only
  split
  ·exact h2.1
  ·refine WAll.arrive h2.2 h2.1 _ ?_
   split
   ·exact burstF_all hx _ _
   ·exact hx
 ·exact h
theorem WAll.power {k:Nat} {c:Cfg} {w:WSt} (g:WGd k c w) (h:WAll P c w) (s:Stp):WAll P c (w.power c s).1:=by
 unfold WSt.power
 split
 ·rename_i hh
  have hn:=h.nd s.r hh
  split
  ·exact h.upd hh (NAll.down (st:=(w.node s.r).crash) hn.1 rfl)
  ·split
   ·exact h.upd hh (hn.start (g.nd s.r hh))
   ·exact h.upd hh ⟨hn.1,hn.2⟩
 ·split
  ·split
   ·exact ⟨h.nd,h.hub,h.fl⟩
   ·split
    ·refine ⟨h.nd,?_,h.fl⟩
     show HAll P c (w.hub.start c).1
     unfold HSt.start
     split
     ·exact h.hub
     ·exact h.hub
    ·exact ⟨h.nd,h.hub,h.fl⟩
  ·exact h
theorem push_all {st:NSt} (h:st.up=true→∀ e∈st.wait,P e) (c:Cfg) (r:Int):∀ e∈(st.push c r).1.l,P e:=by
 unfold NSt.push
 split
 ·exact fun e he=>by cases he
 rename_i hu0
 have hu:st.up=true:=by cases hh:st.up with
  | true=>rfl
  | false=>exact absurd hh hu0
 split
 ·exact fun e he=>by cases he
 ·exact fun e he=>h hu e (List.mem_of_mem_take he)
theorem tell_all (st:NSt) (r k:Int):∀ e∈(st.tell r k).1.l,P e:=by
 unfold NSt.tell
 split
 ·exact fun e he=>by cases he
 ·exact fun e he=>by cases he
theorem WAll.step {k:Nat} {c:Cfg} {w:WSt} (g:WGd k c w) (h:WAll P c w) (s:Stp) (hn:s.kind=0→w.has s.r→(w.node s.r).editE c s.r s.ed=0→P ((w.node s.r).mk1 s.r s.ed)):WAll P c (w.step c s).1:=by
 unfold WSt.step
 split
 ·exact h.flight g s
 split
 ·exact h.power g s
 split
 ·exact h
 rename_i hh
 have hh:w.has s.r:=by
  by_cases hh2:w.has s.r
  ·exact hh2
  ·exact absurd hh2 hh
 have hnd:=h.nd s.r hh
 have gn:=g.nd s.r hh
 split
 ·rename_i h0;exact h.upd hh (hnd.edit gn s.ed (hn h0 hh))
 split
 ·exact h.send (push_all (fun hu=>(hnd.2 hu).2) c s.r)
 split
 ·exact h.send (tell_all _ _ _)
 split
 ·exact h.send (tell_all _ _ _)
 split
 ·exact h.upd hh (hnd.state gn)
 ·exact h
theorem WAll.mono {Q:Ev→Prop} {c:Cfg} {w:WSt} (h:WAll P c w) (hq:∀ e,P e→Q e):WAll Q c w :=
 ⟨fun r hr=>⟨fun e he=>hq e ((h.nd r hr).1 e he),fun hu=>⟨fun e he=>hq e (((h.nd r hr).2 hu).1 e he),fun e he=>hq e (((h.nd r hr).2 hu).2 e he)⟩⟩,fun s hs e he=>hq e (h.hub s hs e he),fun x hx e he=>hq e (h.fl x hx e he)⟩
theorem WAll.new (c:Cfg):WAll P c (WSt.new c):=by
 refine ⟨fun r hr=>?_,fun s hs e he=>?_,(fun x hx=>by cases hx)⟩
 ·have h1:=hr.1
  have h2:=hr.2
  have hl:(WSt.new c).nodes.length=c.n.toNat:=by unfold WSt.new;simp
  unfold WSt.node WSt.new
  have:r.toNat<c.n.toNat:=by omega
  simp only [List.getD_eq_getElem?_getD,List.getElem?_map,List.getElem?_range this,Option.map_some,Option.getD_some]
  exact ⟨(fun e he=>by cases he),fun _=>⟨(fun e he=>by cases he),(fun e he=>by cases he)⟩⟩
 ·have hs:s∈(PSt.zero c).sf:=hs
  rw [List.eq_of_mem_replicate hs] at he
  cases he
end
end
section
structure NEq (a b:NSt):Prop where
 up:a.up=b.up
 log:a.log=b.log
 sent:a.sent=b.sent
 clk:a.clk=b.clk
 held:a.held=b.held
 wait:a.wait=b.wait
 rp:replay a.recs=replay b.recs
 ca:a.cuts=false
 cb:b.cuts=false
structure WEq (w v:WSt):Prop where
 n:w.nodes.length=v.nodes.length
 nd:∀ r:Int,w.has r→NEq (w.node r) (v.node r)
 hub:w.hub=v.hub
 hc:w.hub.cuts=false
 fl:w.fl=v.fl
theorem NEq.site {a b:NSt} (h:NEq a b):a.site=b.site:=by unfold NSt.site;rw [h.up,h.clk,h.sent,h.held,h.log]
theorem WEq.has {w v:WSt} (h:WEq w v) (r:Int):w.has r↔v.has r:=by unfold WSt.has;rw [h.n]
theorem WEq.sites {w v:WSt} (h:WEq w v):w.sites=v.sites:=by
 unfold WSt.sites
 refine List.ext_getElem (by rw [List.length_map,List.length_map,h.n]) fun i h1 h2=>?_
 rw [List.length_map] at h1 h2
 have e1:=node_of h1
 have e2:=node_of h2
 rw [List.getElem_map,List.getElem_map,← e1.2,← e2.2]
 exact (h.nd i e1.1).site
theorem NEq.crash {a b:NSt} (h:NEq a b):NEq a.crash b.crash:=⟨rfl,h.log,h.sent,h.clk,h.held,h.wait,h.rp,rfl,rfl⟩
theorem NEq.start {a b:NSt} (h:NEq a b) (c:Cfg) (r:Int):(a.start c r).2=(b.start c r).2∧NEq (a.start c r).1 (b.start c r).1:=by
 unfold NSt.start
 rw [← h.up]
 split
 ·exact ⟨rfl,h⟩
 ·rw [← h.rp]
  exact ⟨rfl,⟨rfl,rfl,rfl,rfl,rfl,rfl,h.rp,rfl,rfl⟩⟩
theorem rp_snoc {a b:NSt} (h:NEq a b) (x:Rcd):replay (a.recs++[x])=replay (b.recs++[x]):=by rw [replay_snoc,replay_snoc,h.rp]
theorem NEq.edit {a b:NSt} (h:NEq a b) (c:Cfg) (r:Int) (e:Ed):(a.edit c r e).2=(b.edit c r e).2∧NEq (a.edit c r e).1 (b.edit c r e).1:=by
 have hE:a.editE c r e=b.editE c r e:=by unfold NSt.editE;rw [h.up,h.log,h.wait,h.clk]
 have hm:a.mk1 r e=b.mk1 r e:=by unfold NSt.mk1;rw [h.clk,h.log]
 unfold NSt.edit
 rw [← hE,← hm]
 split
 ·exact ⟨rfl,h⟩
 ·rw [NSt.write_f h.ca,NSt.write_f h.cb]
  simp only
  rw [if_neg (by simp),if_neg (by simp)]
  refine ⟨rfl,⟨h.up,by simp only;rw [h.log],h.sent,by simp only;rw [h.clk],h.held,by simp only;rw [h.sent,h.wait],rp_snoc h _,h.ca,h.cb⟩⟩
theorem NEq.push {a b:NSt} (h:NEq a b) (c:Cfg) (r:Int):a.push c r=b.push c r:=by unfold NSt.push;rw [h.up,h.wait]
theorem NEq.tell {a b:NSt} (h:NEq a b) (r k:Int):a.tell r k=b.tell r k:=by unfold NSt.tell;rw [h.up,h.clk]
theorem NEq.pushed {a b:NSt} (h:NEq a b) (r u:Int):(a.pushed r u).2=(b.pushed r u).2∧NEq (a.pushed r u).1 (b.pushed r u).1:=by
 unfold NSt.pushed
 simp only
 rw [← h.sent,← h.clk]
 split
 ·exact ⟨rfl,h⟩
 ·rw [NSt.write_f h.ca,NSt.write_f h.cb]
  simp only
  rw [if_neg (by simp),if_neg (by simp)]
  exact ⟨rfl,⟨h.up,h.log,by simp only;rw [h.sent,h.wait],h.clk,h.held,by simp only;rw [h.sent,h.wait],rp_snoc h _,h.ca,h.cb⟩⟩
theorem NEq.events {a b:NSt} (h:NEq a b) (c:Cfg) (r:Int) (l:List Ev):(a.eventsC c r l).2=(b.eventsC c r l).2∧NEq (a.eventsC c r l).1 (b.eventsC c r l).1:=by
 unfold NSt.eventsC
 rw [← h.clk,← h.held]
 split
 ·exact ⟨rfl,h⟩
 split
 ·exact ⟨rfl,⟨h.up,h.log,h.sent,rfl,rfl,h.wait,h.rp,h.ca,h.cb⟩⟩
 ·rw [NSt.write_f h.ca,NSt.write_f h.cb]
  simp only
  rw [if_neg (by simp),if_neg (by simp)]
  exact ⟨rfl,⟨h.up,by simp only;rw [h.log],h.sent,rfl,rfl,h.wait,rp_snoc h _,h.ca,h.cb⟩⟩
theorem NEq.take {a b:NSt} (h:NEq a b) (c:Cfg) (r:Int) (f:Rcd×Int):(a.takeC c r f).2=(b.takeC c r f).2∧NEq (a.takeC c r f).1 (b.takeC c r f).1:=by
 unfold NSt.takeC
 rw [← h.up]
 split
 ·exact ⟨rfl,h⟩
 split
 ·exact ⟨rfl,h⟩
 split
 ·exact ⟨rfl,h⟩
 split
 ·exact ⟨rfl,h⟩
 split
 ·exact h.pushed r _
 split
 ·exact h.events c r _
 ·exact ⟨rfl,h⟩
theorem WEq.upd {w v:WSt} (h:WEq w v) {r:Int} (hr:w.has r) {s t:NSt} (hs:NEq s t):WEq (w.upd r s) (v.upd r t):=by
 refine ⟨by rw [WSt.upd_len,WSt.upd_len,h.n],fun q hq=>?_,h.hub,h.hc,h.fl⟩
 have hq2:=(upd_has w r s q).1 hq
 rw [upd_node hr s q hq2.1,upd_node ((h.has r).1 hr) t q hq2.1]
 split
 ·exact hs
 ·exact h.nd q hq2
theorem hub_cuts {c:Cfg} {st:HSt} (h:st.cuts=false) (f:Rcd×Int):(st.take c f).1.cuts=false:=by
 unfold HSt.take
 split
 ·exact h
 split
 ·exact h
 split
 ·exact h
 split
 ·unfold HSt.push
  split
  ·exact h
  split
  ·exact h
  rw [HSt.write_f h]
  simp only
  rw [if_neg (by simp)]
  exact h
 split
 ·exact h
 split
 ·unfold HSt.ack
  split
  ·exact h
  split
  ·exact h
  rw [HSt.write_f h]
  simp only
  rw [if_neg (by simp)]
  exact h
 ·exact h
theorem WEq.arrive {w v:WSt} (h:WEq w v) (c:Cfg) (to:Int) (f:Rcd×Int):(w.arrive c to f).2=(v.arrive c to f).2∧WEq (w.arrive c to f).1 (v.arrive c to f).1:=by
 unfold WSt.arrive
 by_cases hh:w.has to
 ·rw [if_pos hh,if_pos ((h.has to).1 hh)]
  have hn:=(h.nd to hh).take c to f
  exact ⟨hn.1,h.upd hh hn.2⟩
 ·rw [if_neg hh,if_neg (fun k=>hh ((h.has to).2 k))]
  have h1:∀ q,w.has q↔v.has q:=h.has
  have hc:=hub_cuts (c:=c) h.hc f
  simp only [← h.hub,← h.fl,h1]
  refine ⟨trivial,?_⟩
  split
  ·exact ⟨h.n,h.nd,rfl,hc,rfl⟩
  ·exact ⟨h.n,h.nd,rfl,hc,rfl⟩
theorem WEq.flight {w v:WSt} (h:WEq w v) (c:Cfg) (s:Stp):(w.flight c s).2=(v.flight c s).2∧WEq (w.flight c s).1 (v.flight c s).1:=by
 unfold WSt.flight
 rw [← h.fl]
 split
 ·have h2:WEq (if s.kind=5 then w else { w with fl:=tkA w.fl s.at_ }) (if s.kind=5 then v else { v with fl:=tkA w.fl s.at_ }):=by
   split
   ·exact h
   ·exact ⟨h.n,h.nd,h.hub,h.hc,rfl⟩
  simp only
  split
  ·exact ⟨rfl,h2⟩
  ·exact h2.arrive c _ _
 ·exact ⟨rfl,h⟩
theorem WEq.power {w v:WSt} (h:WEq w v) (c:Cfg) (s:Stp) (hk:s.kind=8∨s.kind=9):(w.power c s).2=(v.power c s).2∧WEq (w.power c s).1 (v.power c s).1:=by
 unfold WSt.power
 by_cases hh:w.has s.r
 ·rw [if_pos hh,if_pos ((h.has s.r).1 hh)]
  have hn:=h.nd s.r hh
  split
  ·exact ⟨rfl,h.upd hh hn.crash⟩
  ·rename_i h8
   have h9:s.kind=9:=by omega
   rw [if_pos h9,if_pos h9]
   have hs:=hn.start c s.r
   exact ⟨hs.1,h.upd hh hs.2⟩
 ·rw [if_neg hh,if_neg (fun k=>hh ((h.has s.r).2 k))]
  split
  ·split
   ·exact ⟨rfl,⟨h.n,h.nd,by simp only;rw [h.hub],rfl,h.fl⟩⟩
   ·rename_i h8
    have h9:s.kind=9:=by omega
    rw [if_pos h9,if_pos h9,← h.hub]
    refine ⟨rfl,⟨h.n,h.nd,rfl,?_,h.fl⟩⟩
    show (w.hub.start c).1.cuts=false
    unfold HSt.start
    split
    ·exact h.hc
    ·rfl
  ·exact ⟨rfl,h⟩
theorem WEq.send {w v:WSt} (h:WEq w v) (p:Rcd×Int):(w.send p).2=(v.send p).2∧WEq (w.send p).1 (v.send p).1:=by
 unfold WSt.send
 refine ⟨rfl,?_⟩
 simp only
 split
 ·exact ⟨h.n,h.nd,h.hub,h.hc,by simp only;rw [h.fl]⟩
 ·exact h
theorem WEq.step {w v:WSt} (h:WEq w v) (c:Cfg) (s:Stp) (h10:s.kind≠10) (h11:s.kind≠11):(w.step c s).2=(v.step c s).2∧WEq (w.step c s).1 (v.step c s).1:=by
 unfold WSt.step
 split
 ·exact h.flight c s
 split
 ·exact h.power c s rM
 by_cases hh:w.has s.r
 ·rw [if_neg (show ¬ ¬ w.has s.r from fun k=>k hh),if_neg (show ¬ ¬ v.has s.r from fun k=>k ((h.has s.r).1 hh))]
  have hn:=h.nd s.r hh
  split
  ·have he:=hn.edit c s.r s.ed
   exact ⟨he.1,h.upd hh he.2⟩
  split
  ·rw [← hn.push];exact h.send _
  split
  ·rw [← hn.tell];exact h.send _
  split
  ·rw [← hn.tell];exact h.send _
  exact ⟨rfl,h⟩
 ·rw [if_pos hh,if_pos (show ¬ v.has s.r from fun k=>hh ((h.has s.r).2 k))]
  exact ⟨rfl,h⟩
theorem NEq.state {k:Nat} {c:Cfg} {r:Int} {a b:NSt} (g:NGd k c r a) (h:NEq a b) (hl0:b.up=true→a.log.length≤4096):(a.state r).2=(if b.up=true then 0 else 18)∧NEq (a.state r).1 b:=by
 unfold NSt.state
 rw [h.up]
 by_cases hu:b.up=true
 ·have hl:=hl0 hu
  rw [if_neg (by rw [hu];simp),if_neg rM,NSt.write_f h.ca]
  simp only
  rw [if_neg (by simp),if_pos hu]
  refine ⟨rfl,⟨h.up,h.log,h.sent,h.clk,h.held,h.wait,?_,h.ca,h.cb⟩⟩
  simp only
  rw [replay_snoc,← h.rp]
  have hrp:=(g.up (h.up.trans hu)).2
  rw [hrp]
  rfl
 ·have hf:b.up=false:=by cases hb:b.up with
   | false=>rfl
   | true=>exact absurd hb hu
  rw [if_pos hf,if_neg hu]
  exact ⟨rfl,h⟩
theorem WEq.state {k:Nat} {c:Cfg} {w v:WSt} (g:WGd k c w) (h:WEq w v) (s:Stp) (h11:s.kind=11) (hr:w.has s.r) (hl:(v.node s.r).up=true→(w.node s.r).log.length≤4096):(w.step c s).2=(if (v.node s.r).up=true then 0 else 18)∧WEq (w.step c s).1 v:=by
 unfold WSt.step
 rw [if_neg rM,if_neg rM,if_neg (fun k=>k hr),if_neg rM,if_neg rM,if_neg rM,if_neg rM,if_pos h11]
 have hs:=(h.nd s.r hr).state (g.nd s.r hr) hl
 refine ⟨hs.1,?_⟩
 refine ⟨by rw [WSt.upd_len,h.n],fun q hq=>?_,h.hub,h.hc,h.fl⟩
 have hq2:=(upd_has w s.r _ q).1 hq
 rw [upd_node hr _ q hq2.1]
 split
 ·rename_i e;rw [e];exact hs.2
 ·exact h.nd q hq2
theorem WEq.refl {w:WSt} (hn:∀ r,w.has r→(w.node r).cuts=false) (hh:w.hub.cuts=false):WEq w w :=
 ⟨rfl,fun r hr=>⟨rfl,rfl,rfl,rfl,rfl,rfl,rfl,hn r hr,hn r hr⟩,rfl,hh,rfl⟩
theorem WEq.new (c:Cfg):WEq (WSt.new c) (WSt.new c):=by
 refine WEq.refl (fun r hr=>?_) rfl
 have h1:=hr.1
 have h2:=hr.2
 have hl:(WSt.new c).nodes.length=c.n.toNat:=by unfold WSt.new;simp
 unfold WSt.node WSt.new
 have:r.toNat<c.n.toNat:=by omega
 simp only [List.getD_eq_getElem?_getD,List.getElem?_map,List.getElem?_range this,Option.map_some,Option.getD_some]
 rfl
theorem clk_num (log:List Ev) (hn:NumOk log) (h5:∀ e∈log,0≤e.r∧e.r<5) (m:Int) (h0:0≤m) (hm:∀ e∈log,e.n≤m):∀ i,i<5→(clkOfLog log).get i≤m:=by
 induction log using snoc_ind with
 | h0=>intro i hi;rw [show (clkOfLog []).get i=0 from zero_get _];exact h0
 | hs l e ih =>
  intro i hi
  obtain ⟨hn1,hn2⟩:=NumOk.app.1 hn
  have hn3:e.n=(clkOfLog l).get e.r.toNat+1:=hn2.1
  have:=ih hn1 (fun x hx=>h5 x (by simp [hx])) (fun x hx=>hm x (by simp [hx])) i hi
  have hme:=hm e (by simp)
  rw [clkOfLog_snoc,clkStep_get _ _ (h5 e (by simp))]
  split
  ·rename_i he;rw [← he];omega
  ·exact this
theorem log_sum (log:List Ev) (h5:∀ e∈log,0≤e.r∧e.r<5):(log.length:Int)=(clkOfLog log).get 0+(clkOfLog log).get 1+(clkOfLog log).get 2+(clkOfLog log).get 3+(clkOfLog log).get 4:=by
 induction log using snoc_ind with
 | h0=>rfl
 | hs l e ih =>
  have:=ih (fun x hx=>h5 x (by simp [hx]))
  have he:=h5 e (by simp)
  have hc:∀ j,(clkOfLog (l++[e])).get j=if e.r.toNat=j then (clkOfLog l).get j+1 else (clkOfLog l).get j:=fun j=>by rw [clkOfLog_snoc,clkStep_get _ _ he]
  rw [hc,hc,hc,hc,hc,List.length_append,List.length_singleton]
  have:e.r.toNat=0∨e.r.toNat=1∨e.r.toNat=2∨e.r.toNat=3∨e.r.toNat=4:=by omega
  rcases this with h | h | h | h | h <;> rw [h] <;> simp <;> omega
theorem log_bound {k:Nat} {c:Cfg} {r:Int} {st:NSt} (g:NGd k c r st) (hu:st.up=true) {m:Int} (h0:0≤m) (h:NAll (fun e=>e.n≤m) st):(st.log.length:Int)≤5 * m∧st.clk.get r.toNat≤m:=by
 have hrp:=(g.up hu).2
 have h1:=g.dur.num
 have h2:=Ev.May.r5 g.dur.revs
 have h3:=h.1
 rw [hrp] at h1 h2 h3
 have hc:=clk_num st.log h1 h2 m h0 h3
 have hl:=log_sum st.log h2
 have c0:=hc 0 rM
 have c1:=hc 1 rM
 have c2:=hc 2 rM
 have c3:=hc 3 rM
 have c4:=hc 4 rM
 have h5:=g.r5
 exact ⟨by omega,by rw [g.clk hu];exact hc _ rM⟩
theorem WAll.stepN {k:Nat} {c:Cfg} {w:WSt} {m:Int} (g:WGd k c w) (h0:0≤m) (h:WAll (fun e=>e.n≤m) c w) (s:Stp):WAll (fun e=>e.n≤m+1) c (w.step c s).1:=by
 have h1:WAll (fun e=>e.n≤m+1) c w:=⟨fun r hr=>⟨(fun e he=>by have:e.n≤m:=(h.nd r hr).1 e he;show e.n≤m+1;omega),fun hu=>⟨(fun e he=>by have:e.n≤m:=((h.nd r hr).2 hu).1 e he;show e.n≤m+1;omega),(fun e he=>by have:e.n≤m:=((h.nd r hr).2 hu).2 e he;show e.n≤m+1;omega)⟩⟩,(fun s hs e he=>by have:e.n≤m:=h.hub s hs e he;show e.n≤m+1;omega),(fun x hx e he=>by have:e.n≤m:=h.fl x hx e he;show e.n≤m+1;omega)⟩
 refine h1.step g s fun _ hr hE=>?_
 have hu:(w.node s.r).up=true:=by
  cases hh:(w.node s.r).up with
  | true=>rfl
  | false=>unfold NSt.editE at hE;rw [if_pos hh] at hE;cases hE
 have:=(log_bound (g.nd s.r hr) hu h0 (h.nd s.r hr)).2
 show (w.node s.r).clk.get s.r.toNat+1≤m+1
 omega
end
section
theorem fewS_in (n:Int) (l:List Stp) (h:∀ s∈l,s.In):∀ s∈fewS n l,s.Ok:=by
 intro s hs
 unfold fewS at hs
 obtain ⟨x,hx,rfl⟩:=List.mem_map.1 hs
 have h1:=h x (List.mem_of_mem_take hx)
 have h2:=fit_lens x.ed
 exact ⟨h1.bit,h1.mask,by show x.ed.fit.key.length≤_;omega,by show x.ed.fit.value.length≤_;omega⟩
theorem fewS_length (n:Int) (l:List Stp):(fewS n l).length≤60:=by unfold fewS;rw [List.length_map,List.length_take];omega
theorem fewS_r {n:Int} (hn:1≤n) (l:List Stp):∀ s∈fewS n l,(0≤s.kind∧s.kind<12)∧(s.kind<8∨s.kind=11→0≤s.r∧s.r<n)∧(0≤s.r∧s.r<n∨s.r=5)∧s.ed.err=0:=by
 intro s hs
 unfold fewS at hs
 obtain ⟨x,hx,rfl⟩:=List.mem_map.1 hs
 have h1:=tmod_bd x.r (n+1) rM
 have hm:=Int.emod_nonneg (x.r.tmod (n+1)+n+1) (show n+1≠0 by omega)
 have hm2:=Int.emod_lt_of_pos (x.r.tmod (n+1)+n+1) (show 0<n+1 by omega)
 have hf:fitR x n=(x.r.tmod (n+1)+n+1) % (n+1):=rfl
 rw [← hf] at hm hm2
 have hk:(fitS n x).kind=(x.kind.tmod 12+12) % 12:=rfl
 have hr:(fitS n x).r=if fitR x n=n then (if (x.kind.tmod 12+12) % 12<8∨(x.kind.tmod 12+12) % 12=11 then 0 else 5) else fitR x n:=rfl
 rw [hk,hr]
 refine ⟨by omega,fun hkk=>?_,?_,fit_err x.ed⟩
 ·split <;> omega
 ·split
  ·split
   ·left;omega
   ·right;rfl
  ·left;omega
set_option maxRecDepth 20000 attribute [local irreducible] Ex ExL Fn thn inb rnd fin meet Tab Mix mxEnd Val Sats RdT Rd RowT Row Blk Sub Fac ResV RVal Evs subs subs3 Hid Capd
section
attribute [local irreducible] Star NodeA HubA LkA nodesA WldA SiteV.own Lst.own wS
theorem topStates_F (c0:Cfg) (v1:Value) (l:List Stp) (M:List Assn) (hr:RdT M v1 l) (o1:v1.oneCell'=true) (hl:l.length≤140737488351232) (hs:∀ s∈l,s.In) :
  Fn Tryz.prog 7 #[.agg (Rep.cells c0).toArray,v1] M fun v L'=>v=.bool true∧L'=M:=by
 obtain ⟨c,hc⟩:∃ c,c=fitC c0:=⟨_,rfl⟩
 have hm:c.May:=by rw [hc];exact fitC_may c0
 have hcn:=hm.n
 obtain ⟨N,hcN⟩:∃ N:Nat,c.n=N:=⟨c.n.toNat,by omega⟩
 refine Fn.of_ex Tryz.func7 rfl Tryz.ntmps7 rfl ?_
 (refine rn ?_;(repeat (first | intro (g:Nat) | intro (v:Value) | intro h)))
 refine st_callIs [] rJ Tryz.call10 rJ rJ (shown_F _) ?_
 rintro _ _ ⟨rfl,rfl⟩
 (refine rn ?_;(repeat (first | intro (g:Nat) | intro (v:Value) | intro h)))
 refine st_callIs [] rJ Tryz.call11 rJ rJ (fitC_F c0 _) ?_
 rintro _ _ ⟨rfl,rfl⟩
 rw [← hc]
 (refine rn ?_;(repeat (first | intro (g:Nat) | intro (v:Value) | intro h)))
 revert g
 intro g6
 refine st_callIs [] rJ Tryz.call21 rJ rJ (wNewA c _ hm) ?_
 rintro _ _ ⟨gw,rfl,rfl⟩
 have g0:=WGd.new hm
 (refine rn ?_;(repeat (first | intro (g:Nat) | intro (v:Value) | intro h)))
 refine st_callIs [] rJ Tryz.call21 rJ rJ (wNewA c _ hm) ?_
 rintro _ _ ⟨gv,rfl,rfl⟩
 (refine rn ?_;(repeat (first | intro (g:Nat) | intro (v:Value) | intro h)))
 rw [hcN]
 refine st_callIs [] rJ Tryz.call13 rJ rJ (few_F v1 l N _ rD o1 rM rM (fun s h=>⟨by have:=(hs s h).key;omega,by have:=(hs s h).value;omega⟩)) ?_
 rintro v11 _ ⟨o11,rfl⟩
 have hok:=fewS_in N l hs
 have hlen:=fewS_length N l
 have hfr:=fewS_r (n:=N) rM l
 obtain ⟨S0,hS⟩:∃ S0,S0=fewS N l:=⟨_,rfl⟩
 rw [← hS] at hok hlen hfr ⊢
 (refine rn ?_;(repeat (first | intro (g:Nat) | intro (v:Value) | intro h)))
 refine Ex.sub (L':=WldA gw c (WSt.new c)::WldA gv c (WSt.new c)::Blk g6 23 (Rep.cells c)::RowT v11 29 S0::M) ?_ rP
 have hA0:WAll (fun e=>e.n≤((0:Nat):Int)) c (WSt.new c):=WAll.new c
 refine Ex.loop [12] (fun z vs L'=>∃ (j:Nat) (w v:WSt),j≤S0.length∧z=S0.length - j∧WGd j c w∧WGd j c v∧WEq w v∧WAll (fun e=>e.n≤(j:Int)) c w∧vs=[.int .i64 j]∧L'=WldA gw c w::WldA gv c v::Blk g6 23 (Rep.cells c)::RowT v11 29 S0::M) S0.length ⟨0,WSt.new c,WSt.new c,by omega,rfl,g0,g0,WEq.new c,hA0,rfl,rfl⟩ ?_
 rintro z vs g1 L1 ⟨j,w,v,hj,rfl,gj,gvj,hwe,hall,rfl,rfl⟩
 refine Ex.keep [6,7,9,11,12] rG (fun gk=>?_)
 by_cases hlt:j<S0.length
 ·have hsj:=hok (S0[j]'hlt) (List.getElem_mem hlt)
  have hfj:=hfr (S0[j]'hlt) (List.getElem_mem hlt)
  have okw:WOk 198 c w:=(gj.mono rM).ok rM
  have okv:WOk 198 c v:=(gvj.mono rM).ok rM
  by_cases h10:(S0[j]'hlt).kind=10
  ·(refine rn ?_;(repeat (first | intro (g:Nat) | intro (v:Value) | intro h)))
   refine rnd_n ⟨S0.length - (j+1),WldA gw c w::WldA gv c v::Blk g6 23 (Rep.cells c)::RowT v11 29 S0::M,by omega,rP,j+1,w,v,by omega,rfl,gj.mono rM,gvj.mono rM,hwe,hall.mono (fun e he=>by show e.n≤((j+1:Nat):Int);have:e.n≤(j:Int):=he;omega),lcons (vint rM) rfl,rfl⟩
  ·have gw2:=gj.step rM (S0[j]'hlt)
   have gv2:=gvj.step rM (S0[j]'hlt)
   have hall2:=hall.stepN gj rM (S0[j]'hlt)
   (refine rn ?_;(repeat (first | intro (g:Nat) | intro (v:Value) | intro h)))
   refine st_callIs [] rJ Tryz.call17 rE rJ (wStepA (k:=198) gw c w (S0[j]'hlt) _ okw (Nat.le_refl _) hsj) ?_
   rintro _ _ ⟨rfl,rfl⟩
   refine ExL.claim 1 [6,7,9,11,12] (fun vs L'=>∃ w2 v2:WSt,WGd (j+1) c w2∧WGd (j+1) c v2∧WEq w2 v2∧WAll (fun e=>e.n≤((j+1:Nat):Int)) c w2∧vs=[ptrV g6,ptrV gw,ptrV gv,v11,.int .i64 j]∧L'=WldA gw c w2::WldA gv c v2::Blk g6 23 (Rep.cells c)::RowT v11 29 S0::M) ?_ ?_
   ·rintro vs g L' ⟨w2,v2,gw2,gv2,hwe2,hall2,rfl,rfl⟩
    have okw2:WOk 198 c w2:=(gw2.mono rM).ok rM
    have okv2:WOk 198 c v2:=(gv2.mono rM).ok rM
    have hn2:=gw2.n
    have hn3:=gv2.n
    have hsi:=hwe2.sites
    (refine rn ?_;(repeat (first | intro (v:Value) | intro h)))
    refine Ex.mixA 24 [Blk g6 23 (Rep.cells c)] rfl rQ (Fac.of (Sub.pick 2 rfl (Sub.nilL _))) ?_
    (repeat' (first | (refine m1 ?_;(repeat (first | intro (v:Value) | intro h))) | (refine mx_gsplit rJ rJ rJ (fun h=>?_) (fun h=>?_) <;> try (exfalso;omega))))
    (refine mx_act rJ rJ rJ ?_;refine st_callIs [] rJ Tryz.call15 rE rJ (wHubA (k:=198) gw c w2 _ okw2 (Nat.le_refl _)) ?_)
    rintro _ _ ⟨rfl,rfl⟩
    refine ExL.nil ?_
    refine mxEnd_n (Fac.of (Sub.pick 2 rfl (Sub.nilL _))) ?_
    (repeat' (first | (refine m1 ?_;(repeat (first | intro (v:Value) | intro h))) | (refine mx_gsplit rJ rJ rJ (fun h=>?_) (fun h=>?_) <;> try (exfalso;omega))))
    (refine mx_act rJ rJ rJ ?_;refine st_callIs [1] rJ Tryz.call15 rE rJ (wHubA (k:=198) gv c v2 _ okv2 (Nat.le_refl _)) ?_)
    rintro _ _ ⟨rfl,rfl⟩
    rw [← hwe2.hub]
    generalize w2.hub.siteU=hs
    refine ExL.nil ?_
    refine mxEnd_n (Fac.of (Sub.pick 2 rfl (Sub.nilL _))) ?_
    (repeat' (first | (refine m1 ?_;(repeat (first | intro (v:Value) | intro h))) | (refine mx_gsplit rJ rJ rJ (fun h=>?_) (fun h=>?_) <;> try (exfalso;omega))))
    (refine mx_act rJ rJ rJ ?_;refine st_callIs [1] rJ Tryz.call30 rE rJ (wFlyingA gw c w2 _) ?_)
    rintro _ _ ⟨rfl,rfl⟩
    refine ExL.nil ?_
    refine mxEnd_n (Fac.of (Sub.pick 2 rfl (Sub.nilL _))) ?_
    (repeat' (first | (refine m1 ?_;(repeat (first | intro (v:Value) | intro h))) | (refine mx_gsplit rJ rJ rJ (fun h=>?_) (fun h=>?_) <;> try (exfalso;omega))))
    (refine mx_act rJ rJ rJ ?_;refine st_callIs [1] rJ Tryz.call30 rE rJ (wFlyingA gv c v2 _) ?_)
    rintro _ _ ⟨rfl,rfl⟩
    rw [← hwe2.fl]
    refine ExL.nil ?_
    refine mxEnd_n (Fac.of (Sub.pick 2 rfl (Sub.nilL _))) ?_
    (repeat' (first | (refine m1 ?_;(repeat (first | intro (v:Value) | intro h))) | (refine mx_gsplit rJ rJ rJ (fun h=>?_) (fun h=>?_) <;> try (exfalso;omega))))
    rw [hcN]
    (refine mx_act rJ rJ rJ ?_;refine st_callIs [1] rJ Tryz.call16 rE rJ (standing_F (k:=198) gw c w2 _ okw2 (Nat.le_refl _) N rM) ?_)
    rintro va _ ⟨ssa,oa,hssa,rfl⟩
    refine ExL.nil ?_
    refine mxEnd_n (Fac.of (Sub.pick 4 rfl (Sub.nilL _))) ?_
    (repeat' (first | (refine m1 ?_;(repeat (first | intro (v:Value) | intro h))) | (refine mx_gsplit rJ rJ rJ (fun h=>?_) (fun h=>?_) <;> try (exfalso;omega))))
    rw [hcN]
    (refine mx_act rJ rJ rJ ?_;refine st_callIs [3] rJ Tryz.call16 rE rJ (standing_F (k:=198) gv c v2 _ okv2 (Nat.le_refl _) N rM) ?_)
    rintro vb _ ⟨ssb,ob,hssb,rfl⟩
    refine ExL.nil ?_
    refine mxEnd_n (Fac.of (Sub.pick 6 rfl (Sub.nilL _))) ?_
    (repeat' (first | (refine m1 ?_;(repeat (first | intro (v:Value) | intro h))) | (refine mx_gsplit rJ rJ rJ (fun h=>?_) (fun h=>?_) <;> try (exfalso;omega))))
    have hsl:ssa.length=ssb.length:=by
     have a1:=congrArg List.length hssa
     have a2:=congrArg List.length hssb
     rw [List.length_map] at a1 a2
     rw [a1,a2,hsi]
    have hs5:ssa.length≤5:=by
     have a2:=congrArg List.length hssa
     unfold WSt.sites at a2
     rw [List.length_map,List.length_map] at a2
     omega
    have hlna:=okw2.lens (Nat.le_refl _)
    have hlnb:=okv2.lens (Nat.le_refl _)
    rw [← hssa] at hlna
    rw [← hssb] at hlnb
    (refine mx_act rJ rJ rJ ?_;refine st_callIs [4,4,1,1] rJ Tryz.call19 rE rJ (same_F va vb ssa ssb _ hsl hs5 hlna hlnb) ?_)
    rintro _ _ ⟨rfl,rfl⟩
    rw [decide_eq_true (show ssa.map SiteV.p=ssb.map SiteV.p by rw [hssa,hssb,hsi])]
    refine ExL.nil ?_
    refine mxEnd_n (Fac.of (Sub.pick 6 rfl (Sub.nilL _))) ?_
    (repeat' (first | (refine m1 ?_;(repeat (first | intro (v:Value) | intro h))) | (refine mx_gsplit rJ rJ rJ (fun h=>?_) (fun h=>?_) <;> try (exfalso;omega))))
    (refine rn ?_;(repeat (first | intro (v:Value) | intro h)))
    refine rnd_n ⟨S0.length - (j+1),WldA gw c w2::WldA gv c v2::Blk g6 23 (Rep.cells c)::RowT v11 29 S0::M,by omega,rP,j+1,w2,v2,by omega,rfl,gw2,gv2,hwe2,hall2,lcons (vint rM) rfl,rfl⟩
   ·intro HC
    by_cases h11:(S0[j]'hlt).kind=11
    ·have hrr:=hfj.2.1 (.inr h11)
     have hgn:=gj.n
     have hh:w.has (S0[j]'hlt).r:=⟨hrr.1,by omega⟩
     have hhv:v.has (S0[j]'hlt).r:=(hwe.has _).1 hh
     have hlog:(v.node (S0[j]'hlt).r).up=true→(w.node (S0[j]'hlt).r).log.length≤4096:=fun hu=>by
      have:=(log_bound (gj.nd _ hh) (by rw [(hwe.nd _ hh).up];exact hu) rM (hall.nd _ hh)).1
      omega
     obtain ⟨hst,hwe2⟩:=hwe.state gj (S0[j]'hlt) h11 hh hlog
     have hup:(v.node (S0[j]'hlt).r).site.up=(v.node (S0[j]'hlt).r).up:=by unfold NSt.site;split <;> simp_all [SiteP.zero]
     by_cases hu:(v.node (S0[j]'hlt).r).up=true
     ·rw [if_pos hu] at hst
      have hup2:(v.node (S0[j]'hlt).r).site.up=true:=by rw [hup];exact hu
      rw [hst]
      (refine rn ?_;(repeat (first | intro (v:Value) | intro h)))
      refine st_callIs [1] rJ Tryz.call22 rE rJ (wSiteA (k:=198) gv c v (S0[j]'hlt).r _ okv (Nat.le_refl _) hhv) ?_
      rintro _ _ ⟨u1,u2,ou1,ou2,rfl,rfl⟩
      generalize (v.node (S0[j]'hlt).r).site=sp at hup2 ⊢
      obtain ⟨b,s1,s2,s3,s4⟩:=sp
      obtain rfl:b=true:=hup2
      refine ExL.val rJ rJ rJ (vl_field1V rJ rJ rJ rJ rJ) ?_
      (refine rn ?_;(repeat (first | intro (v:Value) | intro h)))
      exact HC _ _ ⟨_,rP,_,_,gw2,gvj.mono rM,hwe2,hall2,rfl,rfl⟩
     ·rw [if_neg hu] at hst
      have hup2:(v.node (S0[j]'hlt).r).site.up=false:=by rw [hup];simpa using hu
      rw [hst]
      (refine rn ?_;(repeat (first | intro (v:Value) | intro h)))
      refine st_callIs [1] rJ Tryz.call22 rE rJ (wSiteA (k:=198) gv c v (S0[j]'hlt).r _ okv (Nat.le_refl _) hhv) ?_
      rintro _ _ ⟨u1,u2,ou1,ou2,rfl,rfl⟩
      generalize (v.node (S0[j]'hlt).r).site=sp at hup2 ⊢
      obtain ⟨b,s1,s2,s3,s4⟩:=sp
      obtain rfl:b=false:=hup2
      refine ExL.val rJ rJ rJ (vl_field1V rJ rJ rJ rJ rJ) ?_
      (refine rn ?_;(repeat (first | intro (v:Value) | intro h)))
      exact HC _ _ ⟨_,rP,_,_,gw2,gvj.mono rM,hwe2,hall2,rfl,rfl⟩
    ·have hst:=hwe.step c (S0[j]'hlt) h10 h11
     rw [hst.1]
     (refine rn ?_;(repeat (first | intro (v:Value) | intro h)))
     refine st_callIs [1] rJ Tryz.call17 rE rJ (wStepA (k:=198) gv c v (S0[j]'hlt) _ okv (Nat.le_refl _) hsj) ?_
     rintro _ _ ⟨rfl,rfl⟩
     (refine rn ?_;intros)
     exact HC _ _ ⟨_,rP,_,_,gw2,gv2,hst.2,hall2,rfl,rfl⟩
 ·obtain rfl:j=S0.length:=by omega
  exact re1
end
end
section
open Go.ChangeShapes Go.WideShapes Go.ChangeAt Go.RowKit
set_option maxRecDepth 20000 in
theorem topStates_j2:(laidOutB Tryz.prog)=true:=by kernel_rfl
set_option maxRecDepth 20000 in
theorem topStates_j3:(mapsRowed Tryz.prog)=true:=by kernel_rfl
set_option maxRecDepth 20000 in
theorem topStates_j5:(namedTie Tryz.prog Rows.topStatesRow.named Rows.topStatesSpec.vars)=true:=by kernel_rfl
set_option maxRecDepth 20000 in
theorem topStates_j10:((Rows.topStatesRow.inPlace == Tryz.prog.inPlace 7))=true:=by kernel_rfl
set_option maxRecDepth 20000 in
theorem topStates_j11:((Rows.topStatesRow.unfollowed == Tryz.prog.unfollowed 7))=true:=by kernel_rfl
set_option maxRecDepth 20000 in
theorem topStates_j12:((Rows.topStatesRow.recurses == Tryz.prog.recurses 7))=true:=by kernel_rfl
set_option maxRecDepth 20000 in
theorem topStates_j13:((Rows.topStatesRow.named == Tryz.prog.varsNamed 7))=true:=by kernel_rfl
set_option maxRecDepth 20000 in
theorem topStates_j23:((Rows.topStatesRow.plainKeys == Tryz.prog.plainKeys))=true:=by kernel_rfl
set_option maxRecDepth 20000 in
theorem topStates_j27:((Rows.topStatesRow.lifted == Tryz.prog.liftsFinal))=true:=by kernel_rfl
theorem topStates_bt {a b:Bool} (h:a=true) (k:b=true):(a && b)=true:=by rw [h,k];rfl
set_option maxRecDepth 20000 in
theorem topStates_jf:joinedFacts Tryz.prog 7 Tryz.f7 Rows.topStatesSpec Rows.topStatesRow=true:=by
 unfold joinedFacts
 exact (topStates_bt (topStates_bt (topStates_bt (topStates_bt (topStates_bt (topStates_bt (topStates_bt (topStates_bt (topStates_bt (topStates_bt (topStates_bt (topStates_bt (topStates_bt (topStates_bt (topStates_bt (topStates_bt (topStates_bt (topStates_bt (topStates_bt (topStates_bt (topStates_bt (topStates_bt (topStates_bt (topStates_bt (topStates_bt (topStates_bt (topStates_bt (topStates_bt (topStates_bt (topStates_bt (topStates_bt rQ topStates_j2) topStates_j3) rQ) topStates_j5) rQ) rQ) rQ) rQ) topStates_j10) topStates_j11) topStates_j12) topStates_j13) rQ) rQ) rQ) rQ) rQ) rQ) rQ) rQ) rQ) topStates_j23) rQ) rQ) rQ) topStates_j27) rQ) rQ) rQ) rQ) rQ)
set_option maxRecDepth 20000 in
theorem topStates_in:Tryz.f7.isInstance Tryz.prog Rows.topStatesRow.origin Rows.topStatesRow.targs:=of_decide_eq_true rQ
set_option maxRecDepth 20000 in
theorem topStates_wr:Tryz.f7.isWrapper Tryz.prog Rows.topStatesRow.wrapper Rows.topStatesRow.mainSum:=by unfold Func.isWrapper;first | (rw [if_pos (by decide +kernel)];kernel_rfl) | (rw [if_neg (by decide +kernel)];exact ⟨rfl,rfl⟩)
end
end Go.Proofs.YtogcfijlhpaeeaaGreat
