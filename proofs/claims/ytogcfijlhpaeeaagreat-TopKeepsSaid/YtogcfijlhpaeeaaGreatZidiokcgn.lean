/- Texts, one behind the other. No condition. -/
import Derived.Test.YtogcfijlhpaeeaaGreatChecked
import Derived.Test.YtogcfijlhpaeeaaGreatRows
import Derived.Test.YtogcfijlhpaeeaaGreatZbndogacj
import Derived.Test.YtogcfijlhpaeeaaGreatZdfampcdg
import Derived.Test.YtogcfijlhpaeeaaGreatZehjcikgl
import Derived.Test.YtogcfijlhpaeeaaGreatZmnaoofmf
open Go.RowKit
set_option linter.unusedSimpArgs false
set_option linter.unusedVariables false
set_option linter.unusedSectionVars false
set_option maxHeartbeats 32000000
namespace Go.Proofs.YtogcfijlhpaeeaaGreat
section
section
variable {P:Ev→Prop}
def NAll (P:Ev→Prop) (st:NSt):Prop:=(∀ e∈(replay st.recs).1,P e)∧(st.up=true→(∀ e∈st.held,P e)∧∀ e∈st.wait,P e)
def HAll (P:Ev→Prop) (c:Cfg) (st:HSt):Prop:=∀ s∈(hreplay c st.recs).sf,∀ e∈s.all,P e
structure WAll (P:Ev→Prop) (c:Cfg) (w:WSt):Prop where
 nd:∀ r:Int,w.has r→NAll P (w.node r)
 hub:HAll P c w.hub
 fl:∀ x∈w.fl,∀ e∈x.2.l,P e
theorem write_recs (st:NSt) (x:Rcd):(st.write x).1.recs=st.recs∨(st.write x).1.recs=st.recs++[x]:=by
 unfold NSt.write
 split
 ·simp only
  split
  ·exact .inr rfl
  ·exact .inl rfl
 ·exact .inr rfl
theorem hwrite_recs (st:HSt) (x:Rcd):(st.write x).1.recs=st.recs∨(st.write x).1.recs=st.recs++[x]:=by
 unfold HSt.write
 split
 ·simp only
  split
  ·exact .inr rfl
  ·exact .inl rfl
 ·exact .inr rfl
theorem NAll.down {st:NSt} (h:∀ e∈(replay st.recs).1,P e) (hd:st.up=false):NAll P st:=⟨h,fun hu=>by rw [hd] at hu;cases hu⟩
theorem all_write {st:NSt} {x:Rcd} (h:∀ e∈(replay st.recs).1,P e) (hx:∀ e∈(rpStep (replay st.recs) x).1,P e):∀ e∈(replay (st.write x).1.recs).1,P e:=by
 rcases write_recs st x with hr | hr
 ·rw [hr];exact h
 ·rw [hr,replay_snoc];exact hx
theorem NAll.start {k:Nat} {c:Cfg} {r:Int} {st:NSt} (g:NGd k c r st) (h:NAll P st):NAll P (st.start c r).1:=by
 unfold NSt.start
 split
 ·exact h
 ·have h5:=g.r5
  have hq:=g.cm.q
  obtain ⟨o1,o2⟩:=outOf_len c.q r (replay st.recs).2 h5 g.dur.rsent.1 _ g.dur.num (Ev.May.r5 g.dur.revs) g.dur.rsent.2.2 rM
  exact ⟨h.1,fun _=>⟨(fun e he=>by cases he),fun e he=>h.1 e (o2 e he).1⟩⟩
theorem addR_mem {q s:Int} {w:List Ev} {e y:Ev} (h:y∈(addR q s w e).2):y∈w∨y=e:=by
 unfold addR at h
 split at h
 ·exact .inl h
 ·split at h
  ·rcases List.mem_append.1 h with h | h
   ·exact .inl h
   ·simp at h;exact .inr h
  ·exact .inl h
theorem NAll.edit {k:Nat} {c:Cfg} {r:Int} {st:NSt} (g:NGd k c r st) (h:NAll P st) (e:Ed) (hn:st.editE c r e=0→P (st.mk1 r e)):NAll P (st.edit c r e).1:=by
 unfold NSt.edit
 by_cases hE:st.editE c r e≠0
 ·rw [if_pos hE];exact h
 rw [if_neg hE]
 have hE:st.editE c r e=0:=by simpa using hE
 have hu:st.up=true:=by
  cases hh:st.up with
  | true=>rfl
  | false=>unfold NSt.editE at hE;rw [if_pos hh] at hE;cases hE
 have hP:=hn hE
 have hrp:=(g.up hu).2
 have hx:∀ y∈(rpStep (replay st.recs) (rcEv 1 r [st.mk1 r e])).1,P y:=by
  rw [hrp]
  show ∀ y∈st.log++[st.mk1 r e],P y
  intro y hy
  have h1:=h.1
  rw [hrp] at h1
  rcases List.mem_append.1 hy with hy | hy
  ·exact h1 y hy
  ·simp at hy;rw [hy];exact hP
 have hw:=all_write h.1 hx
 split
 ·rename_i hwe;exact NAll.down hw (((st.write_up _).2 hwe))
 ·rename_i hwe
  have hwe:(st.write (rcEv 1 r [st.mk1 r e])).2=0:=by simpa using hwe
  rw [write_same hwe] at hw ⊢
  exact ⟨hw,fun _=>⟨(h.2 hu).1,fun y hy=>(addR_mem hy).elim ((h.2 hu).2 y) (fun e=>e ▸ hP)⟩⟩
theorem NAll.state {k:Nat} {c:Cfg} {r:Int} {st:NSt} (g:NGd k c r st) (h:NAll P st):NAll P (st.state r).1:=by
 unfold NSt.state
 split
 ·exact h
 rename_i hu0
 have hu:st.up=true:=by cases hh:st.up with
  | true=>rfl
  | false=>exact absurd hh hu0
 split
 ·exact h
 have hrp:=(g.up hu).2
 have hl:∀ y∈st.log,P y:=by have:=h.1;rw [hrp] at this;exact this
 have hw:=all_write (x:=⟨4,r,st.sent,Clk.zero,st.log⟩) h.1 hl
 split
 ·rename_i hwe;exact NAll.down hw (((st.write_up _).2 hwe))
 ·rename_i hwe
  have hwe:(st.write ⟨4,r,st.sent,Clk.zero,st.log⟩).2=0:=by simpa using hwe
  simp only
  rw [write_same hwe] at hw ⊢
  exact ⟨hw,h.2⟩
theorem NAll.take {k:Nat} {c:Cfg} {r:Int} {st:NSt} (g:NGd k c r st) (h:NAll P st) {f:Rcd×Int} (hf:∀ e∈f.1.l,P e):NAll P (st.takeC c r f).1:=by
 unfold NSt.takeC
 split
 ·exact h
 rename_i hu0
 have hu:st.up=true:=by cases hh:st.up with
  | true=>rfl
  | false=>exact absurd hh hu0
 have hrp:=(g.up hu).2
 have hl:∀ y∈st.log,P y:=by have:=h.1;rw [hrp] at this;exact this
 split
 ·exact h
 split
 ·exact h
 split
 ·exact h
 split
 ·unfold NSt.pushed
  simp only
  split
  ·exact h
  have hw:=all_write (x:=⟨3,r,max st.sent (min f.1.upto (st.clk.get r.toNat)),Clk.zero,[]⟩) h.1 h.1
  split
  ·rename_i hwe;exact NAll.down hw (((st.write_up _).2 hwe))
  ·rename_i hwe
   have hwe:(st.write ⟨3,r,max st.sent (min f.1.upto (st.clk.get r.toNat)),Clk.zero,[]⟩).2=0:=by simpa using hwe
   simp only
   rw [write_same hwe] at hw ⊢
   exact ⟨hw,fun _=>⟨(h.2 hu).1,fun y hy=>(h.2 hu).2 y (List.mem_of_mem_drop hy)⟩⟩
 split
 ·unfold NSt.eventsC
  obtain ⟨m1,m2,_⟩:=drainL_mem st.clk (st.held++f.1.l)
  have hX:∀ e∈st.held++f.1.l,P e:=fun e he=>(List.mem_append.1 he).elim ((h.2 hu).1 e) (hf e)
  split
  ·exact h
  split
  ·exact ⟨h.1,fun _=>⟨fun e he=>hX e (m2 e he),(h.2 hu).2⟩⟩
  have hw:=all_write (x:=rcEv 2 r (drainL st.clk (st.held++f.1.l)).1) h.1 (by
   rw [hrp]
   show ∀ y∈st.log++_,P y
   intro y hy
   exact (List.mem_append.1 hy).elim (hl y) (fun hy=>hX y (m1 y hy)))
  split
  ·rename_i hwe;exact NAll.down hw (((st.write_up _).2 hwe))
  ·rename_i hwe
   have hwe:(st.write (rcEv 2 r (drainL st.clk (st.held++f.1.l)).1)).2=0:=by simpa using hwe
   simp only
   rw [write_same hwe] at hw ⊢
   exact ⟨hw,fun _=>⟨fun e he=>hX e (m2 e he),(h.2 hu).2⟩⟩
 ·exact h
def PAll (P:Ev→Prop) (p:PSt):Prop:=∀ s∈p.sf,∀ e∈s.all,P e
theorem PAll.alls {p q:PSt} (h:PAll P p) (he:q.alls=p.alls):PAll P q:=fun s hs e hse=>by
 have:s.all∈q.alls:=List.mem_map.2 ⟨s,hs,rfl⟩
 rw [he] at this
 obtain ⟨t,ht,hte⟩:=List.mem_map.1 this
 exact h t ht e (by rw [hte];exact hse)
theorem PAll.push {p:PSt} (h:PAll P p) (most r:Int) {l:List Ev} (hl:∀ e∈l,P e):PAll P (p.pushC most r l).2.2:=by
 rcases push_alls most p r l with he | ⟨_,_,he⟩
 ·exact h.alls he
 ·intro s hs e hse
  have:s.all∈(p.pushC most r l).2.2.alls:=List.mem_map.2 ⟨s,hs,rfl⟩
  rw [he] at this
  rcases List.mem_or_eq_of_mem_set this with hm | hm
  ·obtain ⟨t,ht,hte⟩:=List.mem_map.1 hm
   exact h t ht e (by rw [hte];exact hse)
  ·rw [hm] at hse
   rcases List.mem_append.1 hse with hse | hse
   ·rcases getD_mem_or p.alls r.toNat [] with hg | hg
    ·obtain ⟨t,ht,hte⟩:=List.mem_map.1 hg
     exact h t ht e (by rw [hte];exact hse)
    ·rw [hg] at hse;cases hse
   ·refine hl e ?_
    unfold Sf.putS putC at hse
    split at hse
    ·cases hse
    ·split at hse
     ·cases hse
     ·exact (List.mem_filter.1 hse).1
theorem PAll.ack {p:PSt} (h:PAll P p) (r:Int) (c:Clk):PAll P (p.ack r c).2:=h.alls (ack_alls p r c)
theorem PAll.fetch {p:PSt} (h:PAll P p) (r:Int) (ck:Clk):∀ e∈(p.fetch r ck).1,P e:=by
 have h1:∀ i,∀ e∈above (ck.get i) ((p.sf.getD i Sf.none).all.drop (p.sf.getD i Sf.none).cut),P e:=fun i e he=>by
  unfold above at he
  have he:=List.mem_of_mem_drop (List.mem_filter.1 he).1
  rcases getD_mem_or p.sf i Sf.none with hg | hg
  ·exact h _ hg e he
  ·rw [hg] at he;cases he
 have key:∀ j,∀ e∈p.getN r ck j,P e:=by
  intro j
  induction j with
  | zero=>intro e he;cases he
  | succ j ih =>
   intro e he
   unfold PSt.getN at he
   split at he
   ·exact (List.mem_append.1 he).elim (ih e) (h1 j e)
   ·exact ih e he
 unfold PSt.fetch
 split
 ·intro e he;cases he
 ·exact key _
theorem hall_write {c:Cfg} {st:HSt} {x:Rcd} (h:PAll P (hreplay c st.recs)) (hx:PAll P (hpStep c (hreplay c st.recs) x)):PAll P (hreplay c (st.write x).1.recs):=by
 rcases hwrite_recs st x with hr | hr
 ·rw [hr];exact h
 ·rw [hr,hreplay_snoc];exact hx
theorem HAll.take {k:Nat} {c:Cfg} {st:HSt} (g:HGd k c st) (h:HAll P c st) {f:Rcd×Int} (hf:∀ e∈f.1.l,P e):HAll P c (st.take c f).1∧∀ e∈(st.take c f).2.2.1.l,P e:=by
 have z:∀ e∈Rcd.zero.l,P e:=fun e he=>by cases he
 have h:PAll P (hreplay c st.recs):=h
 unfold HSt.take
 split
 ·exact ⟨h,z⟩
 rename_i hu0
 have hu:st.up=true:=by cases hh:st.up with
  | true=>rfl
  | false=>exact absurd hh hu0
 have hrp:=(g.up hu).2
 have hp:PAll P st.post:=by rw [← hrp];exact h
 split
 ·exact ⟨h,z⟩
 split
 ·exact ⟨h,z⟩
 split
 ·unfold HSt.push
  split
  ·exact ⟨h,z⟩
  split
  ·exact ⟨h,fun e he=>by cases he⟩
  have hw:=hall_write (x:=rcEv 5 f.1.r f.1.l) h (by rw [hrp];exact hp.push c.w f.1.r hf)
  split
  ·exact ⟨hw,z⟩
  ·exact ⟨hw,fun e he=>by cases he⟩
 split
 ·refine ⟨h,?_⟩
  unfold HSt.fetch
  split
  ·exact z
  ·exact hp.fetch f.1.r f.1.c
 split
 ·refine ⟨?_,z⟩
  unfold HSt.ack
  split
  ·exact h
  split
  ·exact h
  have hw:=hall_write (x:=⟨6,f.1.r,0,f.1.c,[]⟩) h (by rw [hrp];exact hp.ack f.1.r f.1.c)
  split
  ·exact hw
  ·exact hw
 ·exact ⟨h,z⟩
theorem WAll.upd {c:Cfg} {w:WSt} (h:WAll P c w) {r:Int} (hr:w.has r) {s:NSt} (hs:NAll P s):WAll P c (w.upd r s):=by
 refine ⟨fun q hq=>?_,h.hub,h.fl⟩
 have hq2:=(upd_has w r s q).1 hq
 rw [upd_node hr s q hq2.1]
 split
 ·exact hs
 ·exact h.nd q hq2
theorem WAll.fly {c:Cfg} {w:WSt} (h:WAll P c w) (t:Int) {x:Rcd} (hx:∀ e∈x.l,P e):WAll P c { w with fl:=w.fl++[(t,x)] }:=by
 refine ⟨h.nd,h.hub,fun y hy=>?_⟩
 rcases List.mem_append.1 hy with hy | hy
 ·exact h.fl y hy
 ·simp at hy;subst hy;exact hx
theorem WAll.send {c:Cfg} {w:WSt} (h:WAll P c w) {p:Rcd×Int} (hp:∀ e∈p.1.l,P e):WAll P c (w.send p).1:=by
 unfold WSt.send
 simp only
 split
 ·exact h.fly 5 hp
 ·exact h
theorem WAll.arrive {k:Nat} {c:Cfg} {w:WSt} (g:WGd k c w) (h:WAll P c w) (to:Int) {f:Rcd×Int} (hf:∀ e∈f.1.l,P e):WAll P c (w.arrive c to f).1:=by
 unfold WSt.arrive
 split
 ·rename_i hh;exact h.upd hh ((h.nd to hh).take (g.nd to hh) hf)
 ·obtain ⟨h1,h2⟩:=h.hub.take g.hub hf
  simp only
  split
  ·refine ⟨h.nd,h1,fun y hy=>?_⟩
   rcases List.mem_append.1 hy with hy | hy
   ·exact h.fl y hy
   ·simp at hy;subst hy;exact h2
  ·exact ⟨h.nd,h1,h.fl⟩
theorem burstF_all {x:Rcd} (hx:∀ e∈x.l,P e) (bit mask:Int):∀ e∈(burstF x bit mask).1.l,P e:=by
 unfold burstF
 split
 ·exact hx
 ·exact fun e he=>by cases he
theorem fl_getD_all {c:Cfg} {w:WSt} (h:WAll P c w) (i:Nat):∀ e∈(w.fl.getD i (0,Rcd.zero)).2.l,P e:=by
 rcases getD_mem_or w.fl i (0,Rcd.zero) with hg | hg
 ·exact h.fl _ hg
 ·rw [hg];exact fun e he=>by cases he
theorem WAll.flight {k:Nat} {c:Cfg} {w:WSt} (g:WGd k c w) (h:WAll P c w) (s:Stp):WAll P c (w.flight c s).1:=by
 unfold WSt.flight
 split
 ·have hx:=fl_getD_all h s.at_.toNat
  have h2:WAll P c (if s.kind=5 then w else { w with fl:=tkA w.fl s.at_ })∧WGd k c (if s.kind=5 then w else { w with fl:=tkA w.fl s.at_ }):=by
   split
   ·exact ⟨h,g⟩
   ·exact ⟨⟨h.nd,h.hub,fun y hy=>h.fl y (tkA_mem hy)⟩,⟨g.n,g.nd,g.hub,by have:=g.fl.1;have:=tkA_len w.fl s.at_;show (tkA w.fl s.at_).length≤k;omega,fun y hy=>g.fl.2 y (tkA_mem hy)⟩⟩
  simp only
  split
  ·exact h2.1
  ·refine WAll.arrive h2.2 h2.1 _ ?_
   split
   ·exact burstF_all hx _ _
   ·exact hx
 ·exact h
theorem WAll.power {k:Nat} {c:Cfg} {w:WSt} (g:WGd k c w) (h:WAll P c w) (s:Stp):WAll P c (w.power c s).1:=by
 unfold WSt.power
 split
 ·rename_i hh
  have hn:=h.nd s.r hh
  split
  ·exact h.upd hh (NAll.down (st:=(w.node s.r).crash) hn.1 rfl)
  ·split
   ·exact h.upd hh (hn.start (g.nd s.r hh))
   ·exact h.upd hh ⟨hn.1,hn.2⟩
 ·split
  ·split
   ·exact ⟨h.nd,h.hub,h.fl⟩
   ·split
    ·refine ⟨h.nd,?_,h.fl⟩
     show HAll P c (w.hub.start c).1
     unfold HSt.start
     split
     ·exact h.hub
     ·exact h.hub
    ·exact ⟨h.nd,h.hub,h.fl⟩
  ·exact h
theorem push_all {st:NSt} (h:st.up=true→∀ e∈st.wait,P e) (c:Cfg) (r:Int):∀ e∈(st.push c r).1.l,P e:=by
 unfold NSt.push
 split
 ·exact fun e he=>by cases he
 rename_i hu0
 have hu:st.up=true:=by cases hh:st.up with
  | true=>rfl
  | false=>exact absurd hh hu0
 split
 ·exact fun e he=>by cases he
 ·exact fun e he=>h hu e (List.mem_of_mem_take he)
theorem tell_all (st:NSt) (r k:Int):∀ e∈(st.tell r k).1.l,P e:=by
 unfold NSt.tell
 split
 ·exact fun e he=>by cases he
 ·exact fun e he=>by cases he
theorem WAll.step {k:Nat} {c:Cfg} {w:WSt} (g:WGd k c w) (h:WAll P c w) (s:Stp) (hn:s.kind=0→w.has s.r→(w.node s.r).editE c s.r s.ed=0→P ((w.node s.r).mk1 s.r s.ed)):WAll P c (w.step c s).1:=by
 unfold WSt.step
 split
 ·exact h.flight g s
 split
 ·exact h.power g s
 split
 ·exact h
 rename_i hh
 have hh:w.has s.r:=by
  by_cases hh2:w.has s.r
  ·exact hh2
  ·exact absurd hh2 hh
 have hnd:=h.nd s.r hh
 have gn:=g.nd s.r hh
 split
 ·rename_i h0;exact h.upd hh (hnd.edit gn s.ed (hn h0 hh))
 split
 ·exact h.send (push_all (fun hu=>(hnd.2 hu).2) c s.r)
 split
 ·exact h.send (tell_all _ _ _)
 split
 ·exact h.send (tell_all _ _ _)
 split
 ·exact h.upd hh (hnd.state gn)
 ·exact h
theorem WAll.mono {Q:Ev→Prop} {c:Cfg} {w:WSt} (h:WAll P c w) (hq:∀ e,P e→Q e):WAll Q c w :=
 ⟨fun r hr=>⟨fun e he=>hq e ((h.nd r hr).1 e he),fun hu=>⟨fun e he=>hq e (((h.nd r hr).2 hu).1 e he),fun e he=>hq e (((h.nd r hr).2 hu).2 e he)⟩⟩,fun s hs e he=>hq e (h.hub s hs e he),fun x hx e he=>hq e (h.fl x hx e he)⟩
theorem WAll.new (c:Cfg):WAll P c (WSt.new c):=by
 refine ⟨fun r hr=>?_,fun s hs e he=>?_,(fun x hx=>by cases hx)⟩
 ·have h1:=hr.1
  have h2:=hr.2
  have hl:(WSt.new c).nodes.length=c.n.toNat:=by unfold WSt.new;simp
  unfold WSt.node WSt.new
  have:r.toNat<c.n.toNat:=by omega
  simp only [List.getD_eq_getElem?_getD,List.getElem?_map,List.getElem?_range this,Option.map_some,Option.getD_some]
  exact ⟨(fun e he=>by cases he),fun _=>⟨(fun e he=>by cases he),(fun e he=>by cases he)⟩⟩
 ·have hs:s∈(PSt.zero c).sf:=hs
  rw [List.eq_of_mem_replicate hs] at he
  cases he
end
end
section
def NLe (a b:List Ev×Int):Prop:=a.1 <+: b.1∧a.2≤b.2
theorem clk_mono (i:Nat):∀ (l:List Ev) (c:Clk),c.get i≤(l.foldl clkStep c).get i
 | [],c=>Int.le_refl _
 | e::l,c=>by
  refine Int.le_trans ?_ (clk_mono i l (clkStep c e))
  unfold clkStep
  by_cases h:e.r.toNat<5
  ·rw [getset _ _ _ _ h]
   split
   ·rename_i h2;rw [h2];omega
   ·exact Int.le_refl _
  ·have:c.set e.r.toNat (c.get e.r.toNat+1)=c:=by
    match he:e.r.toNat,h with
    | n+5,_=>rfl
   rw [this]
   exact Int.le_refl _
theorem NLe.refl (a:List Ev×Int):NLe a a:=⟨List.prefix_refl _,Int.le_refl _⟩
theorem nle_write {st:NSt} {x:Rcd} (h:NLe (replay st.recs) (rpStep (replay st.recs) x)):NLe (replay st.recs) (replay (st.write x).1.recs):=by
 rcases write_recs st x with hr | hr
 ·rw [hr];exact NLe.refl _
 ·rw [hr,replay_snoc];exact h
theorem nle_edit {k:Nat} {c:Cfg} {r:Int} {st:NSt} (g:NGd k c r st) (e:Ed):NLe (replay st.recs) (replay (st.edit c r e).1.recs)∧((st.edit c r e).2=0→(clkOfLog (replay (st.edit c r e).1.recs).1).get r.toNat=(clkOfLog (replay st.recs).1).get r.toNat+1):=by
 unfold NSt.edit
 by_cases hE:st.editE c r e≠0
 ·rw [if_pos hE];exact ⟨NLe.refl _,fun h=>absurd h hE⟩
 rw [if_neg hE]
 have hE:st.editE c r e=0:=by simpa using hE
 have hu:st.up=true:=by
  cases hh:st.up with
  | true=>rfl
  | false=>unfold NSt.editE at hE;rw [if_pos hh] at hE;cases hE
 have hrp:=(g.up hu).2
 have hst:rpStep (replay st.recs) (rcEv 1 r [st.mk1 r e])=(st.log++[st.mk1 r e],st.sent):=by rw [hrp];rfl
 have hw:=nle_write (st:=st) (x:=rcEv 1 r [st.mk1 r e]) (by rw [hst,hrp];exact ⟨List.prefix_append _ _,Int.le_refl _⟩)
 split
 ·exact ⟨hw,fun h=>by cases h⟩
 ·rename_i hwe
  have hwe:(st.write (rcEv 1 r [st.mk1 r e])).2=0:=by simpa using hwe
  rw [write_same hwe] at hw ⊢
  refine ⟨hw,fun _=>?_⟩
  simp only
  have h5:=g.r5
  rw [replay_snoc,hst,hrp]
  simp only
  rw [clkOfLog_snoc,clkStep_get _ _ (show 0≤(st.mk1 r e).r∧(st.mk1 r e).r<5 from h5),if_pos (show (st.mk1 r e).r.toNat=r.toNat from rfl)]
theorem nle_state {k:Nat} {c:Cfg} {r:Int} {st:NSt} (g:NGd k c r st):NLe (replay st.recs) (replay (st.state r).1.recs):=by
 unfold NSt.state
 split
 ·exact NLe.refl _
 rename_i hu0
 have hu:st.up=true:=by cases hh:st.up with
  | true=>rfl
  | false=>exact absurd hh hu0
 split
 ·exact NLe.refl _
 have hrp:=(g.up hu).2
 have hw:=nle_write (st:=st) (x:=⟨4,r,st.sent,Clk.zero,st.log⟩) (by rw [hrp];exact NLe.refl _)
 split
 ·exact hw
 ·exact hw
theorem nle_take {k:Nat} {c:Cfg} {r:Int} {st:NSt} (g:NGd k c r st) (f:Rcd×Int):NLe (replay st.recs) (replay (st.takeC c r f).1.recs):=by
 unfold NSt.takeC
 split
 ·exact NLe.refl _
 rename_i hu0
 have hu:st.up=true:=by cases hh:st.up with
  | true=>rfl
  | false=>exact absurd hh hu0
 have hrp:=(g.up hu).2
 split
 ·exact NLe.refl _
 split
 ·exact NLe.refl _
 split
 ·exact NLe.refl _
 split
 ·unfold NSt.pushed
  simp only
  split
  ·exact NLe.refl _
  have hw:=nle_write (st:=st) (x:=⟨3,r,max st.sent (min f.1.upto (st.clk.get r.toNat)),Clk.zero,[]⟩) (by rw [hrp];exact ⟨List.prefix_refl _,by show st.sent≤max st.sent _;omega⟩)
  split
  ·exact hw
  ·exact hw
 split
 ·unfold NSt.eventsC
  split
  ·exact NLe.refl _
  split
  ·exact NLe.refl _
  have hw:=nle_write (st:=st) (x:=rcEv 2 r (drainL st.clk (st.held++f.1.l)).1) (by rw [hrp];exact ⟨List.prefix_append _ _,Int.le_refl _⟩)
  split
  ·exact hw
  ·exact hw
 ·exact NLe.refl _
structure PLt (p q:PSt):Prop where
 n:p.sf.length=q.sf.length
 all:∀ i,(p.sf.getD i Sf.none).all.length≤(q.sf.getD i Sf.none).all.length
 cut:∀ i,(p.sf.getD i Sf.none).cut≤(q.sf.getD i Sf.none).cut
 told:∀ i j,j<5→(p.told.getD i Clk.zero).get j≤(q.told.getD i Clk.zero).get j
theorem PLt.refl (p:PSt):PLt p p:=⟨rfl,fun _=>Nat.le_refl _,fun _=>Nat.le_refl _,fun _ _ _=>Int.le_refl _⟩
theorem PLt.trans {p q s:PSt} (h:PLt p q) (k:PLt q s):PLt p s:=⟨h.n.trans k.n,fun i=>Nat.le_trans (h.all i) (k.all i),fun i=>Nat.le_trans (h.cut i) (k.cut i),fun i j hj=>Int.le_trans (h.told i j hj) (k.told i j hj)⟩
theorem to_cut (s:Sf) (n:Int):s.cut≤(s.to n).cut∧(s.to n).all=s.all:=by
 refine ⟨?_,rfl⟩
 show s.cut≤(max (s.cut:Int) (min n s.all.length)).toNat
 omega
theorem plt_cutAt (p:PSt) (s:Nat):PLt p (p.cutAt s):=by
 have h:∀ i,(p.sf.getD i Sf.none).all.length≤((p.cutAt s).sf.getD i Sf.none).all.length∧(p.sf.getD i Sf.none).cut≤((p.cutAt s).sf.getD i Sf.none).cut:=fun i=>by
  rw [cutAt_get]
  split
  ·rename_i h
   obtain ⟨rfl,_⟩:=h
   have:=to_cut (p.sf.getD s Sf.none) (leastR p.told s)
   rw [this.2]
   exact ⟨Nat.le_refl _,this.1⟩
  ·exact ⟨Nat.le_refl _,Nat.le_refl _⟩
 exact ⟨(cutAt_len p s).symm,fun i=>(h i).1,fun i=>(h i).2,fun _ _ _=>Int.le_refl _⟩
theorem plt_cutN (p:PSt):∀ k,PLt p (p.cutN k)
 | 0=>PLt.refl p
 | k+1=>(plt_cutN p k).trans (plt_cutAt _ k)
theorem plt_push (most:Int) (p:PSt) (r:Int) (l:List Ev):PLt p (p.pushC most r l).2.2:=by
 unfold PSt.pushC
 split
 ·exact PLt.refl p
 split
 ·exact PLt.refl p
 ·refine PLt.trans ?_ (plt_cutAt _ _)
  refine ⟨(List.length_set ..).symm,fun i=>?_,fun i=>?_,fun _ _ _=>Int.le_refl _⟩
  ·show _≤((p.sf.set _ _).getD i Sf.none).all.length
   rw [getD_set]
   split
   ·rename_i h
    rw [← h.1]
    simp only [List.length_append]
    omega
   ·exact Nat.le_refl _
  ·show _≤((p.sf.set _ _).getD i Sf.none).cut
   rw [getD_set]
   split
   ·rename_i h
    rw [← h.1]
    exact Nat.le_refl _
   ·exact Nat.le_refl _
theorem plt_ack (p:PSt) (r:Int) (c:Clk):PLt p (p.ack r c).2:=by
 unfold PSt.ack
 split
 ·exact PLt.refl p
 ·refine PLt.trans ?_ (plt_cutN (⟨p.told.set r.toNat ((p.told.getD r.toNat Clk.zero).join c),p.sf⟩:PSt) p.sf.length)
  refine ⟨rfl,fun _=>Nat.le_refl _,fun _=>Nat.le_refl _,fun i j hj=>?_⟩
  show _≤((p.told.set _ _).getD i Clk.zero).get j
  rw [getD_set]
  split
  ·rename_i h
   rw [← h.1,Clk.join_get _ _ _ hj]
   omega
  ·exact Int.le_refl _
theorem plt_hp (c:Cfg) (p:PSt) (x:Rcd):PLt p (hpStep c p x):=by
 unfold hpStep
 split
 ·exact plt_push ..
 ·split
  ·exact plt_ack ..
  ·exact PLt.refl p
theorem plt_write {c:Cfg} (st:HSt) (x:Rcd):PLt (hreplay c st.recs) (hreplay c (st.write x).1.recs):=by
 rcases hwrite_recs st x with hr | hr
 ·rw [hr];exact PLt.refl _
 ·rw [hr,hreplay_snoc];exact plt_hp ..
theorem plt_take (c:Cfg) (st:HSt) (f:Rcd×Int):PLt (hreplay c st.recs) (hreplay c (st.take c f).1.recs):=by
 unfold HSt.take
 split
 ·exact PLt.refl _
 split
 ·exact PLt.refl _
 split
 ·exact PLt.refl _
 split
 ·unfold HSt.push
  split
  ·exact PLt.refl _
  split
  ·exact PLt.refl _
  split
  ·exact plt_write st _
  ·exact plt_write st _
 split
 ·exact PLt.refl _
 split
 ·unfold HSt.ack
  split
  ·exact PLt.refl _
  split
  ·exact PLt.refl _
  split
  ·exact plt_write st _
  ·exact plt_write st _
 ·exact PLt.refl _
structure WLt (c:Cfg) (w v:WSt):Prop where
 nd:∀ r:Int,w.has r→NLe (replay (w.node r).recs) (replay (v.node r).recs)
 hub:PLt (hreplay c w.hub.recs) (hreplay c v.hub.recs)
theorem WLt.refl (c:Cfg) (w:WSt):WLt c w w:=⟨fun _ _=>NLe.refl _,PLt.refl _⟩
theorem WLt.upd {c:Cfg} {w:WSt} {r:Int} {s:NSt} (hr:w.has r) (h:NLe (replay (w.node r).recs) (replay s.recs)):WLt c w (w.upd r s):=by
 refine ⟨fun q hq=>?_,PLt.refl _⟩
 rw [upd_node hr s q hq.1]
 split
 ·rename_i e;rw [e];exact h
 ·exact NLe.refl _
theorem wlt_arrive {k:Nat} {c:Cfg} {w:WSt} (g:WGd k c w) (to:Int) (f:Rcd×Int):WLt c w (w.arrive c to f).1:=by
 unfold WSt.arrive
 split
 ·rename_i hh;exact WLt.upd hh (nle_take (g.nd to hh) f)
 ·have h2:=plt_take c w.hub f
  simp only
  split
  ·exact ⟨fun _ _=>NLe.refl _,h2⟩
  ·exact ⟨fun _ _=>NLe.refl _,h2⟩
theorem wlt_flight {k:Nat} {c:Cfg} {w:WSt} (g:WGd k c w) (s:Stp):WLt c w (w.flight c s).1:=by
 unfold WSt.flight
 split
 ·simp only
  split
  ·split
   ·exact WLt.refl c w
   ·exact ⟨fun _ _=>NLe.refl _,PLt.refl _⟩
  ·split
   ·exact wlt_arrive g _ _
   ·have g2:WGd k c { w with fl:=tkA w.fl s.at_ }:=⟨g.n,g.nd,g.hub,by have:=g.fl.1;have:=tkA_len w.fl s.at_;show (tkA w.fl s.at_).length≤k;omega,fun y hy=>g.fl.2 y (tkA_mem hy)⟩
    have h:=wlt_arrive g2 (w.fl.getD s.at_.toNat (0,Rcd.zero)).1 (if s.kind=7 then burstF (w.fl.getD s.at_.toNat (0,Rcd.zero)).2 s.bit s.mask else ((w.fl.getD s.at_.toNat (0,Rcd.zero)).2,0))
    exact ⟨h.nd,h.hub⟩
 ·exact WLt.refl c w
theorem nstart_recs (st:NSt) (c:Cfg) (r:Int):(st.start c r).1.recs=st.recs:=by unfold NSt.start;split <;> rfl
theorem hstart_recs (st:HSt) (c:Cfg):(st.start c).1.recs=st.recs:=by unfold HSt.start;split <;> rfl
theorem wlt_power {c:Cfg} (w:WSt) (s:Stp):WLt c w (w.power c s).1:=by
 unfold WSt.power
 split
 ·rename_i hh
  split
  ·exact WLt.upd hh (NLe.refl _)
  ·split
   ·exact WLt.upd hh (by rw [nstart_recs];exact NLe.refl _)
   ·exact WLt.upd hh (NLe.refl _)
 ·split
  ·split
   ·exact ⟨fun _ _=>NLe.refl _,PLt.refl _⟩
   ·split
    ·exact ⟨fun _ _=>NLe.refl _,by show PLt _ (hreplay c (w.hub.start c).1.recs);rw [hstart_recs];exact PLt.refl _⟩
    ·exact ⟨fun _ _=>NLe.refl _,PLt.refl _⟩
  ·exact WLt.refl c w
theorem wlt_step {k:Nat} {c:Cfg} {w:WSt} (g:WGd k c w) (s:Stp):WLt c w (w.step c s).1∧(s.kind=0→(w.step c s).2=0→w.has s.r∧(clkOfLog (replay ((w.step c s).1.node s.r).recs).1).get s.r.toNat=(clkOfLog (replay (w.node s.r).recs).1).get s.r.toNat+1):=by
 unfold WSt.step
 split
 ·exact ⟨wlt_flight g s,fun h=>by omega⟩
 split
 ·exact ⟨wlt_power w s,fun h=>by omega⟩
 split
 ·exact ⟨WLt.refl c w,fun _ h=>by cases h⟩
 rename_i hh
 have hh:w.has s.r:=by
  by_cases hh2:w.has s.r
  ·exact hh2
  ·exact absurd hh2 hh
 have gn:=g.nd s.r hh
 split
 ·have he:=nle_edit gn s.ed
  refine ⟨WLt.upd hh he.1,fun _ h0=>⟨hh,?_⟩⟩
  rw [upd_node hh _ _ hh.1,if_pos rfl]
  exact he.2 h0
 rename_i h0
 refine ⟨?_,fun h=>absurd h h0⟩
 have hs:∀ p,WLt c w (w.send p).1:=fun p=>by
  unfold WSt.send
  simp only
  split
  ·exact ⟨fun _ _=>NLe.refl _,PLt.refl _⟩
  ·exact WLt.refl c w
 split
 ·exact hs _
 split
 ·exact hs _
 split
 ·exact hs _
 split
 ·exact WLt.upd hh (nle_state gn)
 ·exact WLt.refl c w
end
section
structure Lg where
 v:Nat→Value
 l:Nat→List Mk
 o:∀ i,(v i).oneCell'=true
def Lg.nil:Lg:=⟨fun _=>.slice none 0 0,fun _=>[],fun _=>rfl⟩
def Lg.put (q:Lg) (r:Nat) (u:Value) (ou:u.oneCell'=true) (x:List Mk):Lg:=⟨fun i=>if i=r then u else q.v i,fun i=>if i=r then x else q.l i,fun i=>by split;exact ou;exact q.o i⟩
@[reducible] def lgC (q:Lg):List Value:=[q.v 0,q.v 1,q.v 2,q.v 3,q.v 4]
@[reducible] def lgL (g:Nat) (q:Lg):List Assn:=[Blk g 92 (lgC q),Mks (q.v 0) (q.l 0),Mks (q.v 1) (q.l 1),Mks (q.v 2) (q.l 2),Mks (q.v 3) (q.l 3),Mks (q.v 4) (q.l 4)]
def KLog (g:Nat) (q:Lg):Assn:=Star (lgL g q)
theorem KLog.opn (g:Nat) (q:Lg) (M:List Assn):Sub (lgL g q++M) (KLog g q::M):=Star.opens _ _
theorem KLog.cls (g:Nat) (q:Lg) (M:List Assn):Sub (KLog g q::M) (lgL g q++M):=Star.closes _ _
structure HbLe (h h2:HsU):Prop where
 base:∀ i,i<5→h.s.base.get i≤h2.s.base.get i
 len:∀ i,i<5→h.s.len.get i≤h2.s.len.get i
 a0:∀ i,i<5→h.s.a0.get i≤h2.s.a0.get i
 a1:∀ i,i<5→h.s.a1.get i≤h2.s.a1.get i
 a2:∀ i,i<5→h.s.a2.get i≤h2.s.a2.get i
 a3:∀ i,i<5→h.s.a3.get i≤h2.s.a3.get i
 a4:∀ i,i<5→h.s.a4.get i≤h2.s.a4.get i
theorem HbLe.of {p q:PSt} {b1 b2:Bool} (h:PLt p q):HbLe ⟨b1,p.site⟩ ⟨b2,q.site⟩:=by
 have hb:∀ i,p.baseF i≤q.baseF i:=fun i=>by
  unfold PSt.baseF
  rw [h.n]
  split
  ·have:=h.cut i;omega
  ·omega
 have hl:∀ i,p.lenF i≤q.lenF i:=fun i=>by
  unfold PSt.lenF
  rw [h.n]
  split
  ·have:=h.all i;omega
  ·omega
 refine ⟨fun i hi=>?_,fun i hi=>?_,fun i hi=>h.told 0 i hi,fun i hi=>h.told 1 i hi,fun i hi=>h.told 2 i hi,fun i hi=>h.told 3 i hi,fun i hi=>h.told 4 i hi⟩
 ·show (clkOf p.baseF).get i≤(clkOf q.baseF).get i
  rw [clkOf_get _ _ hi,clkOf_get _ _ hi];exact hb i
 ·show (clkOf p.lenF).get i≤(clkOf q.lenF).get i
  rw [clkOf_get _ _ hi,clkOf_get _ _ hi];exact hl i
structure KI (c:Cfg) (w:WSt) (q:Lg) (ke ks:Clk) (hb:HsU):Prop where
 k0:∀ i,i<5→0≤ke.get i
 lg:∀ i:Nat,w.has (i:Int)→q.l i <+: (replay (w.node i).recs).1.map Ev.mk_
 ks:∀ i:Nat,w.has (i:Int)→ks.get i≤(replay (w.node i).recs).2
 ke:∀ i:Nat,w.has (i:Int)→ke.get i≤(clkOfLog (replay (w.node i).recs).1).get i
 hb:∃ p,PLt p (hreplay c w.hub.recs)∧hb=⟨hb.up,p.site⟩
theorem KI.step {c:Cfg} {w v:WSt} {q:Lg} {ke ks:Clk} {hb:HsU} (h:KI c w q ke ks hb) (hw:WLt c w v) (hn:v.nodes.length=w.nodes.length):KI c v q ke ks hb:=by
 have hh:∀ r,v.has r↔w.has r:=fun r=>by unfold WSt.has;rw [hn]
 obtain ⟨p,hp1,hp2⟩:=h.hb
 refine ⟨h.k0,fun i hi=>?_,fun i hi=>?_,fun i hi=>?_,⟨p,hp1.trans hw.hub,hp2⟩⟩
 ·have:=(hw.nd i ((hh _).1 hi)).1
  exact (h.lg i ((hh _).1 hi)).trans (this.map _)
 ·have:=(hw.nd i ((hh _).1 hi)).2
  have h1:=h.ks i ((hh _).1 hi)
  omega
 ·have h1:=h.ke i ((hh _).1 hi)
  obtain ⟨t,ht⟩:=(hw.nd i ((hh _).1 hi)).1
  refine Int.le_trans h1 ?_
  rw [← ht]
  unfold clkOfLog
  rw [List.foldl_append]
  exact clk_mono i t _
theorem KLog.new (g:Nat) (M:List Assn):Sub (KLog g Lg.nil::M) (Blk g 92 (lgC Lg.nil)::M) :=
 Sub.trans (KLog.cls g Lg.nil M) (Sub.cons _ (Sub.trans (Sub.empty (α:=Mk) none 90 _) (Sub.trans (Sub.empty (α:=Mk) none 90 _) (Sub.trans (Sub.empty (α:=Mk) none 90 _) (Sub.trans (Sub.empty (α:=Mk) none 90 _) (Sub.empty (α:=Mk) none 90 M))))))
def Hs.ak (h:Hs) (r:Nat):Clk:=match r with | 0=>h.a0 | 1=>h.a1 | 2=>h.a2 | 3=>h.a3 | _=>h.a4
theorem HbLe.ak {h h2:HsU} (q:HbLe h h2) (r k:Nat) (hr:r<5) (hk:k<5):(h.s.ak r).get k≤(h2.s.ak r).get k:=by
 match r,hr with
 | 0,_=>exact q.a0 k hk
 | 1,_=>exact q.a1 k hk
 | 2,_=>exact q.a2 k hk
 | 3,_=>exact q.a3 k hk
 | 4,_=>exact q.a4 k hk
theorem siteU_up {st:HSt} (hu:st.up=true):st.siteU=⟨true,st.post.site⟩:=by unfold HSt.siteU;rw [if_pos hu]
theorem siteU_dn {st:HSt} (hu:st.up≠true):st.siteU.up=false:=by unfold HSt.siteU;rw [if_neg hu]
theorem KI.new (c:Cfg) (hc:c.May):KI c (WSt.new c) Lg.nil Clk.zero Clk.zero (WSt.new c).hub.siteU:=by
 have g:=WGd.new hc
 have hu:(WSt.new c).hub.up=true:=rfl
 have hn:∀ i:Nat,(WSt.new c).has (i:Int)→0≤(replay ((WSt.new c).node i).recs).2∧0≤(clkOfLog (replay ((WSt.new c).node i).recs).1).get i:=fun i hi=>by
  have:=(g.nd i hi).dur.rsent
  rw [show ((i:Int)).toNat=i from Int.toNat_natCast i] at this
  omega
 refine ⟨fun i _=>by rw [zero_get];omega,fun i _=>List.nil_prefix,fun i hi=>by rw [zero_get];exact (hn i hi).1,fun i hi=>by rw [zero_get];exact (hn i hi).2,⟨_,PLt.refl _,?_⟩⟩
 rw [siteU_up hu,(g.hub.up hu).2]
theorem KI.put {c:Cfg} {w:WSt} {q:Lg} {ke ks:Clk} {hb:HsU} (h:KI c w q ke ks hb) (r:Nat) (hr:r<5) (u:Value) (ou:u.oneCell'=true) {log:List Ev} {sent:Int} (hrp:replay (w.node r).recs=(log,sent)):KI c w (q.put r u ou (log.map Ev.mk_)) ke (ks.set r sent) hb:=by
 refine ⟨h.k0,fun i hi=>?_,fun i hi=>?_,h.ke,h.hb⟩
 ·show (if i=r then _ else _) <+: _
  split
  ·rename_i e;rw [e,hrp];exact List.prefix_refl _
  ·exact h.lg i hi
 ·rw [getset _ _ _ _ hr]
  split
  ·rename_i e;rw [← e,hrp];exact Int.le_refl _
  ·exact h.ks i hi
theorem KI.edit {c:Cfg} {w:WSt} {q:Lg} {ke ks:Clk} {hb:HsU} (h:KI c w q ke ks hb) (r:Nat) (hr:r<5) (hk:ke.get r+1≤(clkOfLog (replay (w.node r).recs).1).get r):KI c w q (ke.set r (ke.get r+1)) ks hb:=by
 refine ⟨fun i hi=>?_,h.lg,h.ks,fun i hi=>?_,h.hb⟩
 ·have:=h.k0 i hi
  rw [getset _ _ _ _ hr]
  split
  ·rename_i e;subst e;omega
  ·exact this
 ·rw [getset _ _ _ _ hr]
  split
  ·rename_i e;rw [← e];exact hk
  ·exact h.ke i hi
theorem KI.seen {c:Cfg} {w:WSt} {q:Lg} {ke ks:Clk} {hb:HsU} {k:Nat} (h:KI c w q ke ks hb) (g:WGd k c w) (hu:w.hub.up=true):KI c w q ke ks w.hub.siteU∧HbLe hb w.hub.siteU:=by
 have hs:w.hub.siteU=⟨true,(hreplay c w.hub.recs).site⟩:=by rw [siteU_up hu,(g.hub.up hu).2]
 obtain ⟨p,h1,h2⟩:=h.hb
 refine ⟨⟨h.k0,h.lg,h.ks,h.ke,⟨_,PLt.refl _,by rw [hs]⟩⟩,?_⟩
 rw [hs,h2]
 exact HbLe.of h1
end
section
theorem fewK_in (n:Int) (l:List Stp) (h:∀ s∈l,s.In):∀ s∈fewS n l,s.Ok:=by
 intro s hs
 unfold fewS at hs
 obtain ⟨x,hx,rfl⟩:=List.mem_map.1 hs
 have h1:=h x (List.mem_of_mem_take hx)
 have h2:=fit_lens x.ed
 exact ⟨h1.bit,h1.mask,by show x.ed.fit.key.length≤_;omega,by show x.ed.fit.value.length≤_;omega⟩
theorem fewK_length (n:Int) (l:List Stp):(fewS n l).length≤60:=by unfold fewS;rw [List.length_map,List.length_take];omega
def hsL (h:HsU):List Int:=[h.s.a0.a,h.s.a0.b,h.s.a0.c,h.s.a0.d,h.s.a0.e,h.s.a1.a,h.s.a1.b,h.s.a1.c,h.s.a1.d,h.s.a1.e,h.s.a2.a,h.s.a2.b,h.s.a2.c,h.s.a2.d,h.s.a2.e,h.s.a3.a,h.s.a3.b,h.s.a3.c,h.s.a3.d,h.s.a3.e,h.s.a4.a,h.s.a4.b,h.s.a4.c,h.s.a4.d,h.s.a4.e]
theorem hsL_get (h:HsU) (r k:Nat) (hr:r<5) (hk:k<5):((hsL h).drop (5 * r)).getD k 0=(h.s.ak r).get k:=by
 have hr5:r=0∨r=1∨r=2∨r=3∨r=4:=by omega
 have hk5:k=0∨k=1∨k=2∨k=3∨k=4:=by omega
 rcases hr5 with rfl | rfl | rfl | rfl | rfl <;> rcases hk5 with rfl | rfl | rfl | rfl | rfl <;> rfl
theorem HbLe.row {h h2:HsU} (q:HbLe h h2) (r k:Nat) (hr:r<5) (hk:k<5):((hsL h).drop (5 * r)).getD k 0≤((hsL h2).drop (5 * r)).getD k 0:=by
 rw [hsL_get h r k hr hk,hsL_get h2 r k hr hk]
 exact q.ak r k hr hk
theorem capK {P:Program} {n:Nat} {ops:Array Oper} {l:List Oper} {Q:Post} {f:Nat→Value} {L:List Assn} {α:Type} [Rep α] {v:Value} {xs:List α} {m:Nat} (hb:xs.length≤m) (hr:RdT L v xs) (h:Capd v xs.length→ExL P n ops l Q f L):ExL P n ops l Q f L:=ExL.capd hr h
set_option maxRecDepth 20000 attribute [local irreducible] Ex ExL Fn thn inb rnd fin meet Tab Mix mxEnd Val Sats RdT Rd RowT Row Blk Sub Fac ResV RVal Evs subs subs3 Hid Capd
section
attribute [local irreducible] Star NodeA HubA LkA nodesA WldA SiteV.own Lst.own wS
theorem topKeeps_F (c0:Cfg) (v1:Value) (l:List Stp) (M:List Assn) (hr:RdT M v1 l) (o1:v1.oneCell'=true) (hl:l.length≤140737488351232) (hs:∀ s∈l,s.In) :
  Fn Tryz.prog 6 #[.agg (Rep.cells c0).toArray,v1] M fun v L'=>v=.bool true∧L'=M:=by
 obtain ⟨c,hc⟩:∃ c,c=fitC c0:=⟨_,rfl⟩
 have hm:c.May:=by rw [hc];exact fitC_may c0
 have hcn:=hm.n
 obtain ⟨N,hcN⟩:∃ N:Nat,c.n=N:=⟨c.n.toNat,by omega⟩
 refine Fn.of_ex Tryz.func6 rfl Tryz.ntmps6 rfl ?_
 (refine rn ?_;(repeat (first | intro (g:Nat) | intro (v:Value) | intro (o:O1 _) | intro (cs:List Value) | intro (hcs:_=List.set _ _ _) | intro (zs:List _) | intro h)))
 refine st_callIs [] rJ Tryz.call10 rJ rJ (shown_F _) ?_
 rintro _ _ ⟨rfl,rfl⟩
 (refine rn ?_;(repeat (first | intro (g:Nat) | intro (v:Value) | intro (o:O1 _) | intro (cs:List Value) | intro (hcs:_=List.set _ _ _) | intro (zs:List _) | intro h)))
 refine st_callIs [] rJ Tryz.call11 rJ rJ (fitC_F c0 _) ?_
 rintro _ _ ⟨rfl,rfl⟩
 rw [← hc]
 (refine rn ?_;(repeat (first | intro (g:Nat) | intro (v:Value) | intro (o:O1 _) | intro (cs:List Value) | intro (hcs:_=List.set _ _ _) | intro (zs:List _) | intro h)))
 revert g
 intro g6
 refine st_callIs [] rJ Tryz.call21 rJ rJ (wNewA c _ hm) ?_
 rintro _ _ ⟨gw,rfl,rfl⟩
 have g0:=WGd.new hm
 (refine rn ?_;(repeat (first | intro (g:Nat) | intro (v:Value) | intro (o:O1 _) | intro (cs:List Value) | intro (hcs:_=List.set _ _ _) | intro (zs:List _) | intro h)))
 rename_i g9 g10
 revert g
 intro g11
 refine st_callIs [3] rJ Tryz.call15 rE rJ (wHubA (k:=198) gw c (WSt.new c) _ ((g0.mono rM).ok rM) (Nat.le_refl _)) ?_
 rintro _ _ ⟨rfl,rfl⟩
 obtain ⟨hb0,hhb⟩:∃ hb0,hb0=(WSt.new c).hub.siteU:=⟨_,rfl⟩
 rw [← hhb]
 (refine rn ?_;(repeat (first | intro (g:Nat) | intro (hcs:_=List.set _ _ _) | intro h)))
 revert g
 intro g12
 rw [hcN]
 refine st_callIs [] rJ Tryz.call13 rJ rJ (few_F v1 l N _ rD o1 rM rM (fun s h=>⟨by have:=(hs s h).key;omega,by have:=(hs s h).value;omega⟩)) ?_
 rintro v13 _ ⟨o13,rfl⟩
 have hok:=fewK_in N l hs
 have hlen:=fewK_length N l
 obtain ⟨S0,hS⟩:∃ S0,S0=fewS N l:=⟨_,rfl⟩
 rw [← hS] at hok hlen ⊢
 (refine rn ?_;(repeat (first | intro (g:Nat) | intro (hcs:_=List.set _ _ _) | intro h)))
 refine Ex.sub (L':=WldA gw c (WSt.new c)::KLog g9 Lg.nil::Blk g10 50 (Rep.cells Clk.zero)::Blk g11 50 (Rep.cells Clk.zero)::Blk g12 53 (Rep.cells hb0)::Blk g6 23 (Rep.cells c)::RowT v13 29 S0::M) ?_ ?_
 ·refine Ex.loop [14] (fun z vs L'=>∃ (j:Nat) (w:WSt) (q:Lg) (ke ks:Clk) (hb:HsU),j≤S0.length∧z=S0.length - j∧WGd j c w∧KI c w q ke ks hb∧vs=[.int .i64 j]∧L'=WldA gw c w::KLog g9 q::Blk g10 50 (Rep.cells ke)::Blk g11 50 (Rep.cells ks)::Blk g12 53 (Rep.cells hb)::Blk g6 23 (Rep.cells c)::RowT v13 29 S0::M) S0.length ⟨0,WSt.new c,Lg.nil,Clk.zero,Clk.zero,hb0,by omega,rfl,g0,by rw [hhb];exact KI.new c hm,rfl,rfl⟩ ?_
  rintro z vs g1 L1 ⟨j,w,q,ke,ks,hb,hj,rfl,gj,hki,rfl,rfl⟩
  refine Ex.keep [6,7,9,10,11,12,13,14] rG (fun gk=>?_)
  by_cases hlt:j<S0.length
  ·have hsj:=hok (S0[j]'hlt) (List.getElem_mem hlt)
   have okw:WOk 198 c w:=(gj.mono rM).ok rM
   have gw2:=gj.step rM (S0[j]'hlt)
   have hwl:=wlt_step gj (S0[j]'hlt)
   have hki2:=hki.step hwl.1 (by have a1:=gj.n;have a2:=gw2.n;omega)
   have hed:=hwl.2
   have hke0:=hki.ke
   have hk0:=hki.k0
   clear hwl hki
   (refine rn ?_;(repeat (first | intro (g:Nat) | intro (hcs:_=List.set _ _ _) | intro h)))
   refine st_callIs [] rJ Tryz.call17 rE rJ (wStepA (k:=198) gw c w (S0[j]'hlt) _ okw (Nat.le_refl _) hsj) ?_
   rintro _ _ ⟨rfl,rfl⟩
   obtain ⟨w2,hw2⟩:∃ w2,w2=(w.step c (S0[j]'hlt)).1:=⟨_,rfl⟩
   obtain ⟨e2,he2⟩:∃ e2,e2=(w.step c (S0[j]'hlt)).2:=⟨_,rfl⟩
   rw [← hw2,← he2] at hed
   rw [← hw2] at gw2 hki2
   rw [← hw2,← he2]
   clear hw2 he2
   refine ExL.claim 1 [6,7,9,10,11,12,13,14] (fun vs L'=>∃ ke2:Clk,KI c w2 q ke2 ks hb∧vs=[ptrV g6,ptrV gw,ptrV g9,ptrV g10,ptrV g11,ptrV g12,v13,.int .i64 j]∧L'=WldA gw c w2::KLog g9 q::Blk g10 50 (Rep.cells ke2)::Blk g11 50 (Rep.cells ks)::Blk g12 53 (Rep.cells hb)::Blk g6 23 (Rep.cells c)::RowT v13 29 S0::M) ?_ ?_
   ·rintro vs g L' ⟨ke2,hki3,rfl,rfl⟩
    clear hed hki2
    have okw2:WOk 198 c w2:=(gw2.mono rM).ok rM
    have hn2:=gw2.n
    (refine rn ?_;(repeat (first | intro (g:Nat) | intro (hcs:_=List.set _ _ _) | intro h)))
    refine st_callIs [] rJ Tryz.call15 rE rJ (wHubA (k:=198) gw c w2 _ okw2 (Nat.le_refl _)) ?_
    rintro _ _ ⟨rfl,rfl⟩
    have hseen:w2.hub.siteU.up=true→KI c w2 q ke2 ks w2.hub.siteU∧HbLe hb w2.hub.siteU:=fun hu=>hki3.seen gw2 (by
     cases h:w2.hub.up with
     | true=>rfl
     | false=>rw [siteU_dn (by rw [h];simp)] at hu;cases hu)
    have hble:w2.hub.siteU.up=true→HbLe hb w2.hub.siteU:=fun hu=>(hseen hu).2
    have hhbx:w2.hub.siteU.up=true→∃ p,PLt p (hreplay c w2.hub.recs)∧w2.hub.siteU=⟨w2.hub.siteU.up,p.site⟩:=fun hu=>(hseen hu).1.hb
    generalize w2.hub.siteU=h2 at hble hhbx ⊢
    obtain ⟨b2,s2⟩:=h2
    obtain ⟨h2,hh2⟩:∃ h2:HsU,h2=⟨b2,s2⟩:=⟨_,rfl⟩
    rw [← hh2] at hble hhbx ⊢
    (refine rn ?_;(repeat (first | intro (g:Nat) | intro (hcs:_=List.set _ _ _) | intro h)))
    revert g
    intro g16
    refine Ex.sub (L':=WldA gw c w2::KLog g9 q::Blk g10 50 (Rep.cells ke2)::Blk g11 50 (Rep.cells ks)::Blk g12 53 (Rep.cells hb)::Blk g16 53 (Rep.cells h2)::Blk g6 23 (Rep.cells c)::RowT v13 29 S0::M) ?_ rP
    refine Ex.loop [17] (fun z vs L'=>∃ (r:Nat) (q:Lg) (ks:Clk),r≤N∧z=N - r∧KI c w2 q ke2 ks hb∧vs=[.int .i64 r]∧L'=WldA gw c w2::KLog g9 q::Blk g10 50 (Rep.cells ke2)::Blk g11 50 (Rep.cells ks)::Blk g12 53 (Rep.cells hb)::Blk g16 53 (Rep.cells h2)::Blk g6 23 (Rep.cells c)::RowT v13 29 S0::M) N ⟨0,q,ks,by omega,rfl,hki3,rfl,rfl⟩ ?_
    clear hki3 hseen
    rintro z vs g2 L2 ⟨r,q2,ks2,hrN,rfl,hki4,rfl,rfl⟩
    refine Ex.keep [6,7,9,10,11,12,13,14,16,17] rG (fun gk=>?_)
    by_cases hrl:r<N
    ·have hN5:N≤5:=by omega
     have hh:w2.has (r:Int):=⟨by omega,by omega⟩
     (refine rn ?_;(repeat (first | intro (g:Nat) | intro (hcs:_=List.set _ _ _) | intro h)))
     refine st_callIs [] rJ Tryz.call22 rE rJ (wSiteA (k:=198) gw c w2 r _ okw2 (Nat.le_refl _) hh) ?_
     rintro _ _ ⟨u1,u2,ou1,ou2,rfl,rfl⟩
     refine ExL.claim 1 [6,7,9,10,11,12,13,14,16,17] (fun vs L'=>∃ (q3:Lg) (ks3:Clk),KI c w2 q3 ke2 ks3 hb∧vs=[ptrV g6,ptrV gw,ptrV g9,ptrV g10,ptrV g11,ptrV g12,v13,.int .i64 j,ptrV g16,.int .i64 r]∧L'=WldA gw c w2::KLog g9 q3::Blk g10 50 (Rep.cells ke2)::Blk g11 50 (Rep.cells ks3)::Blk g12 53 (Rep.cells hb)::Blk g16 53 (Rep.cells h2)::Blk g6 23 (Rep.cells c)::RowT v13 29 S0::M) ?_ ?_
     ·rintro vs g L' ⟨q3,ks3,hki5,rfl,rfl⟩
      clear hki4
      (refine rn ?_;(repeat (first | intro (hcs:_=List.set _ _ _) | intro h)))
      cases b2
      ·subst hh2
       (refine mu24 ?_;(repeat (first | intro (hcs:_=List.set _ _ _) | intro h)))
       (refine rn ?_;(repeat (first | intro (hcs:_=List.set _ _ _) | intro h)))
       refine Ex.loop [19] (fun z vs L'=>∃ k:Nat,k≤N∧z=N - k∧vs=[.int .i64 k]∧L'=WldA gw c w2::KLog g9 q3::Blk g10 50 (Rep.cells ke2)::Blk g11 50 (Rep.cells ks3)::Blk g12 53 (Rep.cells hb)::Blk g16 53 (Rep.cells (⟨false,s2⟩:HsU))::Blk g6 23 (Rep.cells c)::RowT v13 29 S0::M) N ⟨0,by omega,rfl,rfl,rfl⟩ ?_
       rintro z vs g3 L3 ⟨k,hkN,rfl,rfl,rfl⟩
       refine Ex.keep [6,7,9,10,11,12,13,14,16,17,19] rG (fun gk=>?_)
       by_cases hkl:k<N
       ·(refine rn ?_;(repeat (first | intro (hcs:_=List.set _ _ _) | intro h)))
        (refine mu17 ?_;(repeat (first | intro (hcs:_=List.set _ _ _) | intro h)))
        (refine rn ?_;(repeat (first | intro (hcs:_=List.set _ _ _) | intro h)))
        refine rnd_n ⟨N - (k+1),WldA gw c w2::KLog g9 q3::Blk g10 50 (Rep.cells ke2)::Blk g11 50 (Rep.cells ks3)::Blk g12 53 (Rep.cells hb)::Blk g16 53 (Rep.cells (⟨false,s2⟩:HsU))::Blk g6 23 (Rep.cells c)::RowT v13 29 S0::M,by omega,rP,k+1,by omega,rfl,lcons (vint rM) rfl,rfl⟩
       ·obtain rfl:k=N:=by omega
        (refine rn ?_;(repeat (first | intro (hcs:_=List.set _ _ _) | intro h)))
        refine rnd_n ⟨k - (r+1),WldA gw c w2::KLog g9 q3::Blk g10 50 (Rep.cells ke2)::Blk g11 50 (Rep.cells ks3)::Blk g12 53 (Rep.cells hb)::Blk g16 53 (Rep.cells (⟨false,s2⟩:HsU))::Blk g6 23 (Rep.cells c)::RowT v13 29 S0::M,by omega,rP,r+1,q3,ks3,by omega,rfl,hki5,lcons (vint rM) rfl,rfl⟩
      ·subst hh2
       have hle:=hble rfl
       have hr6:r<5:=by omega
       have hx1:=hle.base r hr6
       have hx2:=hle.len r hr6
       clear hble hhbx
       obtain ⟨R,hR⟩:∃ R,R=r:=⟨r,rfl⟩
       have hr5:r=0∨r=1∨r=2∨r=3∨r=4:=by omega
       rcases hr5 with rfl | rfl | rfl | rfl | rfl
       all_goals
        simp only [Clk.get] at hx1 hx2
        (refine mu24 ?_;(repeat (first | intro (hcs:_=List.set _ _ _) | intro h)))
        (refine rn ?_;(repeat (first | intro (hcs:_=List.set _ _ _) | intro h)))
        refine Ex.loop [19] (fun z vs L'=>∃ k:Nat,k≤N∧z=N - k∧vs=[.int .i64 k]∧L'=WldA gw c w2::KLog g9 q3::Blk g10 50 (Rep.cells ke2)::Blk g11 50 (Rep.cells ks3)::Blk g12 53 (Rep.cells hb)::Blk g16 53 (Rep.cells (⟨true,s2⟩:HsU))::Blk g6 23 (Rep.cells c)::RowT v13 29 S0::M) N ⟨0,by omega,rfl,rfl,rfl⟩ ?_
        rintro z vs g3 L3 ⟨k,hkN,rfl,rfl,rfl⟩
        refine Ex.keep [6,7,9,10,11,12,13,14,16,17,19] rG (fun gk=>?_)
        by_cases hkl:k<N
        ·have ha:=hle.row _ (k:Int).toNat hr6 rM
         simp only [hsL,Nat.reduceMul,List.drop_succ_cons,List.drop_zero] at ha
         (refine rn ?_;(repeat (first | intro (hcs:_=List.set _ _ _) | intro h)))
         (refine mu17 ?_;(repeat (first | intro (hcs:_=List.set _ _ _) | intro h)))
         (refine rn ?_;(repeat (first | intro (hcs:_=List.set _ _ _) | intro h)))
         refine rnd_n ⟨N - (k+1),WldA gw c w2::KLog g9 q3::Blk g10 50 (Rep.cells ke2)::Blk g11 50 (Rep.cells ks3)::Blk g12 53 (Rep.cells hb)::Blk g16 53 (Rep.cells (⟨true,s2⟩:HsU))::Blk g6 23 (Rep.cells c)::RowT v13 29 S0::M,by omega,rP,k+1,by omega,rfl,lcons (vint rM) rfl,rfl⟩
        ·obtain rfl:k=N:=by omega
         (refine rn ?_;(repeat (first | intro (hcs:_=List.set _ _ _) | intro h)))
         refine rnd_n ⟨k - (R+1),WldA gw c w2::KLog g9 q3::Blk g10 50 (Rep.cells ke2)::Blk g11 50 (Rep.cells ks3)::Blk g12 53 (Rep.cells hb)::Blk g16 53 (Rep.cells (⟨true,s2⟩:HsU))::Blk g6 23 (Rep.cells c)::RowT v13 29 S0::M,by omega,rP,R+1,q3,ks3,by omega,rfl,hki5,lcons (vint rM) rfl,rfl⟩
     ·intro HC
      by_cases hup:(w2.node r).up=true
      ·have hrp:=((gw2.nd r hh).up hup).2
       have hlg:=hki4.lg r hh
       have hks:=hki4.ks r hh
       have hke:=hki4.ke r hh
       have hck:=(gw2.nd r hh).clk hup
       have e:(w2.node r).site=⟨true,(w2.node r).clk,(w2.node r).sent,(w2.node r).held.map Ev.mk_,(w2.node r).log.map Ev.mk_⟩:=by unfold NSt.site;rw [if_pos hup]
       rw [e]
       have hki6:=fun u ou=>hki4.put r rM u ou hrp
       rw [hrp] at hlg hks hke
       simp only at hlg hks hke
       rw [← hck] at hke
       have hrl2:=(gw2.nd r hh).dur.rlen
       rw [hrp] at hrl2
       have hrl3:((w2.node r).log.map Ev.mk_).length≤1000000:=by rw [List.length_map];simp only at hrl2;omega
       clear hrl2
       generalize (w2.node r).held.map Ev.mk_=hd
       generalize (w2.node r).log.map Ev.mk_=lg at hlg hki6 hrl3 ⊢
       generalize (w2.node r).clk=ck at hke ⊢
       generalize (w2.node r).sent=sn at hks hki6 ⊢
       clear hrp hck e hup
       refine ExL.sub (L':=Blk g9 92 (lgC q2)::Blk g10 50 (Rep.cells ke2)::Blk g11 50 (Rep.cells ks2)::Mks u2 lg::Mks (q2.v 0) (q2.l 0)::Mks (q2.v 1) (q2.l 1)::Mks (q2.v 2) (q2.l 2)::Mks (q2.v 3) (q2.l 3)::Mks (q2.v 4) (q2.l 4)::Mks u1 hd::WldA gw c w2::Blk g12 53 (Rep.cells hb)::Blk g16 53 (Rep.cells h2)::Blk g6 23 (Rep.cells c)::RowT v13 29 S0::M) ?_ (Sub.trans (B:=Blk g9 92 (lgC q2)::Mks (q2.v 0) (q2.l 0)::Mks (q2.v 1) (q2.l 1)::Mks (q2.v 2) (q2.l 2)::Mks (q2.v 3) (q2.l 3)::Mks (q2.v 4) (q2.l 4)::Mks u1 hd::Mks u2 lg::WldA gw c w2::Blk g10 50 (Rep.cells ke2)::Blk g11 50 (Rep.cells ks2)::Blk g12 53 (Rep.cells hb)::Blk g16 53 (Rep.cells h2)::Blk g6 23 (Rep.cells c)::RowT v13 29 S0::M) rP (Sub.trans (B:=KLog g9 q2::Mks u1 hd::Mks u2 lg::WldA gw c w2::Blk g10 50 (Rep.cells ke2)::Blk g11 50 (Rep.cells ks2)::Blk g12 53 (Rep.cells hb)::Blk g16 53 (Rep.cells h2)::Blk g6 23 (Rep.cells c)::RowT v13 29 S0::M) (KLog.opn g9 q2 _) rP))
       have hr5:r=0∨r=1∨r=2∨r=3∨r=4:=by omega
       have hl3:=hlg.length_le
       have htk:lg.take (q2.l r).length=q2.l r:=(List.prefix_iff_eq_take.1 hlg).symm
       have hl4:(lg.take (q2.l r).length).length≤1000000:=by rw [htk];omega
       have hl5:(q2.l r).length≤1000000:=by omega
       rcases hr5 with rfl | rfl | rfl | rfl | rfl
       all_goals
        simp only [Clk.get] at hks hke
        refine capK hl5 (by first | exact RdT.row 4 rfl | exact RdT.row 5 rfl | exact RdT.row 6 rfl | exact RdT.row 7 rfl | exact RdT.row 8 rfl) (fun hcd=>?_)
        (refine rn ?_;(repeat (first | intro (hcs:_=List.set _ _ _) | intro h)))
        (refine Ex.mixA 40 _ rfl rQ (Fac.refl _) ?_;(repeat' (first | (refine m1 ?_;(repeat (first | intro (hcs:_=List.set _ _ _) | intro h))) | (refine mx_gsplit rJ rJ rJ (fun h=>?_) (fun h=>?_) <;> try (exfalso;omega)))))
        (refine mx_act rJ rJ rJ ?_;refine st_callIs [] rJ Tryz.call29 rE rJ (SameMarks_F _ _ _ _ _ (RdT.to (xs:=lg) (RdT.row 4 rfl) hl3 rfl) (by first | exact RdT.row 5 rfl | exact RdT.row 6 rfl | exact RdT.row 7 rfl | exact RdT.row 8 rfl | exact RdT.row 9 rfl) hl4 hl5) ?_)
        rintro _ _ ⟨rfl,rfl⟩
        rw [decide_eq_true htk]
        refine ExL.nil ?_
        refine mxEnd_n rF ?_
        (repeat' (first | (refine m1 ?_;(repeat (first | intro (hcs:_=List.set _ _ _) | intro h))) | (refine mx_gsplit rJ rJ rJ (fun h=>?_) (fun h=>?_) <;> try (exfalso;omega))))
        (refine rn ?_;(repeat (first | intro (hcs:_=List.set _ _ _) | intro h)))
        exact HC _ _ ⟨_,Sub.trans (B:=KLog g9 _::WldA gw c w2::Blk g10 50 (Rep.cells ke2)::Blk g11 50 (Rep.cells (Clk.set ks2 _ sn))::Blk g12 53 (Rep.cells hb)::Blk g16 53 (Rep.cells h2)::Blk g6 23 (Rep.cells c)::RowT v13 29 S0::M) rP (Sub.trans (KLog.cls g9 _ _) rP),_,_,hki6 u2 ou2,rfl,rfl⟩
      ·have e:(w2.node r).site=SiteP.zero:=by unfold NSt.site;rw [if_neg hup]
       rw [e]
       (refine rn ?_;(repeat (first | intro (hcs:_=List.set _ _ _) | intro h)))
       exact HC _ _ ⟨_,rP,q2,ks2,hki4,rfl,rfl⟩
    ·obtain rfl:r=N:=by omega
     cases b2
     ·subst hh2
      (refine rn ?_;(repeat (first | intro (hcs:_=List.set _ _ _) | intro h)))
      refine rnd_n ⟨S0.length - (j+1),WldA gw c w2::KLog g9 q2::Blk g10 50 (Rep.cells ke2)::Blk g11 50 (Rep.cells ks2)::Blk g12 53 (Rep.cells hb)::Blk g6 23 (Rep.cells c)::RowT v13 29 S0::M,by omega,rP,j+1,w2,q2,ke2,ks2,hb,by omega,rfl,gw2,hki4,lcons (vint rM) rfl,rfl⟩
     ·subst hh2
      have hu2:(⟨true,s2⟩:HsU).up=true:=rfl
      have hki5:KI c w2 q2 ke2 ks2 ⟨true,s2⟩:=⟨hki4.k0,hki4.lg,hki4.ks,hki4.ke,hhbx hu2⟩
      (refine rn ?_;(repeat (first | intro (hcs:_=List.set _ _ _) | intro h)))
      refine rnd_n ⟨S0.length - (j+1),WldA gw c w2::KLog g9 q2::Blk g10 50 (Rep.cells ke2)::Blk g11 50 (Rep.cells ks2)::Blk g12 53 (Rep.cells (⟨true,s2⟩:HsU))::Blk g6 23 (Rep.cells c)::RowT v13 29 S0::M,by omega,rP,j+1,w2,q2,ke2,ks2,⟨true,s2⟩,by omega,rfl,gw2,hki5,lcons (vint rM) rfl,rfl⟩
   ·intro HC
    by_cases h0:(S0[j]'hlt).kind=0
    ·by_cases he:e2=0
     ·obtain ⟨hh,hcl⟩:=hed h0 he
      have hr1:=hh.1
      have hr2:=hh.2
      have hgn:=gj.n
      subst he
      obtain ⟨R,hR⟩:∃ R,R=(S0[j]'hlt).r.toNat:=⟨_,rfl⟩
      have hRr:(S0[j]'hlt).r=(R:Int):=by omega
      have hR5:R<5:=by omega
      have hke:=hke0 R (by rw [← hRr];exact hh)
      rw [hRr,show ((R:Int)).toNat=R from Int.toNat_natCast R] at hcl
      have hk1:=hk0 R hR5
      have hbd:(clkOfLog (replay (w.node R).recs).1).get R≤1048576:=by
       have d:=(gj.nd R (by rw [← hRr];exact hh)).dur
       have:=(clkOfLog_bd _ (Ev.May.r5 d.revs) R hR5).2
       have:=d.rlen
       omega
      have e1:=Clk.getD_eq ke R
      have hg1:0≤[ke.a,ke.b,ke.c,ke.d,ke.e].getD (S0[j]'hlt).r.toNat 0:=by rw [← hR,e1];exact hk1
      have hg2:[ke.a,ke.b,ke.c,ke.d,ke.e].getD (S0[j]'hlt).r.toNat 0≤1048576:=by rw [← hR,e1];omega
      have hki7:=hki2.edit R hR5 (by rw [hcl];omega)
      have hcl5:(Rep.cells ke).length=5:=rfl
      clear hed hke0 hk0
      (refine rn ?_;(repeat (first | intro (hcs:_=List.set _ _ _) | intro h)))
      rw [← hR,show 0+R * 1=R by omega,e1,Clk.cells_set ke R hR5] at hcs
      subst hcs
      exact HC _ _ ⟨_,rP,_,hki7,rfl,rfl⟩
     ·(refine rn ?_;intros)
      exact HC _ _ ⟨_,rP,ke,hki2,rfl,rfl⟩
    ·(refine rn ?_;intros)
     exact HC _ _ ⟨_,rP,ke,hki2,rfl,rfl⟩
  ·obtain rfl:j=S0.length:=by omega
   exact re1
 ·exact Sub.trans (B:=KLog g9 Lg.nil::WldA gw c (WSt.new c)::Blk g10 50 (Rep.cells Clk.zero)::Blk g11 50 (Rep.cells Clk.zero)::Blk g12 53 (Rep.cells hb0)::Blk g6 23 (Rep.cells c)::RowT v13 29 S0::M) rP (Sub.trans (KLog.new g9 _) rP)
end
end
section
open Go.ChangeShapes Go.WideShapes Go.ChangeAt Go.RowKit
set_option maxRecDepth 20000 in
theorem topKeeps_j2:(laidOutB Tryz.prog)=true:=by kernel_rfl
set_option maxRecDepth 20000 in
theorem topKeeps_j3:(mapsRowed Tryz.prog)=true:=by kernel_rfl
set_option maxRecDepth 20000 in
theorem topKeeps_j5:(namedTie Tryz.prog Rows.topKeepsRow.named Rows.topKeepsSpec.vars)=true:=by kernel_rfl
set_option maxRecDepth 20000 in
theorem topKeeps_j10:((Rows.topKeepsRow.inPlace == Tryz.prog.inPlace 6))=true:=by kernel_rfl
set_option maxRecDepth 20000 in
theorem topKeeps_j11:((Rows.topKeepsRow.unfollowed == Tryz.prog.unfollowed 6))=true:=by kernel_rfl
set_option maxRecDepth 20000 in
theorem topKeeps_j12:((Rows.topKeepsRow.recurses == Tryz.prog.recurses 6))=true:=by kernel_rfl
set_option maxRecDepth 20000 in
theorem topKeeps_j13:((Rows.topKeepsRow.named == Tryz.prog.varsNamed 6))=true:=by kernel_rfl
set_option maxRecDepth 20000 in
theorem topKeeps_j23:((Rows.topKeepsRow.plainKeys == Tryz.prog.plainKeys))=true:=by kernel_rfl
set_option maxRecDepth 20000 in
theorem topKeeps_j27:((Rows.topKeepsRow.lifted == Tryz.prog.liftsFinal))=true:=by kernel_rfl
theorem topKeeps_bt {a b:Bool} (h:a=true) (k:b=true):(a && b)=true:=by rw [h,k];rfl
set_option maxRecDepth 20000 in
theorem topKeeps_jf:joinedFacts Tryz.prog 6 Tryz.f6 Rows.topKeepsSpec Rows.topKeepsRow=true:=by
 unfold joinedFacts
 exact (topKeeps_bt (topKeeps_bt (topKeeps_bt (topKeeps_bt (topKeeps_bt (topKeeps_bt (topKeeps_bt (topKeeps_bt (topKeeps_bt (topKeeps_bt (topKeeps_bt (topKeeps_bt (topKeeps_bt (topKeeps_bt (topKeeps_bt (topKeeps_bt (topKeeps_bt (topKeeps_bt (topKeeps_bt (topKeeps_bt (topKeeps_bt (topKeeps_bt (topKeeps_bt (topKeeps_bt (topKeeps_bt (topKeeps_bt (topKeeps_bt (topKeeps_bt (topKeeps_bt (topKeeps_bt (topKeeps_bt rQ topKeeps_j2) topKeeps_j3) rQ) topKeeps_j5) rQ) rQ) rQ) rQ) topKeeps_j10) topKeeps_j11) topKeeps_j12) topKeeps_j13) rQ) rQ) rQ) rQ) rQ) rQ) rQ) rQ) rQ) topKeeps_j23) rQ) rQ) rQ) topKeeps_j27) rQ) rQ) rQ) rQ) rQ)
set_option maxRecDepth 20000 in
theorem topKeeps_in:Tryz.f6.isInstance Tryz.prog Rows.topKeepsRow.origin Rows.topKeepsRow.targs:=of_decide_eq_true rQ
set_option maxRecDepth 20000 in
theorem topKeeps_wr:Tryz.f6.isWrapper Tryz.prog Rows.topKeepsRow.wrapper Rows.topKeepsRow.mainSum:=by unfold Func.isWrapper;first | (rw [if_pos (by decide +kernel)];kernel_rfl) | (rw [if_neg (by decide +kernel)];exact ⟨rfl,rfl⟩)
end
end Go.Proofs.YtogcfijlhpaeeaaGreat
