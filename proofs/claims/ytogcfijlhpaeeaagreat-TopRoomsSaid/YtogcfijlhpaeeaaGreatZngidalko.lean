/- Texts, one behind the other. No condition. -/
import Derived.Test.YtogcfijlhpaeeaaGreatChecked
import Derived.Test.YtogcfijlhpaeeaaGreatRows
import Derived.Test.YtogcfijlhpaeeaaGreatZbndogacj
import Derived.Test.YtogcfijlhpaeeaaGreatZdfampcdg
import Derived.Test.YtogcfijlhpaeeaaGreatZehjcikgl
import Derived.Test.YtogcfijlhpaeeaaGreatZmnaoofmf
open Go.RowKit
set_option linter.unusedSimpArgs false
set_option linter.unusedVariables false
set_option linter.unusedSectionVars false
set_option maxHeartbeats 32000000
namespace Go.Proofs.YtogcfijlhpaeeaaGreat
section
section
variable {P:Ev→Prop}
def NAll (P:Ev→Prop) (st:NSt):Prop:=(∀ e∈(replay st.recs).1,P e)∧(st.up=true→(∀ e∈st.held,P e)∧∀ e∈st.wait,P e)
def HAll (P:Ev→Prop) (c:Cfg) (st:HSt):Prop:=∀ s∈(hreplay c st.recs).sf,∀ e∈s.all,P e
structure WAll (P:Ev→Prop) (c:Cfg) (w:WSt):Prop where
 nd:∀ r:Int,w.has r→NAll P (w.node r)
 hub:HAll P c w.hub
 fl:∀ x∈w.fl,∀ e∈x.2.l,P e
theorem write_recs (st:NSt) (x:Rcd):(st.write x).1.recs=st.recs∨(st.write x).1.recs=st.recs++[x]:=by
 unfold NSt.write
 split
 ·simp only
  split
  ·exact .inr rfl
  ·exact .inl rfl
 ·exact .inr rfl
theorem hwrite_recs (st:HSt) (x:Rcd):(st.write x).1.recs=st.recs∨(st.write x).1.recs=st.recs++[x]:=by
 unfold HSt.write
 split
 ·simp only
  split
  ·exact .inr rfl
  ·exact .inl rfl
 ·exact .inr rfl
theorem NAll.down {st:NSt} (h:∀ e∈(replay st.recs).1,P e) (hd:st.up=false):NAll P st:=⟨h,fun hu=>by rw [hd] at hu;cases hu⟩
theorem all_write {st:NSt} {x:Rcd} (h:∀ e∈(replay st.recs).1,P e) (hx:∀ e∈(rpStep (replay st.recs) x).1,P e):∀ e∈(replay (st.write x).1.recs).1,P e:=by
 rcases write_recs st x with hr | hr
 ·rw [hr];exact h
 ·rw [hr,replay_snoc];exact hx
theorem NAll.start {k:Nat} {c:Cfg} {r:Int} {st:NSt} (g:NGd k c r st) (h:NAll P st):NAll P (st.start c r).1:=by
 unfold NSt.start
 split
 ·exact h
 ·have h5:=g.r5
  have hq:=g.cm.q
  obtain ⟨o1,o2⟩:=outOf_len c.q r (replay st.recs).2 h5 g.dur.rsent.1 _ g.dur.num (Ev.May.r5 g.dur.revs) g.dur.rsent.2.2 rM
  exact ⟨h.1,fun _=>⟨(fun e he=>by cases he),fun e he=>h.1 e (o2 e he).1⟩⟩
theorem addR_mem {q s:Int} {w:List Ev} {e y:Ev} (h:y∈(addR q s w e).2):y∈w∨y=e:=by
 unfold addR at h
 split at h
 ·exact .inl h
 ·split at h
  ·rcases List.mem_append.1 h with h | h
   ·exact .inl h
   ·simp at h;exact .inr h
  ·exact .inl h
theorem NAll.edit {k:Nat} {c:Cfg} {r:Int} {st:NSt} (g:NGd k c r st) (h:NAll P st) (e:Ed) (hn:st.editE c r e=0→P (st.mk1 r e)):NAll P (st.edit c r e).1:=by
 unfold NSt.edit
 by_cases hE:st.editE c r e≠0
 ·rw [if_pos hE];exact h
 rw [if_neg hE]
 have hE:st.editE c r e=0:=by simpa using hE
 have hu:st.up=true:=by
  cases hh:st.up with
  | true=>rfl
  | false=>unfold NSt.editE at hE;rw [if_pos hh] at hE;cases hE
 have hP:=hn hE
 have hrp:=(g.up hu).2
 have hx:∀ y∈(rpStep (replay st.recs) (rcEv 1 r [st.mk1 r e])).1,P y:=by
  rw [hrp]
  show ∀ y∈st.log++[st.mk1 r e],P y
  intro y hy
  have h1:=h.1
  rw [hrp] at h1
  rcases List.mem_append.1 hy with hy | hy
  ·exact h1 y hy
  ·simp at hy;rw [hy];exact hP
 have hw:=all_write h.1 hx
 split
 ·rename_i hwe;exact NAll.down hw (((st.write_up _).2 hwe))
 ·rename_i hwe
  have hwe:(st.write (rcEv 1 r [st.mk1 r e])).2=0:=by simpa using hwe
  rw [write_same hwe] at hw ⊢
  exact ⟨hw,fun _=>⟨(h.2 hu).1,fun y hy=>(addR_mem hy).elim ((h.2 hu).2 y) (fun e=>e ▸ hP)⟩⟩
theorem NAll.state {k:Nat} {c:Cfg} {r:Int} {st:NSt} (g:NGd k c r st) (h:NAll P st):NAll P (st.state r).1:=by
 unfold NSt.state
 split
 ·exact h
 rename_i hu0
 have hu:st.up=true:=by cases hh:st.up with
  | true=>rfl
  | false=>exact absurd hh hu0
 split
 ·exact h
 have hrp:=(g.up hu).2
 have hl:∀ y∈st.log,P y:=by have:=h.1;rw [hrp] at this;exact this
 have hw:=all_write (x:=⟨4,r,st.sent,Clk.zero,st.log⟩) h.1 hl
 split
 ·rename_i hwe;exact NAll.down hw (((st.write_up _).2 hwe))
 ·rename_i hwe
  have hwe:(st.write ⟨4,r,st.sent,Clk.zero,st.log⟩).2=0:=by simpa using hwe
  simp only
  rw [write_same hwe] at hw ⊢
  exact ⟨hw,h.2⟩
theorem NAll.take {k:Nat} {c:Cfg} {r:Int} {st:NSt} (g:NGd k c r st) (h:NAll P st) {f:Rcd×Int} (hf:∀ e∈f.1.l,P e):NAll P (st.takeC c r f).1:=by
 unfold NSt.takeC
 split
 ·exact h
 rename_i hu0
 have hu:st.up=true:=by cases hh:st.up with
  | true=>rfl
  | false=>exact absurd hh hu0
 have hrp:=(g.up hu).2
 have hl:∀ y∈st.log,P y:=by have:=h.1;rw [hrp] at this;exact this
 split
 ·exact h
 split
 ·exact h
 split
 ·exact h
 split
 ·unfold NSt.pushed
  simp only
  split
  ·exact h
  have hw:=all_write (x:=⟨3,r,max st.sent (min f.1.upto (st.clk.get r.toNat)),Clk.zero,[]⟩) h.1 h.1
  split
  ·rename_i hwe;exact NAll.down hw (((st.write_up _).2 hwe))
  ·rename_i hwe
   have hwe:(st.write ⟨3,r,max st.sent (min f.1.upto (st.clk.get r.toNat)),Clk.zero,[]⟩).2=0:=by simpa using hwe
   simp only
   rw [write_same hwe] at hw ⊢
   exact ⟨hw,fun _=>⟨(h.2 hu).1,fun y hy=>(h.2 hu).2 y (List.mem_of_mem_drop hy)⟩⟩
 split
 ·unfold NSt.eventsC
  obtain ⟨m1,m2,_⟩:=drainL_mem st.clk (st.held++f.1.l)
  have hX:∀ e∈st.held++f.1.l,P e:=fun e he=>(List.mem_append.1 he).elim ((h.2 hu).1 e) (hf e)
  split
  ·exact h
  split
  ·exact ⟨h.1,fun _=>⟨fun e he=>hX e (m2 e he),(h.2 hu).2⟩⟩
  have hw:=all_write (x:=rcEv 2 r (drainL st.clk (st.held++f.1.l)).1) h.1 (by
   rw [hrp]
   show ∀ y∈st.log++_,P y
   intro y hy
   exact (List.mem_append.1 hy).elim (hl y) (fun hy=>hX y (m1 y hy)))
  split
  ·rename_i hwe;exact NAll.down hw (((st.write_up _).2 hwe))
  ·rename_i hwe
   have hwe:(st.write (rcEv 2 r (drainL st.clk (st.held++f.1.l)).1)).2=0:=by simpa using hwe
   simp only
   rw [write_same hwe] at hw ⊢
   exact ⟨hw,fun _=>⟨fun e he=>hX e (m2 e he),(h.2 hu).2⟩⟩
 ·exact h
def PAll (P:Ev→Prop) (p:PSt):Prop:=∀ s∈p.sf,∀ e∈s.all,P e
theorem PAll.alls {p q:PSt} (h:PAll P p) (he:q.alls=p.alls):PAll P q:=fun s hs e hse=>by
 have:s.all∈q.alls:=List.mem_map.2 ⟨s,hs,rfl⟩
 rw [he] at this
 obtain ⟨t,ht,hte⟩:=List.mem_map.1 this
 exact h t ht e (by rw [hte];exact hse)
theorem PAll.push {p:PSt} (h:PAll P p) (most r:Int) {l:List Ev} (hl:∀ e∈l,P e):PAll P (p.pushC most r l).2.2:=by
 rcases push_alls most p r l with he | ⟨_,_,he⟩
 ·exact h.alls he
 ·intro s hs e hse
  have:s.all∈(p.pushC most r l).2.2.alls:=List.mem_map.2 ⟨s,hs,rfl⟩
  rw [he] at this
  rcases List.mem_or_eq_of_mem_set this with hm | hm
  ·obtain ⟨t,ht,hte⟩:=List.mem_map.1 hm
   exact h t ht e (by rw [hte];exact hse)
  ·rw [hm] at hse
   rcases List.mem_append.1 hse with hse | hse
   ·rcases getD_mem_or p.alls r.toNat [] with hg | hg
    ·obtain ⟨t,ht,hte⟩:=List.mem_map.1 hg
     exact h t ht e (by rw [hte];exact hse)
    ·rw [hg] at hse;cases hse
   ·refine hl e ?_
    unfold Sf.putS putC at hse
    split at hse
    ·cases hse
    ·split at hse
     ·cases hse
     ·exact (List.mem_filter.1 hse).1
theorem PAll.ack {p:PSt} (h:PAll P p) (r:Int) (c:Clk):PAll P (p.ack r c).2:=h.alls (ack_alls p r c)
theorem PAll.fetch {p:PSt} (h:PAll P p) (r:Int) (ck:Clk):∀ e∈(p.fetch r ck).1,P e:=by
 have h1:∀ i,∀ e∈above (ck.get i) ((p.sf.getD i Sf.none).all.drop (p.sf.getD i Sf.none).cut),P e:=fun i e he=>by
  unfold above at he
  have he:=List.mem_of_mem_drop (List.mem_filter.1 he).1
  rcases getD_mem_or p.sf i Sf.none with hg | hg
  ·exact h _ hg e he
  ·rw [hg] at he;cases he
 have key:∀ j,∀ e∈p.getN r ck j,P e:=by
  intro j
  induction j with
  | zero=>intro e he;cases he
  | succ j ih =>
   intro e he
   unfold PSt.getN at he
   split at he
   ·exact (List.mem_append.1 he).elim (ih e) (h1 j e)
   ·exact ih e he
 unfold PSt.fetch
 split
 ·intro e he;cases he
 ·exact key _
theorem hall_write {c:Cfg} {st:HSt} {x:Rcd} (h:PAll P (hreplay c st.recs)) (hx:PAll P (hpStep c (hreplay c st.recs) x)):PAll P (hreplay c (st.write x).1.recs):=by
 rcases hwrite_recs st x with hr | hr
 ·rw [hr];exact h
 ·rw [hr,hreplay_snoc];exact hx
theorem HAll.take {k:Nat} {c:Cfg} {st:HSt} (g:HGd k c st) (h:HAll P c st) {f:Rcd×Int} (hf:∀ e∈f.1.l,P e):HAll P c (st.take c f).1∧∀ e∈(st.take c f).2.2.1.l,P e:=by
 have z:∀ e∈Rcd.zero.l,P e:=fun e he=>by cases he
 have h:PAll P (hreplay c st.recs):=h
 unfold HSt.take
 split
 ·exact ⟨h,z⟩
 rename_i hu0
 have hu:st.up=true:=by cases hh:st.up with
  | true=>rfl
  | false=>exact absurd hh hu0
 have hrp:=(g.up hu).2
 have hp:PAll P st.post:=by rw [← hrp];exact h
 split
 ·exact ⟨h,z⟩
 split
 ·exact ⟨h,z⟩
 split
 ·unfold HSt.push
  split
  ·exact ⟨h,z⟩
  split
  ·exact ⟨h,fun e he=>by cases he⟩
  have hw:=hall_write (x:=rcEv 5 f.1.r f.1.l) h (by rw [hrp];exact hp.push c.w f.1.r hf)
  split
  ·exact ⟨hw,z⟩
  ·exact ⟨hw,fun e he=>by cases he⟩
 split
 ·refine ⟨h,?_⟩
  unfold HSt.fetch
  split
  ·exact z
  ·exact hp.fetch f.1.r f.1.c
 split
 ·refine ⟨?_,z⟩
  unfold HSt.ack
  split
  ·exact h
  split
  ·exact h
  have hw:=hall_write (x:=⟨6,f.1.r,0,f.1.c,[]⟩) h (by rw [hrp];exact hp.ack f.1.r f.1.c)
  split
  ·exact hw
  ·exact hw
 ·exact ⟨h,z⟩
theorem WAll.upd {c:Cfg} {w:WSt} (h:WAll P c w) {r:Int} (hr:w.has r) {s:NSt} (hs:NAll P s):WAll P c (w.upd r s):=by
 refine ⟨fun q hq=>?_,h.hub,h.fl⟩
 have hq2:=(upd_has w r s q).1 hq
 rw [upd_node hr s q hq2.1]
 split
 ·exact hs
 ·exact h.nd q hq2
theorem WAll.fly {c:Cfg} {w:WSt} (h:WAll P c w) (t:Int) {x:Rcd} (hx:∀ e∈x.l,P e):WAll P c { w with fl:=w.fl++[(t,x)] }:=by
 refine ⟨h.nd,h.hub,fun y hy=>?_⟩
 rcases List.mem_append.1 hy with hy | hy
 ·exact h.fl y hy
 ·simp at hy;subst hy;exact hx
theorem WAll.send {c:Cfg} {w:WSt} (h:WAll P c w) {p:Rcd×Int} (hp:∀ e∈p.1.l,P e):WAll P c (w.send p).1:=by
 unfold WSt.send
 simp only
 split
 ·exact h.fly 5 hp
 ·exact h
theorem WAll.arrive {k:Nat} {c:Cfg} {w:WSt} (g:WGd k c w) (h:WAll P c w) (to:Int) {f:Rcd×Int} (hf:∀ e∈f.1.l,P e):WAll P c (w.arrive c to f).1:=by
 unfold WSt.arrive
 split
 ·rename_i hh;exact h.upd hh ((h.nd to hh).take (g.nd to hh) hf)
 ·obtain ⟨h1,h2⟩:=h.hub.take g.hub hf
  simp only
  split
  ·refine ⟨h.nd,h1,fun y hy=>?_⟩
   rcases List.mem_append.1 hy with hy | hy
   ·exact h.fl y hy
   ·simp at hy;subst hy;exact h2
  ·exact ⟨h.nd,h1,h.fl⟩
theorem burstF_all {x:Rcd} (hx:∀ e∈x.l,P e) (bit mask:Int):∀ e∈(burstF x bit mask).1.l,P e:=by
 unfold burstF
 split
 ·exact hx
 ·exact fun e he=>by cases he
theorem fl_getD_all {c:Cfg} {w:WSt} (h:WAll P c w) (i:Nat):∀ e∈(w.fl.getD i (0,Rcd.zero)).2.l,P e:=by
 rcases getD_mem_or w.fl i (0,Rcd.zero) with hg | hg
 ·exact h.fl _ hg
 ·rw [hg];exact fun e he=>by cases he
theorem WAll.flight {k:Nat} {c:Cfg} {w:WSt} (g:WGd k c w) (h:WAll P c w) (s:Stp):WAll P c (w.flight c s).1:=by
 unfold WSt.flight
 split
 ·have hx:=fl_getD_all h s.at_.toNat
  have h2:WAll P c (if s.kind=5 then w else { w with fl:=tkA w.fl s.at_ })∧WGd k c (if s.kind=5 then w else { w with fl:=tkA w.fl s.at_ }):=by
   split
   ·exact ⟨h,g⟩
   ·exact ⟨⟨h.nd,h.hub,fun y hy=>h.fl y (tkA_mem hy)⟩,⟨g.n,g.nd,g.hub,by have:=g.fl.1;have:=tkA_len w.fl s.at_;show (tkA w.fl s.at_).length≤k;omega,fun y hy=>g.fl.2 y (tkA_mem hy)⟩⟩
  simp only
  split
  ·exact h2.1
  ·refine WAll.arrive h2.2 h2.1 _ ?_
   split
   ·exact burstF_all hx _ _
   ·exact hx
 ·exact h
theorem WAll.power {k:Nat} {c:Cfg} {w:WSt} (g:WGd k c w) (h:WAll P c w) (s:Stp):WAll P c (w.power c s).1:=by
 unfold WSt.power
 split
 ·rename_i hh
  have hn:=h.nd s.r hh
  split
  ·exact h.upd hh (NAll.down (st:=(w.node s.r).crash) hn.1 rfl)
  ·split
   ·exact h.upd hh (hn.start (g.nd s.r hh))
   ·exact h.upd hh ⟨hn.1,hn.2⟩
 ·split
  ·split
   ·exact ⟨h.nd,h.hub,h.fl⟩
   ·split
    ·refine ⟨h.nd,?_,h.fl⟩
     show HAll P c (w.hub.start c).1
     unfold HSt.start
     split
     ·exact h.hub
     ·exact h.hub
    ·exact ⟨h.nd,h.hub,h.fl⟩
  ·exact h
theorem push_all {st:NSt} (h:st.up=true→∀ e∈st.wait,P e) (c:Cfg) (r:Int):∀ e∈(st.push c r).1.l,P e:=by
 unfold NSt.push
 split
 ·exact fun e he=>by cases he
 rename_i hu0
 have hu:st.up=true:=by cases hh:st.up with
  | true=>rfl
  | false=>exact absurd hh hu0
 split
 ·exact fun e he=>by cases he
 ·exact fun e he=>h hu e (List.mem_of_mem_take he)
theorem tell_all (st:NSt) (r k:Int):∀ e∈(st.tell r k).1.l,P e:=by
 unfold NSt.tell
 split
 ·exact fun e he=>by cases he
 ·exact fun e he=>by cases he
theorem WAll.step {k:Nat} {c:Cfg} {w:WSt} (g:WGd k c w) (h:WAll P c w) (s:Stp) (hn:s.kind=0→w.has s.r→(w.node s.r).editE c s.r s.ed=0→P ((w.node s.r).mk1 s.r s.ed)):WAll P c (w.step c s).1:=by
 unfold WSt.step
 split
 ·exact h.flight g s
 split
 ·exact h.power g s
 split
 ·exact h
 rename_i hh
 have hh:w.has s.r:=by
  by_cases hh2:w.has s.r
  ·exact hh2
  ·exact absurd hh2 hh
 have hnd:=h.nd s.r hh
 have gn:=g.nd s.r hh
 split
 ·rename_i h0;exact h.upd hh (hnd.edit gn s.ed (hn h0 hh))
 split
 ·exact h.send (push_all (fun hu=>(hnd.2 hu).2) c s.r)
 split
 ·exact h.send (tell_all _ _ _)
 split
 ·exact h.send (tell_all _ _ _)
 split
 ·exact h.upd hh (hnd.state gn)
 ·exact h
theorem WAll.mono {Q:Ev→Prop} {c:Cfg} {w:WSt} (h:WAll P c w) (hq:∀ e,P e→Q e):WAll Q c w :=
 ⟨fun r hr=>⟨fun e he=>hq e ((h.nd r hr).1 e he),fun hu=>⟨fun e he=>hq e (((h.nd r hr).2 hu).1 e he),fun e he=>hq e (((h.nd r hr).2 hu).2 e he)⟩⟩,fun s hs e he=>hq e (h.hub s hs e he),fun x hx e he=>hq e (h.fl x hx e he)⟩
theorem WAll.new (c:Cfg):WAll P c (WSt.new c):=by
 refine ⟨fun r hr=>?_,fun s hs e he=>?_,(fun x hx=>by cases hx)⟩
 ·have h1:=hr.1
  have h2:=hr.2
  have hl:(WSt.new c).nodes.length=c.n.toNat:=by unfold WSt.new;simp
  unfold WSt.node WSt.new
  have:r.toNat<c.n.toNat:=by omega
  simp only [List.getD_eq_getElem?_getD,List.getElem?_map,List.getElem?_range this,Option.map_some,Option.getD_some]
  exact ⟨(fun e he=>by cases he),fun _=>⟨(fun e he=>by cases he),(fun e he=>by cases he)⟩⟩
 ·have hs:s∈(PSt.zero c).sf:=hs
  rw [List.eq_of_mem_replicate hs] at he
  cases he
end
end
section
def NLe (a b:List Ev×Int):Prop:=a.1 <+: b.1∧a.2≤b.2
theorem clk_mono (i:Nat):∀ (l:List Ev) (c:Clk),c.get i≤(l.foldl clkStep c).get i
 | [],c=>Int.le_refl _
 | e::l,c=>by
  refine Int.le_trans ?_ (clk_mono i l (clkStep c e))
  unfold clkStep
  by_cases h:e.r.toNat<5
  ·rw [getset _ _ _ _ h]
   split
   ·rename_i h2;rw [h2];omega
   ·exact Int.le_refl _
  ·have:c.set e.r.toNat (c.get e.r.toNat+1)=c:=by
    match he:e.r.toNat,h with
    | n+5,_=>rfl
   rw [this]
   exact Int.le_refl _
theorem NLe.refl (a:List Ev×Int):NLe a a:=⟨List.prefix_refl _,Int.le_refl _⟩
theorem nle_write {st:NSt} {x:Rcd} (h:NLe (replay st.recs) (rpStep (replay st.recs) x)):NLe (replay st.recs) (replay (st.write x).1.recs):=by
 rcases write_recs st x with hr | hr
 ·rw [hr];exact NLe.refl _
 ·rw [hr,replay_snoc];exact h
theorem nle_edit {k:Nat} {c:Cfg} {r:Int} {st:NSt} (g:NGd k c r st) (e:Ed):NLe (replay st.recs) (replay (st.edit c r e).1.recs)∧((st.edit c r e).2=0→(clkOfLog (replay (st.edit c r e).1.recs).1).get r.toNat=(clkOfLog (replay st.recs).1).get r.toNat+1):=by
 unfold NSt.edit
 by_cases hE:st.editE c r e≠0
 ·rw [if_pos hE];exact ⟨NLe.refl _,fun h=>absurd h hE⟩
 rw [if_neg hE]
 have hE:st.editE c r e=0:=by simpa using hE
 have hu:st.up=true:=by
  cases hh:st.up with
  | true=>rfl
  | false=>unfold NSt.editE at hE;rw [if_pos hh] at hE;cases hE
 have hrp:=(g.up hu).2
 have hst:rpStep (replay st.recs) (rcEv 1 r [st.mk1 r e])=(st.log++[st.mk1 r e],st.sent):=by rw [hrp];rfl
 have hw:=nle_write (st:=st) (x:=rcEv 1 r [st.mk1 r e]) (by rw [hst,hrp];exact ⟨List.prefix_append _ _,Int.le_refl _⟩)
 split
 ·exact ⟨hw,fun h=>by cases h⟩
 ·rename_i hwe
  have hwe:(st.write (rcEv 1 r [st.mk1 r e])).2=0:=by simpa using hwe
  rw [write_same hwe] at hw ⊢
  refine ⟨hw,fun _=>?_⟩
  simp only
  have h5:=g.r5
  rw [replay_snoc,hst,hrp]
  simp only
  rw [clkOfLog_snoc,clkStep_get _ _ (show 0≤(st.mk1 r e).r∧(st.mk1 r e).r<5 from h5),if_pos (show (st.mk1 r e).r.toNat=r.toNat from rfl)]
theorem nle_state {k:Nat} {c:Cfg} {r:Int} {st:NSt} (g:NGd k c r st):NLe (replay st.recs) (replay (st.state r).1.recs):=by
 unfold NSt.state
 split
 ·exact NLe.refl _
 rename_i hu0
 have hu:st.up=true:=by cases hh:st.up with
  | true=>rfl
  | false=>exact absurd hh hu0
 split
 ·exact NLe.refl _
 have hrp:=(g.up hu).2
 have hw:=nle_write (st:=st) (x:=⟨4,r,st.sent,Clk.zero,st.log⟩) (by rw [hrp];exact NLe.refl _)
 split
 ·exact hw
 ·exact hw
theorem nle_take {k:Nat} {c:Cfg} {r:Int} {st:NSt} (g:NGd k c r st) (f:Rcd×Int):NLe (replay st.recs) (replay (st.takeC c r f).1.recs):=by
 unfold NSt.takeC
 split
 ·exact NLe.refl _
 rename_i hu0
 have hu:st.up=true:=by cases hh:st.up with
  | true=>rfl
  | false=>exact absurd hh hu0
 have hrp:=(g.up hu).2
 split
 ·exact NLe.refl _
 split
 ·exact NLe.refl _
 split
 ·exact NLe.refl _
 split
 ·unfold NSt.pushed
  simp only
  split
  ·exact NLe.refl _
  have hw:=nle_write (st:=st) (x:=⟨3,r,max st.sent (min f.1.upto (st.clk.get r.toNat)),Clk.zero,[]⟩) (by rw [hrp];exact ⟨List.prefix_refl _,by show st.sent≤max st.sent _;omega⟩)
  split
  ·exact hw
  ·exact hw
 split
 ·unfold NSt.eventsC
  split
  ·exact NLe.refl _
  split
  ·exact NLe.refl _
  have hw:=nle_write (st:=st) (x:=rcEv 2 r (drainL st.clk (st.held++f.1.l)).1) (by rw [hrp];exact ⟨List.prefix_append _ _,Int.le_refl _⟩)
  split
  ·exact hw
  ·exact hw
 ·exact NLe.refl _
structure PLt (p q:PSt):Prop where
 n:p.sf.length=q.sf.length
 all:∀ i,(p.sf.getD i Sf.none).all.length≤(q.sf.getD i Sf.none).all.length
 cut:∀ i,(p.sf.getD i Sf.none).cut≤(q.sf.getD i Sf.none).cut
 told:∀ i j,j<5→(p.told.getD i Clk.zero).get j≤(q.told.getD i Clk.zero).get j
theorem PLt.refl (p:PSt):PLt p p:=⟨rfl,fun _=>Nat.le_refl _,fun _=>Nat.le_refl _,fun _ _ _=>Int.le_refl _⟩
theorem PLt.trans {p q s:PSt} (h:PLt p q) (k:PLt q s):PLt p s:=⟨h.n.trans k.n,fun i=>Nat.le_trans (h.all i) (k.all i),fun i=>Nat.le_trans (h.cut i) (k.cut i),fun i j hj=>Int.le_trans (h.told i j hj) (k.told i j hj)⟩
theorem to_cut (s:Sf) (n:Int):s.cut≤(s.to n).cut∧(s.to n).all=s.all:=by
 refine ⟨?_,rfl⟩
 show s.cut≤(max (s.cut:Int) (min n s.all.length)).toNat
 omega
theorem plt_cutAt (p:PSt) (s:Nat):PLt p (p.cutAt s):=by
 have h:∀ i,(p.sf.getD i Sf.none).all.length≤((p.cutAt s).sf.getD i Sf.none).all.length∧(p.sf.getD i Sf.none).cut≤((p.cutAt s).sf.getD i Sf.none).cut:=fun i=>by
  rw [cutAt_get]
  split
  ·rename_i h
   obtain ⟨rfl,_⟩:=h
   have:=to_cut (p.sf.getD s Sf.none) (leastR p.told s)
   rw [this.2]
   exact ⟨Nat.le_refl _,this.1⟩
  ·exact ⟨Nat.le_refl _,Nat.le_refl _⟩
 exact ⟨(cutAt_len p s).symm,fun i=>(h i).1,fun i=>(h i).2,fun _ _ _=>Int.le_refl _⟩
theorem plt_cutN (p:PSt):∀ k,PLt p (p.cutN k)
 | 0=>PLt.refl p
 | k+1=>(plt_cutN p k).trans (plt_cutAt _ k)
theorem plt_push (most:Int) (p:PSt) (r:Int) (l:List Ev):PLt p (p.pushC most r l).2.2:=by
 unfold PSt.pushC
 split
 ·exact PLt.refl p
 split
 ·exact PLt.refl p
 ·refine PLt.trans ?_ (plt_cutAt _ _)
  refine ⟨(List.length_set ..).symm,fun i=>?_,fun i=>?_,fun _ _ _=>Int.le_refl _⟩
  ·show _≤((p.sf.set _ _).getD i Sf.none).all.length
   rw [getD_set]
   split
   ·rename_i h
    rw [← h.1]
    simp only [List.length_append]
    omega
   ·exact Nat.le_refl _
  ·show _≤((p.sf.set _ _).getD i Sf.none).cut
   rw [getD_set]
   split
   ·rename_i h
    rw [← h.1]
    exact Nat.le_refl _
   ·exact Nat.le_refl _
theorem plt_ack (p:PSt) (r:Int) (c:Clk):PLt p (p.ack r c).2:=by
 unfold PSt.ack
 split
 ·exact PLt.refl p
 ·refine PLt.trans ?_ (plt_cutN (⟨p.told.set r.toNat ((p.told.getD r.toNat Clk.zero).join c),p.sf⟩:PSt) p.sf.length)
  refine ⟨rfl,fun _=>Nat.le_refl _,fun _=>Nat.le_refl _,fun i j hj=>?_⟩
  show _≤((p.told.set _ _).getD i Clk.zero).get j
  rw [getD_set]
  split
  ·rename_i h
   rw [← h.1,Clk.join_get _ _ _ hj]
   omega
  ·exact Int.le_refl _
theorem plt_hp (c:Cfg) (p:PSt) (x:Rcd):PLt p (hpStep c p x):=by
 unfold hpStep
 split
 ·exact plt_push ..
 ·split
  ·exact plt_ack ..
  ·exact PLt.refl p
theorem plt_write {c:Cfg} (st:HSt) (x:Rcd):PLt (hreplay c st.recs) (hreplay c (st.write x).1.recs):=by
 rcases hwrite_recs st x with hr | hr
 ·rw [hr];exact PLt.refl _
 ·rw [hr,hreplay_snoc];exact plt_hp ..
theorem plt_take (c:Cfg) (st:HSt) (f:Rcd×Int):PLt (hreplay c st.recs) (hreplay c (st.take c f).1.recs):=by
 unfold HSt.take
 split
 ·exact PLt.refl _
 split
 ·exact PLt.refl _
 split
 ·exact PLt.refl _
 split
 ·unfold HSt.push
  split
  ·exact PLt.refl _
  split
  ·exact PLt.refl _
  split
  ·exact plt_write st _
  ·exact plt_write st _
 split
 ·exact PLt.refl _
 split
 ·unfold HSt.ack
  split
  ·exact PLt.refl _
  split
  ·exact PLt.refl _
  split
  ·exact plt_write st _
  ·exact plt_write st _
 ·exact PLt.refl _
structure WLt (c:Cfg) (w v:WSt):Prop where
 nd:∀ r:Int,w.has r→NLe (replay (w.node r).recs) (replay (v.node r).recs)
 hub:PLt (hreplay c w.hub.recs) (hreplay c v.hub.recs)
theorem WLt.refl (c:Cfg) (w:WSt):WLt c w w:=⟨fun _ _=>NLe.refl _,PLt.refl _⟩
theorem WLt.upd {c:Cfg} {w:WSt} {r:Int} {s:NSt} (hr:w.has r) (h:NLe (replay (w.node r).recs) (replay s.recs)):WLt c w (w.upd r s):=by
 refine ⟨fun q hq=>?_,PLt.refl _⟩
 rw [upd_node hr s q hq.1]
 split
 ·rename_i e;rw [e];exact h
 ·exact NLe.refl _
theorem wlt_arrive {k:Nat} {c:Cfg} {w:WSt} (g:WGd k c w) (to:Int) (f:Rcd×Int):WLt c w (w.arrive c to f).1:=by
 unfold WSt.arrive
 split
 ·rename_i hh;exact WLt.upd hh (nle_take (g.nd to hh) f)
 ·have h2:=plt_take c w.hub f
  simp only
  split
  ·exact ⟨fun _ _=>NLe.refl _,h2⟩
  ·exact ⟨fun _ _=>NLe.refl _,h2⟩
theorem wlt_flight {k:Nat} {c:Cfg} {w:WSt} (g:WGd k c w) (s:Stp):WLt c w (w.flight c s).1:=by
 unfold WSt.flight
 split
 ·simp only
  split
  ·split
   ·exact WLt.refl c w
   ·exact ⟨fun _ _=>NLe.refl _,PLt.refl _⟩
  ·split
   ·exact wlt_arrive g _ _
   ·have g2:WGd k c { w with fl:=tkA w.fl s.at_ }:=⟨g.n,g.nd,g.hub,by have:=g.fl.1;have:=tkA_len w.fl s.at_;show (tkA w.fl s.at_).length≤k;omega,fun y hy=>g.fl.2 y (tkA_mem hy)⟩
    have h:=wlt_arrive g2 (w.fl.getD s.at_.toNat (0,Rcd.zero)).1 (if s.kind=7 then burstF (w.fl.getD s.at_.toNat (0,Rcd.zero)).2 s.bit s.mask else ((w.fl.getD s.at_.toNat (0,Rcd.zero)).2,0))
    exact ⟨h.nd,h.hub⟩
 ·exact WLt.refl c w
theorem nstart_recs (st:NSt) (c:Cfg) (r:Int):(st.start c r).1.recs=st.recs:=by unfold NSt.start;split <;> rfl
theorem hstart_recs (st:HSt) (c:Cfg):(st.start c).1.recs=st.recs:=by unfold HSt.start;split <;> rfl
theorem wlt_power {c:Cfg} (w:WSt) (s:Stp):WLt c w (w.power c s).1:=by
 unfold WSt.power
 split
 ·rename_i hh
  split
  ·exact WLt.upd hh (NLe.refl _)
  ·split
   ·exact WLt.upd hh (by rw [nstart_recs];exact NLe.refl _)
   ·exact WLt.upd hh (NLe.refl _)
 ·split
  ·split
   ·exact ⟨fun _ _=>NLe.refl _,PLt.refl _⟩
   ·split
    ·exact ⟨fun _ _=>NLe.refl _,by show PLt _ (hreplay c (w.hub.start c).1.recs);rw [hstart_recs];exact PLt.refl _⟩
    ·exact ⟨fun _ _=>NLe.refl _,PLt.refl _⟩
  ·exact WLt.refl c w
theorem wlt_step {k:Nat} {c:Cfg} {w:WSt} (g:WGd k c w) (s:Stp):WLt c w (w.step c s).1∧(s.kind=0→(w.step c s).2=0→w.has s.r∧(clkOfLog (replay ((w.step c s).1.node s.r).recs).1).get s.r.toNat=(clkOfLog (replay (w.node s.r).recs).1).get s.r.toNat+1):=by
 unfold WSt.step
 split
 ·exact ⟨wlt_flight g s,fun h=>by omega⟩
 split
 ·exact ⟨wlt_power w s,fun h=>by omega⟩
 split
 ·exact ⟨WLt.refl c w,fun _ h=>by cases h⟩
 rename_i hh
 have hh:w.has s.r:=by
  by_cases hh2:w.has s.r
  ·exact hh2
  ·exact absurd hh2 hh
 have gn:=g.nd s.r hh
 split
 ·have he:=nle_edit gn s.ed
  refine ⟨WLt.upd hh he.1,fun _ h0=>⟨hh,?_⟩⟩
  rw [upd_node hh _ _ hh.1,if_pos rfl]
  exact he.2 h0
 rename_i h0
 refine ⟨?_,fun h=>absurd h h0⟩
 have hs:∀ p,WLt c w (w.send p).1:=fun p=>by
  unfold WSt.send
  simp only
  split
  ·exact ⟨fun _ _=>NLe.refl _,PLt.refl _⟩
  ·exact WLt.refl c w
 split
 ·exact hs _
 split
 ·exact hs _
 split
 ·exact hs _
 split
 ·exact WLt.upd hh (nle_state gn)
 ·exact WLt.refl c w
end
section
theorem foldl_min_le:∀ (l:List Int) (a:Int),l.foldl min a≤a∧∀ x∈l,l.foldl min a≤x
 | [],a=>⟨Int.le_refl _,fun x hx=>by cases hx⟩
 | y::l,a=>by
  obtain ⟨h1,h2⟩:=foldl_min_le l (min a y)
  refine ⟨by show l.foldl min (min a y)≤a;omega,fun x hx=>?_⟩
  show l.foldl min (min a y)≤x
  rcases List.mem_cons.1 hx with rfl | hx
  ·omega
  ·exact h2 x hx
theorem least_le (told:List Clk) (s r:Nat) (hr:r<told.length):leastR told s≤(told.getD r Clk.zero).get s:=by
 unfold leastR
 refine (foldl_min_le _ _).2 _ (List.mem_map.2 ⟨told.getD r Clk.zero,?_,rfl⟩)
 rw [show told.getD r Clk.zero=told[r]'hr by simp [List.getD_eq_getElem?_getD,hr]]
 exact List.getElem_mem hr
def PSt.Low (p:PSt):Prop:=∀ r s:Nat,r<p.told.length→s<5→((p.sf.getD s Sf.none).cut:Int)≤(p.told.getD r Clk.zero).get s∨(p.sf.getD s Sf.none).cut=0
theorem to_low {s:Sf} {n m:Int} (h:(s.cut:Int)≤m∨s.cut=0) (hn:n≤m):((s.to n).cut:Int)≤m∨(s.to n).cut=0:=by
 show (((max (s.cut:Int) (min n s.all.length)).toNat:Nat):Int)≤m∨(max (s.cut:Int) (min n s.all.length)).toNat=0
 omega
theorem PSt.Low.cutAt {p:PSt} (h:p.Low) (k:Nat):(p.cutAt k).Low:=fun r s hr hs=>by
 rw [cutAt_get]
 show _≤(p.told.getD r Clk.zero).get s∨_
 split
 ·rename_i he
  obtain ⟨rfl,_⟩:=he
  exact to_low (h r k hr hs) (least_le _ _ _ hr)
 ·exact h r s hr hs
theorem PSt.Low.cutN {p:PSt} (h:p.Low):∀ k,(p.cutN k).Low
 | 0=>h
 | k+1=>(h.cutN k).cutAt k
theorem low_push {p:PSt} (h:p.Low) (most r:Int) (l:List Ev):(p.pushC most r l).2.2.Low:=by
 unfold PSt.pushC
 split
 ·exact h
 split
 ·exact h
 ·refine PSt.Low.cutAt (fun q s hq hs=>?_) _
  show (((p.sf.set _ _).getD s Sf.none).cut:Int)≤(p.told.getD q Clk.zero).get s∨((p.sf.set _ _).getD s Sf.none).cut=0
  rw [getD_set]
  split
  ·rename_i he
   have:=h q s hq hs
   rw [← he.1] at this ⊢
   exact this
  ·exact h q s hq hs
theorem low_ack {p:PSt} (h:p.Low) (r:Int) (c:Clk):(p.ack r c).2.Low:=by
 unfold PSt.ack
 split
 ·exact h
 ·refine PSt.Low.cutN (fun q s hq hs=>?_) _
  have hq2:q<p.told.length:=by simpa using hq
  show _≤((p.told.set _ _).getD q Clk.zero).get s∨_
  rw [getD_set]
  have:=h q s hq2 hs
  split
  ·rename_i he
   rw [Clk.join_get _ _ _ hs,he.1]
   show ((p.sf.getD s Sf.none).cut:Int)≤max ((p.told.getD q Clk.zero).get s) (c.get s)∨(p.sf.getD s Sf.none).cut=0
   omega
  ·exact this
theorem low_replay (c:Cfg) (recs:List Rcd):(hreplay c recs).Low:=by
 have key:∀ (l:List Rcd) (p:PSt),p.Low→(l.foldl (hpStep c) p).Low:=by
  intro l
  induction l with
  | nil=>exact fun p h=>h
  | cons x l ih =>
   refine fun p h=>ih _ ?_
   unfold hpStep
   split
   ·exact low_push h _ _ _
   ·split
    ·exact low_ack h _ _
    ·exact h
 refine key recs _ fun r s _ _=>.inr ?_
 rcases getD_mem_or (PSt.zero c).sf s Sf.none with h | h
 ·rw [List.eq_of_mem_replicate h];rfl
 ·rw [h];rfl
def Sf.Num (s:Nat) (x:Sf):Prop:=∀ i (h:i<x.all.length),(x.all[i]'h).r=s∧(x.all[i]'h).n=i+1
def PSt.Num (p:PSt):Prop:=∀ s:Nat,s<p.sf.length→Sf.Num s (p.sf.getD s Sf.none)
theorem fresh_num {len:Nat} {l:List Ev} (hg:GapOk len l):∀ i (h:i<(fresh len l).length),((fresh len l)[i]'h).n=len+i+1:=by
 obtain ⟨j,hj,ho,hn⟩:∃ j,j≤l.length∧(∀ i (hi:i<l.length),i<j→(l[i]'hi).n≤len)∧(j=l.length∨∃ h:j<l.length,(len:Int)<(l[j]'h).n):=by
  by_cases h0:0<l.length
  ·obtain ⟨h1,h2⟩:=hg h0
   refine ⟨min l.length (len+1 - (l[0]'h0).n).toNat,by omega,fun i hi hlt=>by rw [h2 i hi];omega,?_⟩
   by_cases hm:l.length≤(len+1 - (l[0]'h0).n).toNat
   ·left;omega
   ·right
    refine ⟨by omega,?_⟩
    rw [h2 _ rM]
    omega
  ·exact ⟨0,by omega,fun i hi=>by omega,.inl rM⟩
 have hd:=fresh_drop hg j hj ho hn
 intro i hi
 have hi2:i<(l.drop j).length:=by rw [← hd];exact hi
 have e:(fresh len l)[i]'hi=(l.drop j)[i]'hi2:=by congr 1
 rw [e,List.getElem_drop]
 rw [List.length_drop] at hi2
 rcases hn with hn | ⟨hjl,hn⟩
 ·omega
 ·obtain ⟨h1,h2⟩:=hg rM
  rw [h2 _ rM]
  rw [h2 _ hjl] at hn
  by_cases hj0:j=0
  ·subst hj0;omega
  ·have:=ho (j - 1) rM rM
   rw [h2 _ rM] at this
   omega
theorem PSt.Num.cutAt {p:PSt} (h:p.Num) (k:Nat):(p.cutAt k).Num:=fun s hs=>by
 rw [cutAt_len] at hs
 rw [cutAt_get]
 split
 ·rename_i he
  obtain ⟨rfl,_⟩:=he
  exact h k hs
 ·exact h s hs
theorem PSt.Num.cutN {p:PSt} (h:p.Num):∀ k,(p.cutN k).Num
 | 0=>h
 | k+1=>(h.cutN k).cutAt k
theorem num_push {p:PSt} (h:p.Num) (most r:Int) (l:List Ev):(p.pushC most r l).2.2.Num:=by
 unfold PSt.pushC
 split
 ·exact h
 rename_i hh
 split
 ·exact h
 rename_i h0
 have hr:p.has r:=by
  by_cases hr:p.has r
  ·exact hr
  ·exact absurd (.inl hr) hh
 have hr1:=hr.1
 have hr2:=hr.2
 have hlt:r.toNat<p.sf.length:=by omega
 have hall:∀ e∈l,e.r=r:=fun e he=>by
  by_cases her:e.r=r
  ·exact her
  ·exact absurd (.inr (List.any_eq_true.2 ⟨e,he,by simpa using her⟩)) hh
 refine PSt.Num.cutAt (fun s hs=>?_) _
 have hs2:s<p.sf.length:=by simpa using hs
 show Sf.Num s ((p.sf.set _ _).getD s Sf.none)
 rw [getD_set]
 split
 ·rename_i he
  obtain ⟨rfl,_⟩:=he
  have hn:=h _ hlt
  obtain ⟨x,hx⟩:∃ x,x=p.sf.getD r.toNat Sf.none:=⟨_,rfl⟩
  rw [← hx] at hn h0 ⊢
  have hp:(x.putS most l).2=[]∨(GapOk x.all.length l∧(x.putS most l).2=fresh x.all.length l):=by
   unfold Sf.putS putC
   split
   ·exact .inl rfl
   ·rename_i hg
    split
    ·exact .inl rfl
    ·exact .inr ⟨(gapC_iff _ _).1 (by simpa using hg),rfl⟩
  rcases hp with hp | ⟨hg,hp⟩
  ·rw [hp]
   intro i hi
   have hi2:i<x.all.length:=by simpa using hi
   simp only [List.append_nil]
   exact hn i hi2
  ·rw [hp]
   intro i hi
   simp only
   rw [List.getElem_append]
   split
   ·rename_i hi2;exact hn i hi2
   ·rename_i hi2
    have hi3:i<x.all.length+(fresh x.all.length l).length:=by simpa using hi
    have hi4:i - x.all.length<(fresh x.all.length l).length:=by omega
    have hm:=fresh_num hg (i - x.all.length) hi4
    have hmem:(fresh x.all.length l)[i - x.all.length]'hi4∈l:=(List.mem_filter.1 (List.getElem_mem hi4)).1
    have:=hall _ hmem
    exact ⟨by omega,by omega⟩
 ·exact h s hs2
theorem num_ack {p:PSt} (h:p.Num) (r:Int) (c:Clk):(p.ack r c).2.Num:=by
 unfold PSt.ack
 split
 ·exact h
 ·exact PSt.Num.cutN (p:=⟨p.told.set r.toNat ((p.told.getD r.toNat Clk.zero).join c),p.sf⟩) h _
theorem num_replay (c:Cfg) (recs:List Rcd):(hreplay c recs).Num:=by
 have key:∀ (l:List Rcd) (p:PSt),p.Num→(l.foldl (hpStep c) p).Num:=by
  intro l
  induction l with
  | nil=>exact fun p h=>h
  | cons x l ih =>
   refine fun p h=>ih _ ?_
   unfold hpStep
   split
   ·exact num_push h _ _ _
   ·split
    ·exact num_ack h _ _
    ·exact h
 refine key recs _ fun s hs=>?_
 have:(PSt.zero c).sf.getD s Sf.none=Sf.none:=by
  rcases getD_mem_or (PSt.zero c).sf s Sf.none with h | h
  ·exact List.eq_of_mem_replicate h
  ·exact h
 rw [this]
 exact fun i hi=>by cases hi
theorem fetch_le {p:PSt} (h:p.Num) (r:Int) (ck:Clk):∀ e∈(p.fetch r ck).1,0≤e.r∧e.r≠r∧e.n≤((p.sf.getD e.r.toNat Sf.none).all.length:Int):=by
 have key:∀ j,j≤p.sf.length→∀ e∈p.getN r ck j,0≤e.r∧e.r≠r∧e.n≤((p.sf.getD e.r.toNat Sf.none).all.length:Int):=by
  intro j
  induction j with
  | zero=>intro _ e he;cases he
  | succ j ih =>
   intro hj e he
   unfold PSt.getN at he
   split at he
   ·rename_i hjr
    rcases List.mem_append.1 he with he | he
    ·exact ih rM e he
    ·have hm:=List.mem_of_mem_drop (List.mem_filter.1 he).1
     obtain ⟨i,hi,rfl⟩:=List.getElem_of_mem hm
     have:=h j rM i hi
     refine ⟨by omega,by omega,?_⟩
     rw [show ((p.sf.getD j Sf.none).all[i]'hi).r.toNat=j by omega]
     omega
   ·exact ih rM e he
 unfold PSt.fetch
 split
 ·intro e he;cases he
 ·exact key _ (Nat.le_refl _)
def clkD (w:WSt) (r:Int):Clk:=clkOfLog (replay (w.node r).recs).1
def lenD (c:Cfg) (w:WSt) (s:Nat):Int:=((hreplay c w.hub.recs).sf.getD s Sf.none).all.length
structure RmI (c:Cfg) (w:WSt):Prop where
 told:∀ r:Nat,w.has (r:Int)→∀ i,i<5→((hreplay c w.hub.recs).told.getD r Clk.zero).get i≤(clkD w r).get i
 ackF:∀ x∈w.fl,x.2.kind=5→w.has x.2.r→∀ i,i<5→x.2.c.get i≤(clkD w x.2.r).get i
 held:∀ r:Int,w.has r→(w.node r).up=true→∀ e∈(w.node r).held,e.n≤lenD c w e.r.toNat
 evF:∀ x∈w.fl,x.2.kind=4→∀ e∈x.2.l,e.n≤lenD c w e.r.toNat
theorem WLt.clk {c:Cfg} {w v:WSt} (h:WLt c w v) {r:Int} (hr:w.has r) (i:Nat):(clkD w r).get i≤(clkD v r).get i:=by
 obtain ⟨t,ht⟩:=(h.nd r hr).1
 unfold clkD clkOfLog
 rw [← ht,List.foldl_append]
 exact clk_mono i t _
theorem WLt.len {c:Cfg} {w v:WSt} (h:WLt c w v) (s:Nat):lenD c w s≤lenD c v s:=by
 have:=h.hub.all s
 unfold lenD
 omega
theorem rmPush_told (most:Int) (p:PSt) (r:Int) (l:List Ev):(p.pushC most r l).2.2.told=p.told:=by
 unfold PSt.pushC
 split
 ·rfl
 split
 ·rfl
 ·rfl
theorem ack_told (p:PSt) (r:Int) (c:Clk) (q i:Nat) (hi:i<5) (hc:∀ i,i<5→0≤(p.told.getD q Clk.zero).get i):((p.ack r c).2.told.getD q Clk.zero).get i≤(p.told.getD q Clk.zero).get i∨(r=(q:Int)∧((p.ack r c).2.told.getD q Clk.zero).get i≤max ((p.told.getD q Clk.zero).get i) (c.get i)):=by
 unfold PSt.ack
 split
 ·exact .inl (Int.le_refl _)
 ·rename_i hh
  have hr:p.has r:=by
   by_cases hr:p.has r
   ·exact hr
   ·exact absurd hr hh
  have hr1:=hr.1
  simp only
  rw [PSt.cutN_told]
  simp only
  rw [getD_set]
  split
  ·rename_i he
   right
   refine ⟨by omega,?_⟩
   rw [Clk.join_get _ _ _ hi,he.1]
   omega
  ·exact .inl (Int.le_refl _)
theorem take_told {k:Nat} {c:Cfg} {st:HSt} (g:HGd k c st) (f:Rcd×Int) (q i:Nat) (hi:i<5):((hreplay c (st.take c f).1.recs).told.getD q Clk.zero).get i≤((hreplay c st.recs).told.getD q Clk.zero).get i∨(f.2=0∧f.1.kind=5∧f.1.r=(q:Int)∧((hreplay c (st.take c f).1.recs).told.getD q Clk.zero).get i≤max (((hreplay c st.recs).told.getD q Clk.zero).get i) (f.1.c.get i)):=by
 have h0:∀ i,i<5→0≤((hreplay c st.recs).told.getD q Clk.zero).get i:=fun i hi=>by
  rcases getD_mem_or (hreplay c st.recs).told q Clk.zero with hm | hm
  ·exact (g.dur.post.a _ hm i hi).1
  ·rw [hm,zero_get];omega
 unfold HSt.take
 split
 ·exact .inl (Int.le_refl _)
 rename_i hu0
 have hu:st.up=true:=by cases h:st.up with
  | true=>rfl
  | false=>exact absurd h hu0
 split
 ·exact .inl (Int.le_refl _)
 rename_i h2
 have h2:f.2=0:=by simpa using h2
 split
 ·exact .inl (Int.le_refl _)
 split
 ·left
  unfold HSt.push
  have hw:∀ x:Rcd,x.kind=5→((hreplay c (st.write x).1.recs).told.getD q Clk.zero).get i≤((hreplay c st.recs).told.getD q Clk.zero).get i:=fun x hx=>by
   rcases hwrite_recs st x with hr | hr
   ·rw [hr];exact Int.le_refl _
   ·rw [hr,hreplay_snoc]
    unfold hpStep
    rw [if_pos hx,rmPush_told]
    exact Int.le_refl _
  split
  ·exact Int.le_refl _
  split
  ·exact Int.le_refl _
  split
  ·exact hw _ rfl
  ·exact hw _ rfl
 split
 ·exact .inl (Int.le_refl _)
 split
 ·rename_i h5
  have hw:((hreplay c (st.write ⟨6,f.1.r,0,f.1.c,[]⟩).1.recs).told.getD q Clk.zero).get i≤((hreplay c st.recs).told.getD q Clk.zero).get i∨(f.1.r=(q:Int)∧((hreplay c (st.write ⟨6,f.1.r,0,f.1.c,[]⟩).1.recs).told.getD q Clk.zero).get i≤max (((hreplay c st.recs).told.getD q Clk.zero).get i) (f.1.c.get i)):=by
   rcases hwrite_recs st ⟨6,f.1.r,0,f.1.c,[]⟩ with hr | hr
   ·rw [hr];exact .inl (Int.le_refl _)
   ·rw [hr,hreplay_snoc]
    exact ack_told _ _ _ q i hi h0
  have hw2:((hreplay c (st.write ⟨6,f.1.r,0,f.1.c,[]⟩).1.recs).told.getD q Clk.zero).get i≤((hreplay c st.recs).told.getD q Clk.zero).get i∨(f.2=0∧f.1.kind=5∧f.1.r=(q:Int)∧((hreplay c (st.write ⟨6,f.1.r,0,f.1.c,[]⟩).1.recs).told.getD q Clk.zero).get i≤max (((hreplay c st.recs).told.getD q Clk.zero).get i) (f.1.c.get i)) :=
   hw.imp id fun h=>⟨h2,h5,h⟩
  unfold HSt.ack
  split
  ·exact .inl (Int.le_refl _)
  split
  ·exact .inl (Int.le_refl _)
  split
  ·exact hw2
  ·exact hw2
 ·exact .inl (Int.le_refl _)
theorem take_held {c:Cfg} {r:Int} {st:NSt} {f:Rcd×Int} (P:Ev→Prop) (h:st.up=true→∀ e∈st.held,P e) (hf:f.2=0→f.1.kind=4→∀ e∈f.1.l,P e):(st.takeC c r f).1.up=true→∀ e∈(st.takeC c r f).1.held,P e:=by
 unfold NSt.takeC
 split
 ·exact h
 rename_i hu0
 have hu:st.up=true:=by cases hh:st.up with
  | true=>rfl
  | false=>exact absurd hh hu0
 split
 ·exact h
 rename_i h2
 have h2:f.2=0:=by simpa using h2
 split
 ·exact h
 split
 ·exact h
 have hdn:∀ x,(st.write x).2≠0→(st.write x).1.up=true→∀ e∈(st.write x).1.held,P e:=fun x hx hup=>by
  rw [(st.write_up x).2 hx] at hup;cases hup
 split
 ·unfold NSt.pushed
  simp only
  split
  ·exact h
  split
  ·rename_i hwe;exact hdn _ hwe
  ·rename_i hwe
   have hwe:(st.write ⟨3,r,max st.sent (min f.1.upto (st.clk.get r.toNat)),Clk.zero,[]⟩).2=0:=by simpa using hwe
   simp only
   rw [write_same hwe]
   exact h
 split
 ·rename_i h4
  unfold NSt.eventsC
  obtain ⟨m1,m2,_⟩:=drainL_mem st.clk (st.held++f.1.l)
  have hX:∀ e∈st.held++f.1.l,P e:=fun e he=>(List.mem_append.1 he).elim (h hu e) (hf h2 h4 e)
  split
  ·exact h
  split
  ·exact fun _ e he=>hX e (m2 e he)
  split
  ·rename_i hwe;exact hdn _ hwe
  ·exact fun _ e he=>hX e (m2 e he)
 ·exact h
theorem RmI.upd {c:Cfg} {w:WSt} (h:RmI c w) {r:Int} {s:NSt} (hr:w.has r) (hl:NLe (replay (w.node r).recs) (replay s.recs)) (hs:s.up=true→∀ e∈s.held,e.n≤lenD c w e.r.toNat):RmI c (w.upd r s):=by
 have hw:WLt c w (w.upd r s):=WLt.upd hr hl
 refine ⟨fun q hq i hi=>?_,fun x hx h5 hq i hi=>?_,fun q hq hu e he=>?_,h.evF⟩
 ·have hq2:=(upd_has w r s q).1 hq
  exact Int.le_trans (h.told q hq2 i hi) (hw.clk hq2 i)
 ·have hq2:=(upd_has w r s _).1 hq
  exact Int.le_trans (h.ackF x hx h5 hq2 i hi) (hw.clk hq2 i)
 ·have hq2:=(upd_has w r s q).1 hq
  rw [upd_node hr s q hq2.1] at hu he
  by_cases hqr:q=r
  ·rw [if_pos hqr] at hu he
   exact hs hu e he
  ·rw [if_neg hqr] at hu he
   exact h.held q hq2 hu e he
theorem RmI.fly {c:Cfg} {w:WSt} (h:RmI c w) (t:Int) {x:Rcd} (h5:x.kind=5→w.has x.r→∀ i,i<5→x.c.get i≤(clkD w x.r).get i) (h4:x.kind=4→∀ e∈x.l,e.n≤lenD c w e.r.toNat):RmI c { w with fl:=w.fl++[(t,x)] }:=by
 refine ⟨h.told,fun y hy k5 hq i hi=>?_,h.held,fun y hy k4 e he=>?_⟩
 ·rcases List.mem_append.1 hy with hy | hy
  ·exact h.ackF y hy k5 hq i hi
  ·simp at hy;subst hy;exact h5 k5 hq i hi
 ·rcases List.mem_append.1 hy with hy | hy
  ·exact h.evF y hy k4 e he
  ·simp at hy;subst hy;exact h4 k4 e he
theorem RmI.less {c:Cfg} {w:WSt} (h:RmI c w) {l:List (Int×Rcd)} (hl:∀ y∈l,y∈w.fl):RmI c { w with fl:=l } :=
 ⟨h.told,fun y hy=>h.ackF y (hl y hy),h.held,fun y hy=>h.evF y (hl y hy)⟩
theorem RmI.hubs {c:Cfg} {w:WSt} (h:RmI c w) {u:HSt} (hp:PLt (hreplay c w.hub.recs) (hreplay c u.recs)) (ht:∀ r:Nat,w.has (r:Int)→∀ i,i<5→((hreplay c u.recs).told.getD r Clk.zero).get i≤(clkD w r).get i):RmI c { w with hub:=u }:=by
 have hw:WLt c w { w with hub:=u }:=⟨fun _ _=>NLe.refl _,hp⟩
 refine ⟨ht,h.ackF,fun r hr hu e he=>?_,fun x hx k4 e he=>?_⟩
 ·exact Int.le_trans (h.held r hr hu e he) (hw.len _)
 ·exact Int.le_trans (h.evF x hx k4 e he) (hw.len _)
theorem take_reply {k:Nat} {c:Cfg} {st:HSt} (g:HGd k c st) (f:Rcd×Int):∀ e∈(st.take c f).2.2.1.l,e.n≤(((hreplay c (st.take c f).1.recs).sf.getD e.r.toNat Sf.none).all.length:Int):=by
 unfold HSt.take
 split
 ·exact fun e he=>by cases he
 rename_i hu0
 have hu:st.up=true:=by cases h:st.up with
  | true=>rfl
  | false=>exact absurd h hu0
 split
 ·exact fun e he=>by cases he
 split
 ·exact fun e he=>by cases he
 split
 ·unfold HSt.push
  split
  ·exact fun e he=>by cases he
  split
  ·exact fun e he=>by cases he
  split
  ·exact fun e he=>by cases he
  ·exact fun e he=>by cases he
 split
 ·unfold HSt.fetch
  split
  ·exact fun e he=>by cases he
  ·intro e he
   have hn:=num_replay c st.recs
   rw [(g.up hu).2] at hn ⊢
   exact (fetch_le hn _ _ e he).2.2
 split
 ·exact fun e he=>by cases he
 ·exact fun e he=>by cases he
theorem RmI.arrive {k:Nat} {c:Cfg} {w:WSt} (g:WGd k c w) (h:RmI c w) (to:Int) {f:Rcd×Int} (h5:f.2=0→f.1.kind=5→w.has f.1.r→∀ i,i<5→f.1.c.get i≤(clkD w f.1.r).get i) (h4:f.2=0→f.1.kind=4→∀ e∈f.1.l,e.n≤lenD c w e.r.toNat):RmI c (w.arrive c to f).1:=by
 unfold WSt.arrive
 split
 ·rename_i hh
  exact h.upd hh (nle_take (g.nd to hh) f) (take_held _ (h.held to hh) h4)
 ·have hp:=plt_take c w.hub f
  have ht:∀ r:Nat,w.has (r:Int)→∀ i,i<5→((hreplay c (w.hub.take c f).1.recs).told.getD r Clk.zero).get i≤(clkD w r).get i:=fun r hr i hi=>by
   have h0:=h.told r hr i hi
   rcases take_told g.hub f r i hi with ht | ⟨f0,k5,hfr,ht⟩
   ·omega
   ·have:=h5 f0 k5 (by rw [hfr];exact hr) i hi
    rw [hfr] at this
    omega
  have h2:RmI c { w with hub:=(w.hub.take c f).1 }:=h.hubs hp ht
  simp only
  split
  ·have hz:∀ e∈Rcd.zero.l,e.n≤lenD c { w with hub:=(w.hub.take c f).1 } e.r.toNat:=fun e he=>by cases he
   refine h2.fly _ ?_ ?_
   ·intro k5
    exfalso
    revert k5
    unfold HSt.take HSt.push HSt.fetch
    repeat' split
    all_goals (intro k5;simp only [Rcd.zero] at k5;omega)
   ·exact fun _ e he=>take_reply g.hub f e he
  ·exact h2
theorem burstF_eq (x:Rcd) (bit mask:Int) (h:(burstF x bit mask).2=0):(burstF x bit mask).1=x:=by
 unfold burstF at h ⊢
 split at h
 ·rename_i hb;rw [if_pos hb]
 ·cases h
theorem RmI.flight {k:Nat} {c:Cfg} {w:WSt} (g:WGd k c w) (h:RmI c w) (s:Stp):RmI c (w.flight c s).1:=by
 unfold WSt.flight
 split
 ·rename_i hat
  have hi:s.at_.toNat<w.fl.length:=by omega
  have hmem:w.fl.getD s.at_.toNat (0,Rcd.zero)∈w.fl:=by
   rw [show w.fl.getD s.at_.toNat (0,Rcd.zero)=w.fl[s.at_.toNat]'hi by simp [List.getD_eq_getElem?_getD,hi]]
   exact List.getElem_mem hi
  have h2:RmI c (if s.kind=5 then w else { w with fl:=tkA w.fl s.at_ })∧WGd k c (if s.kind=5 then w else { w with fl:=tkA w.fl s.at_ })∧(∀ r,(if s.kind=5 then w else { w with fl:=tkA w.fl s.at_ }).has r↔w.has r)∧(∀ r,clkD (if s.kind=5 then w else { w with fl:=tkA w.fl s.at_ }) r=clkD w r)∧∀ r,lenD c (if s.kind=5 then w else { w with fl:=tkA w.fl s.at_ }) r=lenD c w r:=by
   split
   ·exact ⟨h,g,fun _=>Iff.rfl,fun _=>rfl,fun _=>rfl⟩
   ·exact ⟨h.less fun y hy=>tkA_mem hy,⟨g.n,g.nd,g.hub,by have:=g.fl.1;have:=tkA_len w.fl s.at_;show (tkA w.fl s.at_).length≤k;omega,fun y hy=>g.fl.2 y (tkA_mem hy)⟩,fun _=>Iff.rfl,fun _=>rfl,fun _=>rfl⟩
  obtain ⟨a1,a2,a3,a4,a5⟩:=h2
  simp only
  split
  ·exact a1
  ·have hx:∀ f:Rcd×Int,(f.2=0→f.1=(w.fl.getD s.at_.toNat (0,Rcd.zero)).2)→RmI c ((if s.kind=5 then w else { w with fl:=tkA w.fl s.at_ }).arrive c (w.fl.getD s.at_.toNat (0,Rcd.zero)).1 f).1:=fun f hf=>by
    refine RmI.arrive a2 a1 _ (fun h0 k5 hq i hi=>?_) (fun h0 k4 e he=>?_)
    ·rw [a4,hf h0]
     rw [hf h0] at k5 hq
     exact h.ackF _ hmem k5 ((a3 _).1 hq) i hi
    ·rw [a5]
     rw [hf h0] at k4 he
     exact h.evF _ hmem k4 e he
   refine hx _ ?_
   split
   ·exact burstF_eq _ _ _
   ·exact fun _=>rfl
 ·exact h
theorem RmI.power {k:Nat} {c:Cfg} {w:WSt} (g:WGd k c w) (h:RmI c w) (s:Stp):RmI c (w.power c s).1:=by
 unfold WSt.power
 split
 ·rename_i hh
  split
  ·exact h.upd hh (NLe.refl _) (fun hu=>by cases hu)
  ·split
   ·refine h.upd hh (by rw [nstart_recs];exact NLe.refl _) fun hu e he=>?_
    unfold NSt.start at he
    split at he
    ·rename_i hup;exact h.held s.r hh hup e he
    ·cases he
   ·exact h.upd hh (NLe.refl _) (h.held s.r hh)
 ·split
  ·split
   ·exact h.hubs (PLt.refl _) h.told
   ·split
    ·refine h.hubs ?_ ?_
     ·rw [hstart_recs];exact PLt.refl _
     ·rw [hstart_recs];exact h.told
    ·exact h.hubs (PLt.refl _) h.told
  ·exact h
theorem edit_held {c:Cfg} {r:Int} {st:NSt} {e0:Ed} (P:Ev→Prop) (h:st.up=true→∀ e∈st.held,P e):(st.edit c r e0).1.up=true→∀ e∈(st.edit c r e0).1.held,P e:=by
 unfold NSt.edit
 split
 ·exact h
 split
 ·rename_i hwe
  intro hup
  rw [(st.write_up _).2 hwe] at hup;cases hup
 ·rename_i hwe
  have hwe:(st.write (rcEv 1 r [st.mk1 r e0])).2=0:=by simpa using hwe
  rw [write_same hwe]
  exact h
theorem state_held {r:Int} {st:NSt} (P:Ev→Prop) (h:st.up=true→∀ e∈st.held,P e):(st.state r).1.up=true→∀ e∈(st.state r).1.held,P e:=by
 unfold NSt.state
 split
 ·exact h
 split
 ·exact h
 split
 ·rename_i hwe
  intro hup
  rw [(st.write_up _).2 hwe] at hup;cases hup
 ·rename_i hwe
  have hwe:(st.write ⟨4,r,st.sent,Clk.zero,st.log⟩).2=0:=by simpa using hwe
  simp only
  rw [write_same hwe]
  exact h
theorem RmI.send {k:Nat} {c:Cfg} {w:WSt} (g:WGd k c w) (h:RmI c w) {p:Rcd×Int} (hp:p.2=0→(p.1.kind=5→w.has p.1.r→∀ i,i<5→p.1.c.get i≤(clkD w p.1.r).get i)∧p.1.kind≠4):RmI c (w.send p).1:=by
 unfold WSt.send
 simp only
 split
 ·rename_i h0;exact h.fly 5 (hp h0).1 fun k4=>absurd k4 (hp h0).2
 ·exact h
theorem tell_rm {k:Nat} {c:Cfg} {w:WSt} (g:WGd k c w) {r:Int} (hr:w.has r) (kd:Int) (hk:kd≠4):((w.node r).tell r kd).2=0→(((w.node r).tell r kd).1.kind=5→w.has ((w.node r).tell r kd).1.r→∀ i,i<5→((w.node r).tell r kd).1.c.get i≤(clkD w ((w.node r).tell r kd).1.r).get i)∧((w.node r).tell r kd).1.kind≠4:=by
 unfold NSt.tell
 split
 ·exact fun h=>by cases h
 ·rename_i hu0
  have hu:(w.node r).up=true:=by cases h:(w.node r).up with
   | true=>rfl
   | false=>exact absurd h hu0
  refine fun _=>⟨fun _ _ i _=>?_,hk⟩
  show (w.node r).clk.get i≤(clkOfLog (replay (w.node r).recs).1).get i
  rw [((g.nd r hr).up hu).2,(g.nd r hr).clk hu]
  exact Int.le_refl _
theorem RmI.step {k:Nat} {c:Cfg} {w:WSt} (g:WGd k c w) (h:RmI c w) (s:Stp):RmI c (w.step c s).1:=by
 unfold WSt.step
 split
 ·exact h.flight g s
 split
 ·exact h.power g s
 split
 ·exact h
 rename_i hh
 have hh:w.has s.r:=by
  by_cases h:w.has s.r
  ·exact h
  ·exact absurd h hh
 have gn:=g.nd s.r hh
 split
 ·exact h.upd hh (nle_edit gn s.ed).1 (edit_held _ (h.held s.r hh))
 split
 ·refine RmI.send g h fun h0=>?_
  unfold NSt.push at h0 ⊢
  split
  ·rename_i hd;rw [if_pos hd] at h0;cases h0
  split
  ·rename_i hd hw;rw [if_neg hd,if_pos hw] at h0;cases h0
  ·exact ⟨fun k5=>by simp [rcEv] at k5,by simp [rcEv]⟩
 split
 ·exact RmI.send g h (tell_rm g hh 3 rM)
 split
 ·exact RmI.send g h (tell_rm g hh 5 rM)
 split
 ·exact h.upd hh (nle_state gn) (state_held _ (h.held s.r hh))
 ·exact h
end
section
structure Lg where
 v:Nat→Value
 l:Nat→List Mk
 o:∀ i,(v i).oneCell'=true
def Lg.nil:Lg:=⟨fun _=>.slice none 0 0,fun _=>[],fun _=>rfl⟩
def Lg.put (q:Lg) (r:Nat) (u:Value) (ou:u.oneCell'=true) (x:List Mk):Lg:=⟨fun i=>if i=r then u else q.v i,fun i=>if i=r then x else q.l i,fun i=>by split;exact ou;exact q.o i⟩
@[reducible] def lgC (q:Lg):List Value:=[q.v 0,q.v 1,q.v 2,q.v 3,q.v 4]
@[reducible] def lgL (g:Nat) (q:Lg):List Assn:=[Blk g 92 (lgC q),Mks (q.v 0) (q.l 0),Mks (q.v 1) (q.l 1),Mks (q.v 2) (q.l 2),Mks (q.v 3) (q.l 3),Mks (q.v 4) (q.l 4)]
def KLog (g:Nat) (q:Lg):Assn:=Star (lgL g q)
theorem KLog.opn (g:Nat) (q:Lg) (M:List Assn):Sub (lgL g q++M) (KLog g q::M):=Star.opens _ _
theorem KLog.cls (g:Nat) (q:Lg) (M:List Assn):Sub (KLog g q::M) (lgL g q++M):=Star.closes _ _
structure HbLe (h h2:HsU):Prop where
 base:∀ i,i<5→h.s.base.get i≤h2.s.base.get i
 len:∀ i,i<5→h.s.len.get i≤h2.s.len.get i
 a0:∀ i,i<5→h.s.a0.get i≤h2.s.a0.get i
 a1:∀ i,i<5→h.s.a1.get i≤h2.s.a1.get i
 a2:∀ i,i<5→h.s.a2.get i≤h2.s.a2.get i
 a3:∀ i,i<5→h.s.a3.get i≤h2.s.a3.get i
 a4:∀ i,i<5→h.s.a4.get i≤h2.s.a4.get i
theorem HbLe.of {p q:PSt} {b1 b2:Bool} (h:PLt p q):HbLe ⟨b1,p.site⟩ ⟨b2,q.site⟩:=by
 have hb:∀ i,p.baseF i≤q.baseF i:=fun i=>by
  unfold PSt.baseF
  rw [h.n]
  split
  ·have:=h.cut i;omega
  ·omega
 have hl:∀ i,p.lenF i≤q.lenF i:=fun i=>by
  unfold PSt.lenF
  rw [h.n]
  split
  ·have:=h.all i;omega
  ·omega
 refine ⟨fun i hi=>?_,fun i hi=>?_,fun i hi=>h.told 0 i hi,fun i hi=>h.told 1 i hi,fun i hi=>h.told 2 i hi,fun i hi=>h.told 3 i hi,fun i hi=>h.told 4 i hi⟩
 ·show (clkOf p.baseF).get i≤(clkOf q.baseF).get i
  rw [clkOf_get _ _ hi,clkOf_get _ _ hi];exact hb i
 ·show (clkOf p.lenF).get i≤(clkOf q.lenF).get i
  rw [clkOf_get _ _ hi,clkOf_get _ _ hi];exact hl i
structure KI (c:Cfg) (w:WSt) (q:Lg) (ke ks:Clk) (hb:HsU):Prop where
 k0:∀ i,i<5→0≤ke.get i
 lg:∀ i:Nat,w.has (i:Int)→q.l i <+: (replay (w.node i).recs).1.map Ev.mk_
 ks:∀ i:Nat,w.has (i:Int)→ks.get i≤(replay (w.node i).recs).2
 ke:∀ i:Nat,w.has (i:Int)→ke.get i≤(clkOfLog (replay (w.node i).recs).1).get i
 hb:∃ p,PLt p (hreplay c w.hub.recs)∧hb=⟨hb.up,p.site⟩
theorem KI.step {c:Cfg} {w v:WSt} {q:Lg} {ke ks:Clk} {hb:HsU} (h:KI c w q ke ks hb) (hw:WLt c w v) (hn:v.nodes.length=w.nodes.length):KI c v q ke ks hb:=by
 have hh:∀ r,v.has r↔w.has r:=fun r=>by unfold WSt.has;rw [hn]
 obtain ⟨p,hp1,hp2⟩:=h.hb
 refine ⟨h.k0,fun i hi=>?_,fun i hi=>?_,fun i hi=>?_,⟨p,hp1.trans hw.hub,hp2⟩⟩
 ·have:=(hw.nd i ((hh _).1 hi)).1
  exact (h.lg i ((hh _).1 hi)).trans (this.map _)
 ·have:=(hw.nd i ((hh _).1 hi)).2
  have h1:=h.ks i ((hh _).1 hi)
  omega
 ·have h1:=h.ke i ((hh _).1 hi)
  obtain ⟨t,ht⟩:=(hw.nd i ((hh _).1 hi)).1
  refine Int.le_trans h1 ?_
  rw [← ht]
  unfold clkOfLog
  rw [List.foldl_append]
  exact clk_mono i t _
theorem KLog.new (g:Nat) (M:List Assn):Sub (KLog g Lg.nil::M) (Blk g 92 (lgC Lg.nil)::M) :=
 Sub.trans (KLog.cls g Lg.nil M) (Sub.cons _ (Sub.trans (Sub.empty (α:=Mk) none 90 _) (Sub.trans (Sub.empty (α:=Mk) none 90 _) (Sub.trans (Sub.empty (α:=Mk) none 90 _) (Sub.trans (Sub.empty (α:=Mk) none 90 _) (Sub.empty (α:=Mk) none 90 M))))))
def Hs.ak (h:Hs) (r:Nat):Clk:=match r with | 0=>h.a0 | 1=>h.a1 | 2=>h.a2 | 3=>h.a3 | _=>h.a4
theorem HbLe.ak {h h2:HsU} (q:HbLe h h2) (r k:Nat) (hr:r<5) (hk:k<5):(h.s.ak r).get k≤(h2.s.ak r).get k:=by
 match r,hr with
 | 0,_=>exact q.a0 k hk
 | 1,_=>exact q.a1 k hk
 | 2,_=>exact q.a2 k hk
 | 3,_=>exact q.a3 k hk
 | 4,_=>exact q.a4 k hk
theorem siteU_up {st:HSt} (hu:st.up=true):st.siteU=⟨true,st.post.site⟩:=by unfold HSt.siteU;rw [if_pos hu]
theorem siteU_dn {st:HSt} (hu:st.up≠true):st.siteU.up=false:=by unfold HSt.siteU;rw [if_neg hu]
theorem KI.new (c:Cfg) (hc:c.May):KI c (WSt.new c) Lg.nil Clk.zero Clk.zero (WSt.new c).hub.siteU:=by
 have g:=WGd.new hc
 have hu:(WSt.new c).hub.up=true:=rfl
 have hn:∀ i:Nat,(WSt.new c).has (i:Int)→0≤(replay ((WSt.new c).node i).recs).2∧0≤(clkOfLog (replay ((WSt.new c).node i).recs).1).get i:=fun i hi=>by
  have:=(g.nd i hi).dur.rsent
  rw [show ((i:Int)).toNat=i from Int.toNat_natCast i] at this
  omega
 refine ⟨fun i _=>by rw [zero_get];omega,fun i _=>List.nil_prefix,fun i hi=>by rw [zero_get];exact (hn i hi).1,fun i hi=>by rw [zero_get];exact (hn i hi).2,⟨_,PLt.refl _,?_⟩⟩
 rw [siteU_up hu,(g.hub.up hu).2]
theorem KI.put {c:Cfg} {w:WSt} {q:Lg} {ke ks:Clk} {hb:HsU} (h:KI c w q ke ks hb) (r:Nat) (hr:r<5) (u:Value) (ou:u.oneCell'=true) {log:List Ev} {sent:Int} (hrp:replay (w.node r).recs=(log,sent)):KI c w (q.put r u ou (log.map Ev.mk_)) ke (ks.set r sent) hb:=by
 refine ⟨h.k0,fun i hi=>?_,fun i hi=>?_,h.ke,h.hb⟩
 ·show (if i=r then _ else _) <+: _
  split
  ·rename_i e;rw [e,hrp];exact List.prefix_refl _
  ·exact h.lg i hi
 ·rw [getset _ _ _ _ hr]
  split
  ·rename_i e;rw [← e,hrp];exact Int.le_refl _
  ·exact h.ks i hi
theorem KI.edit {c:Cfg} {w:WSt} {q:Lg} {ke ks:Clk} {hb:HsU} (h:KI c w q ke ks hb) (r:Nat) (hr:r<5) (hk:ke.get r+1≤(clkOfLog (replay (w.node r).recs).1).get r):KI c w q (ke.set r (ke.get r+1)) ks hb:=by
 refine ⟨fun i hi=>?_,h.lg,h.ks,fun i hi=>?_,h.hb⟩
 ·have:=h.k0 i hi
  rw [getset _ _ _ _ hr]
  split
  ·rename_i e;subst e;omega
  ·exact this
 ·rw [getset _ _ _ _ hr]
  split
  ·rename_i e;rw [← e];exact hk
  ·exact h.ke i hi
theorem KI.seen {c:Cfg} {w:WSt} {q:Lg} {ke ks:Clk} {hb:HsU} {k:Nat} (h:KI c w q ke ks hb) (g:WGd k c w) (hu:w.hub.up=true):KI c w q ke ks w.hub.siteU∧HbLe hb w.hub.siteU:=by
 have hs:w.hub.siteU=⟨true,(hreplay c w.hub.recs).site⟩:=by rw [siteU_up hu,(g.hub.up hu).2]
 obtain ⟨p,h1,h2⟩:=h.hb
 refine ⟨⟨h.k0,h.lg,h.ks,h.ke,⟨_,PLt.refl _,by rw [hs]⟩⟩,?_⟩
 rw [hs,h2]
 exact HbLe.of h1
end
section
theorem nodup_lt:∀ (n:Nat) (l:List Nat),l.Nodup→(∀ x∈l,x<n)→l.length≤n
 | 0,[],_,_=>Nat.le_refl _
 | 0,x::l,_,h=>absurd (h x (by simp)) rM
 | n+1,l,hd,h=>by
  by_cases hn:n∈l
  ·have h1:=List.length_erase_of_mem hn
   have h2:=nodup_lt n (l.erase n) (hd.erase n) fun x hx=>by
    have:=(hd.mem_erase_iff).1 hx
    have:=h x this.2
    omega
   omega
  ·have:=nodup_lt n l hd fun x hx=>by
    have:=h x hx
    by_cases e:x=n
    ·subst e;exact absurd hx hn
    ·omega
   omega
theorem win_count (R:List Ev) (hd:Dst R) (N W:Nat) (C:Nat→Int) (h:∀ e∈R,0≤e.r∧e.r<N∧C e.r.toNat<e.n∧e.n≤C e.r.toNat+W):R.length≤N * W:=by
 have hlt:∀ a b x y:Nat,a<b→x<W→a * W+x<b * W+y:=fun a b x y hab hx=>by
  have:(a+1) * W≤b * W:=Nat.mul_le_mul_right W hab
  rw [Nat.add_mul,Nat.one_mul] at this
  omega
 have hx:∀ e∈R,(e.n - C e.r.toNat - 1).toNat<W:=fun e he=>by have:=h e he;omega
 rw [← List.length_map (f:=fun e:Ev=>e.r.toNat * W+(e.n - C e.r.toNat - 1).toNat)]
 refine nodup_lt _ _ ?_ fun x hx2=>?_
 ·unfold List.Nodup
  rw [List.pairwise_map]
  refine List.Pairwise.imp_of_mem ?_ hd
  intro a b ha hb hab he
  have h1:=h a ha
  have h2:=h b hb
  have x1:=hx a ha
  have x2:=hx b hb
  rcases Nat.lt_trichotomy a.r.toNat b.r.toNat with hr | hr | hr
  ·have:=hlt _ _ _ (b.n - C b.r.toNat - 1).toNat hr x1;omega
  ·apply hab
   rw [hr] at he h1
   unfold Ev.mk_
   rw [Mk.mk.injEq]
   constructor
   ·omega
   ·omega
  ·have:=hlt _ _ _ (a.n - C a.r.toNat - 1).toNat hr x2;omega
 ·obtain ⟨e,he,rfl⟩:=List.mem_map.1 hx2
  have h1:=h e he
  have:=hlt e.r.toNat N _ 0 rM (hx e he)
  omega
theorem RmI.few {k:Nat} {c:Cfg} {w:WSt} (g:WGd k c w) (h:RmI c w) {r:Int} (hr:w.has r) (hu:(w.node r).up=true) {l:List Ev} (hl:∀ e∈l,e.May∧e.r<c.n∧e.n≤lenD c w e.r.toNat):(((drainL (w.node r).clk ((w.node r).held++l)).2.1.length:Nat):Int)≤c.n * c.w:=by
 have gn:=g.nd r hr
 have hcn:=g.hub.cm.n
 have hcw:=g.hub.cm.w
 have hd:Dst (freshL (w.node r).clk ((w.node r).held++l)):=freshL_dst _ _ [] List.Pairwise.nil
 have hlen:(drainL (w.node r).clk ((w.node r).held++l)).2.1.length≤(freshL (w.node r).clk ((w.node r).held++l)).length:=by
  rw [drainL_eq]
  exact (drain_sub _ _ hd).length_le
 have hp:=g.hub.dur.post
 have hrp:=(gn.up hu).2
 have hck:=gn.clk hu
 have hmem:∀ e∈(w.node r).held++l,e.May∧e.r<c.n∧e.n≤lenD c w e.r.toNat:=fun e he=>by
  rcases List.mem_append.1 he with he | he
  ·have:=(gn.held hu).2 e he
   exact ⟨this.1,this.2.2,h.held r hr hu e he⟩
  ·exact hl e he
 have hc:=win_count _ hd c.n.toNat c.w.toNat (fun i=>(w.node r).clk.get i) fun e he=>by
  obtain ⟨m1,m2,m3⟩:=hmem e (freshL_mem _ _ e he)
  have hh:=freshL_has _ _ e he
  have hr5:=m1.r
  have hn1:=m1.n
  have hgt:(w.node r).clk.get e.r.toNat<e.n:=by
   by_cases hlt:(w.node r).clk.get e.r.toNat<e.n
   ·exact hlt
   ·exfalso
    have:(w.node r).clk.has e.r e.n=true:=by
     unfold Clk.has
     simp only [Bool.and_eq_true,decide_eq_true_eq]
     omega
    rw [this] at hh;cases hh
  have hs:e.r.toNat<(hreplay c w.hub.recs).sf.length:=by have:=hp.n;omega
  obtain ⟨R,hR⟩:∃ R:Nat,r=(R:Int):=⟨r.toNat,by have:=hr.1;omega⟩
  subst hR
  have hRn:R<(hreplay c w.hub.recs).told.length:=by
   have a1:=hp.n
   have a2:=hp.t
   have a3:=g.n
   have a4:=hr.2
   omega
  have hlow:=low_replay c w.hub.recs R e.r.toNat hRn rM
  have htold:=h.told R hr e.r.toNat rM
  have hclk:(clkD w R).get e.r.toNat=(w.node R).clk.get e.r.toNat:=by
   unfold clkD
   rw [hrp,hck]
  have hc0:0≤(w.node R).clk.get e.r.toNat:=by
   rw [hck]
   have hv:=Ev.May.r5 gn.dur.revs
   rw [hrp] at hv
   exact (clkOfLog_bd _ hv e.r.toNat rM).1
  have hw:=(hp.s _ (show (hreplay c w.hub.recs).sf.getD e.r.toNat Sf.none∈(hreplay c w.hub.recs).sf by
   rw [show (hreplay c w.hub.recs).sf.getD e.r.toNat Sf.none=(hreplay c w.hub.recs).sf[e.r.toNat]'hs by simp [List.getD_eq_getElem?_getD,hs]]
   exact List.getElem_mem hs)).2.2.1
  rw [hclk] at htold
  unfold lenD at m3
  have hnn:((c.n.toNat:Nat):Int)=c.n:=by omega
  have hww:((c.w.toNat:Nat):Int)=c.w:=by omega
  refine ⟨hr5.1,by omega,hgt,?_⟩
  rw [hww]
  omega
 have hmul:((c.n.toNat * c.w.toNat:Nat):Int)=c.n * c.w:=by
  rw [Int.natCast_mul,Int.toNat_of_nonneg rM,Int.toNat_of_nonneg rM]
 omega
theorem n22 {a:Int} (h:decide (a=22)=false:=by rfl):a≠22:=of_decide_eq_false h
theorem take22 {c:Cfg} {r:Int} {st:NSt} {f:Rcd×Int} (hf:f.2≠22) (h:st.up=true→f.2=0→f.1.kind=4→(∀ e∈f.1.l,¬ (e.r=r∨c.n≤e.r))→((drainL st.clk (st.held++f.1.l)).2.1.length:Int)≤c.h):(st.takeC c r f).2≠22:=by
 unfold NSt.takeC
 split
 ·exact n22
 rename_i hu0
 have hu:st.up=true:=by cases hh:st.up with
  | true=>rfl
  | false=>exact absurd hh hu0
 split
 ·exact hf
 rename_i h2
 have h2:f.2=0:=by simpa using h2
 split
 ·exact n22
 split
 ·exact n22
 rename_i hany
 split
 ·unfold NSt.pushed
  simp only
  split
  ·exact n22
  split
  ·exact n22
  ·exact n22
 split
 ·rename_i h4
  have:=h hu h2 h4 fun e he hh=>hany (List.any_eq_true.2 ⟨e,he,by simpa using hh⟩)
  unfold NSt.eventsC
  rw [if_neg rM]
  split
  ·exact n22
  split
  ·exact n22
  ·exact n22
 ·exact n22
theorem push22 (most:Int) (p:PSt) (r:Int) (l:List Ev):(p.pushC most r l).2.1≠22:=by
 unfold PSt.pushC
 split
 ·exact n22
 split
 ·unfold Sf.putS putC
  split
  ·exact n22
  split
  ·exact n22
  ·exact n22
 ·exact n22
theorem hub22 (c:Cfg) (st:HSt) (f:Rcd×Int) (hf:f.2≠22):(st.take c f).2.2.2≠22:=by
 unfold HSt.take
 split
 ·exact n22
 split
 ·exact hf
 split
 ·exact n22
 split
 ·unfold HSt.push
  split
  ·exact push22 _ _ _ _
  split
  ·exact n22
  split
  ·exact n22
  ·exact n22
 split
 ·unfold HSt.fetch
  split
  ·unfold PSt.fetch
   split
   ·exact n22
   ·exact n22
  ·exact n22
 split
 ·unfold HSt.ack
  split
  ·unfold PSt.ack
   split
   ·exact n22
   ·exact n22
  split
  ·exact n22
  split
  ·exact n22
  ·exact n22
 ·exact n22
theorem RmI.arrive22 {k:Nat} {c:Cfg} {w:WSt} (g:WGd k c w) (h:RmI c w) (hH:c.n * c.w≤c.h) (to:Int) {f:Rcd×Int} (hf:f.2≠22) (hm:f.2=0→f.1.FMay) (h4:f.2=0→f.1.kind=4→∀ e∈f.1.l,e.n≤lenD c w e.r.toNat):(w.arrive c to f).2≠22:=by
 unfold WSt.arrive
 split
 ·rename_i hh
  refine take22 hf fun hu h2 k4 hl=>?_
  have:=h.few g hh hu (l:=f.1.l) fun e he=>⟨(hm h2).l e he,by have:=hl e he;omega,h4 h2 k4 e he⟩
  omega
 ·exact hub22 _ _ _ hf
theorem RmI.noHold {k:Nat} {c:Cfg} {w:WSt} (g:WGd k c w) (h:RmI c w) (hH:c.n * c.w≤c.h) (s:Stp) (he:s.ed.err=0):(w.step c s).2≠22:=by
 unfold WSt.step
 split
 ·unfold WSt.flight
  split
  ·rename_i hat
   have hi:s.at_.toNat<w.fl.length:=by omega
   have hmem:w.fl.getD s.at_.toNat (0,Rcd.zero)∈w.fl:=by
    rw [show w.fl.getD s.at_.toNat (0,Rcd.zero)=w.fl[s.at_.toNat]'hi by simp [List.getD_eq_getElem?_getD,hi]]
    exact List.getElem_mem hi
   have h2:RmI c (if s.kind=5 then w else { w with fl:=tkA w.fl s.at_ })∧WGd k c (if s.kind=5 then w else { w with fl:=tkA w.fl s.at_ })∧∀ r,lenD c (if s.kind=5 then w else { w with fl:=tkA w.fl s.at_ }) r=lenD c w r:=by
    split
    ·exact ⟨h,g,fun _=>rfl⟩
    ·exact ⟨h.less fun y hy=>tkA_mem hy,⟨g.n,g.nd,g.hub,by have:=g.fl.1;have:=tkA_len w.fl s.at_;show (tkA w.fl s.at_).length≤k;omega,fun y hy=>g.fl.2 y (tkA_mem hy)⟩,fun _=>rfl⟩
   obtain ⟨a1,a2,a5⟩:=h2
   simp only
   split
   ·exact n22
   ·refine RmI.arrive22 a2 a1 hH _ ?_ ?_ ?_
    ·split
     ·unfold burstF
      split
      ·exact n22
      ·exact n22
     ·exact n22
    ·split
     ·exact burstF_may (g.fl.2 _ hmem) _ _
     ·exact fun _=>g.fl.2 _ hmem
    ·intro h0 k4 e he2
     rw [a5]
     have hx:(if s.kind=7 then burstF (w.fl.getD s.at_.toNat (0,Rcd.zero)).2 s.bit s.mask else ((w.fl.getD s.at_.toNat (0,Rcd.zero)).2,0)).1=(w.fl.getD s.at_.toNat (0,Rcd.zero)).2:=by
      split at h0
      ·rename_i h7;rw [if_pos h7];exact burstF_eq _ _ _ h0
      ·rename_i h7;rw [if_neg h7]
     rw [hx] at k4 he2
     exact h.evF _ hmem k4 e he2
  ·exact n22
 split
 ·unfold WSt.power
  split
  ·split
   ·exact n22
   ·split
    ·unfold NSt.start
     split
     ·exact n22
     ·exact n22
    ·exact n22
  ·split
   ·split
    ·exact n22
    ·split
     ·unfold HSt.start
      split
      ·exact n22
      ·exact n22
     ·exact n22
   ·exact n22
 split
 ·exact n22
 split
 ·unfold NSt.edit
  split
  ·unfold NSt.editE chkC
   rw [he]
   simp only [ne_eq,not_true_eq_false,if_false]
   repeat' split
   all_goals omega
  split
  ·exact n22
  ·exact n22
 split
 ·show ((w.node s.r).push c s.r).2≠22
  unfold NSt.push
  repeat' split
  all_goals exact n22
 split
 ·show ((w.node s.r).tell s.r 3).2≠22
  unfold NSt.tell
  split <;> exact n22
 split
 ·show ((w.node s.r).tell s.r 5).2≠22
  unfold NSt.tell
  split <;> exact n22
 split
 ·show ((w.node s.r).state s.r).2≠22
  unfold NSt.state
  repeat' split
  all_goals exact n22
 ·exact n22
end
section
def kOne (e:Ev):Bool:=decide (e.ed.kind=1)
structure KmOk (m:KMap):Prop where
 nd:(m.map (·.1)).Nodup
 ev:∀ p∈m,∀ e∈p.2,e.ed.key=p.1∧(e.ed.kind=1∨e.ed.kind=3∨e.ed.kind=4)
theorem lvGet_none {k:List UInt8}:∀ {m:KMap},k ∉ m.map (·.1)→lvGet k m=[]
 | [],_=>rfl
 | p::m,h=>by
  unfold lvGet
  rw [if_neg (fun e=>h (by rw [e];simp))]
  exact lvGet_none (fun hm=>h (by simp only [List.map_cons];exact List.mem_cons_of_mem _ hm))
theorem lvGet_mem {k:List UInt8}:∀ {m:KMap} {e:Ev},e∈lvGet k m→∃ p∈m,p.1=k∧e∈p.2
 | [],e,h=>by cases h
 | p::m,e,h=>by
  unfold lvGet at h
  split at h
  ·rename_i hk;exact ⟨p,by simp,hk.symm,h⟩
  ·obtain ⟨q,hq,h1,h2⟩:=lvGet_mem h
   exact ⟨q,List.mem_cons_of_mem _ hq,h1,h2⟩
theorem lvUpd_get (k:List UInt8) (f:List Ev→List Ev) (q:List UInt8):∀ m:KMap,(m.map (·.1)).Nodup→lvGet q (lvUpd k f m)=if q=k then f (lvGet k m) else lvGet q m
 | [],_=>by
  unfold lvUpd
  show lvGet q (if f []=[] then [] else [(k,f [])])=if q=k then f [] else []
  split
  ·rename_i h;rw [h];simp [lvGet]
  ·unfold lvGet
   rfl
 | p::m,hd=>by
  rw [List.map_cons,List.nodup_cons] at hd
  unfold lvUpd
  by_cases hk:k=p.1
  ·rw [if_pos hk]
   have hg:lvGet k (p::m)=p.2:=by unfold lvGet;rw [if_pos hk]
   rw [hg]
   split
   ·rename_i hf
    by_cases hq:q=k
    ·rw [if_pos hq,hf,hq,hk]
     exact lvGet_none hd.1
    ·rw [if_neg hq]
     conv=>rhs;unfold lvGet
     rw [if_neg (fun e=>hq (by rw [e,hk]))]
   ·by_cases hq:q=k
    ·rw [if_pos hq]
     unfold lvGet
     rw [if_pos hq]
    ·rw [if_neg hq]
     unfold lvGet
     rw [if_neg hq,if_neg (fun e=>hq (by rw [e,hk]))]
  ·rw [if_neg hk]
   have ih:=lvUpd_get k f q m hd.2
   have hg:lvGet k (p::m)=lvGet k m:=by conv=>lhs;unfold lvGet;rw [if_neg hk]
   rw [hg]
   by_cases hqp:q=p.1
   ·have hqk:¬ q=k:=fun e=>hk (by rw [← e,hqp])
    unfold lvGet
    rw [if_pos hqp,if_neg hqk,if_pos hqp]
   ·have e1:lvGet q (p::lvUpd k f m)=lvGet q (lvUpd k f m):=by conv=>lhs;unfold lvGet;rw [if_neg hqp]
    have e2:lvGet q (p::m)=lvGet q m:=by conv=>lhs;unfold lvGet;rw [if_neg hqp]
    rw [e1,e2,ih]
theorem lvUpd_nd (k:List UInt8) (f:List Ev→List Ev):∀ m:KMap,(m.map (·.1)).Nodup→((lvUpd k f m).map (·.1)).Nodup
 | [],_=>by unfold lvUpd;split <;> simp
 | p::m,hd=>by
  have hd2:=hd
  rw [List.map_cons,List.nodup_cons] at hd
  unfold lvUpd
  by_cases hk:k=p.1
  ·rw [if_pos hk]
   split
   ·exact hd.2
   ·rw [List.map_cons,List.nodup_cons]
    exact ⟨by show k ∉ _;rw [hk];exact hd.1,hd.2⟩
  ·rw [if_neg hk,List.map_cons,List.nodup_cons]
   refine ⟨fun hm=>?_,lvUpd_nd k f m hd.2⟩
   obtain ⟨q,hq,hqe⟩:=List.mem_map.1 hm
   rcases lvUpd_keys k f m q hq with h | ⟨x,hx,hxe⟩
   ·exact hk (by rw [← h,hqe])
   ·exact hd.1 (List.mem_map.2 ⟨x,hx,by rw [hxe,hqe]⟩)
theorem lvUpd_mem (k:List UInt8) (f:List Ev→List Ev):∀ (m:KMap) (p:List UInt8×List Ev),p∈lvUpd k f m→p∈m∨p=(k,f (lvGet k m))
 | [],p,h=>by
  unfold lvUpd at h
  split at h
  ·cases h
  ·simp at h;exact .inr h
 | q::m,p,h=>by
  unfold lvUpd at h
  split at h
  ·rename_i hk
   have hg:lvGet k (q::m)=q.2:=by unfold lvGet;rw [if_pos hk]
   rw [hg]
   split at h
   ·exact .inl (List.mem_cons_of_mem _ h)
   ·rcases List.mem_cons.1 h with h | h
    ·exact .inr h
    ·exact .inl (List.mem_cons_of_mem _ h)
  ·rename_i hk
   have hg:lvGet k (q::m)=lvGet k m:=by conv=>lhs;unfold lvGet;rw [if_neg hk]
   rw [hg]
   rcases List.mem_cons.1 h with h | h
   ·exact .inl (by rw [h];simp)
   ·rcases lvUpd_mem k f m p h with h | h
    ·exact .inl (List.mem_cons_of_mem _ h)
    ·exact .inr h
theorem lvWith_mem {l:List Ev} {e y:Ev} (h:y∈lvWith l e):y∈l∨(y=e∧e.ed.kind≠2∧e.ed.kind≠5):=by
 unfold lvWith at h
 split at h
 ·rename_i h1
  rcases List.mem_append.1 h with h | h
  ·exact .inl h
  ·simp at h;exact .inr ⟨h,by omega,by omega⟩
 split at h
 ·exact .inl (List.mem_filter.1 (List.mem_filter.1 h).1).1
 split at h
 ·split at h
  ·rcases List.mem_append.1 h with h | h
   ·exact .inl (List.mem_filter.1 h).1
   ·simp at h;exact .inr ⟨h,by omega,by omega⟩
  ·exact .inl h
 split at h
 ·exact .inl (List.mem_filter.1 h).1
 split at h
 ·rcases List.mem_append.1 h with h | h
  ·exact .inl (List.mem_filter.1 h).1
  ·simp at h;exact .inr ⟨h,by omega,by omega⟩
 ·exact .inl h
theorem KmOk.apply {m:KMap} (h:KmOk m) {e:Ev} (he:1≤e.ed.kind∧e.ed.kind≤5):KmOk (lvApply m e):=by
 refine ⟨lvUpd_nd _ _ _ h.nd,fun p hp y hy=>?_⟩
 rcases lvUpd_mem _ _ _ _ hp with hp | rfl
 ·exact h.ev p hp y hy
 ·rcases lvWith_mem hy with hy | ⟨rfl,h2,h5⟩
  ·obtain ⟨q,hq,hqe,hqm⟩:=lvGet_mem hy
   have:=h.ev q hq y hqm
   rw [hqe] at this
   exact this
  ·exact ⟨rfl,by omega⟩
theorem lvOf_ok (log:List Ev) (h:∀ e∈log,1≤e.ed.kind∧e.ed.kind≤5):KmOk (lvOf log):=by
 induction log using snoc_ind with
 | h0=>exact ⟨List.nodup_nil,fun p hp=>by cases hp⟩
 | hs l e ih =>
  rw [lvOf_snoc]
  exact (ih fun x hx=>h x (by simp [hx])).apply (h e (by simp))
def svStep (S:List Ev) (e:Ev):List Ev:=if e.ed.kind=1 then S++[e] else if e.ed.kind=2 then S.filter (fun a=>!(decide (a.ed.key=e.ed.key) && a.bel e)) else S
def sv (log:List Ev):List Ev:=log.foldl svStep []
theorem sv_snoc (log:List Ev) (e:Ev):sv (log++[e])=svStep (sv log) e:=by unfold sv;rw [List.foldl_append];rfl
theorem lvWith_one {l:List Ev} {e:Ev} (he:1≤e.ed.kind∧e.ed.kind≤5):(lvWith l e).filter kOne=if e.ed.kind=1 then l.filter kOne++[e] else if e.ed.kind=2 then (l.filter kOne).filter (fun a=>!a.bel e) else l.filter kOne:=by
 have hw:∀ (k:Int) (q:Ev→Bool),k≠1→(lvWithout l e k q).filter kOne=l.filter kOne:=fun k q hk=>by
  unfold lvWithout
  rw [List.filter_filter]
  refine List.filter_congr fun a _=>?_
  unfold kOne
  by_cases h1:a.ed.kind=1
  ·have:¬ a.ed.kind=k:=by omega
   simp [h1,this,hk.symm]
  ·simp [h1]
 unfold lvWith
 by_cases h1:e.ed.kind=1
 ·rw [if_pos h1,if_pos h1,List.filter_append]
  have:kOne e=true:=by unfold kOne;simp [h1]
  simp [this]
 rw [if_neg h1,if_neg h1]
 have hk1:kOne e=false:=by unfold kOne;simp [h1]
 by_cases h2:e.ed.kind=2
 ·rw [if_pos h2,if_pos h2]
  unfold lvCounted lvWithout
  rw [List.filter_filter,List.filter_filter,List.filter_filter]
  refine List.filter_congr fun a _=>?_
  unfold kOne qAll
  by_cases ha:a.ed.kind=1
  ·simp [ha]
  ·simp [ha]
 rw [if_neg h2,if_neg h2]
 split
 ·split
  ·rw [List.filter_append,hw 3 _ rM];simp [hk1]
  ·rfl
 split
 ·rw [hw 4 _ rM]
 split
 ·rw [List.filter_append,hw 4 _ rM];simp [hk1]
 ·rfl
theorem lvGet_sv (log:List Ev) (h:∀ e∈log,1≤e.ed.kind∧e.ed.kind≤5) (k:List UInt8):(lvGet k (lvOf log)).filter kOne=(sv log).filter fun a=>decide (a.ed.key=k):=by
 induction log using snoc_ind with
 | h0=>rfl
 | hs l e ih =>
  have hl:∀ x∈l,1≤x.ed.kind∧x.ed.kind≤5:=fun x hx=>h x (by simp [hx])
  have he:=h e (by simp)
  have ih:=ih hl
  rw [lvOf_snoc,sv_snoc]
  unfold lvApply
  rw [lvUpd_get _ _ _ _ (lvOf_ok l hl).nd]
  by_cases hk:k=e.ed.key
  ·rw [if_pos hk,lvWith_one he,← hk,ih]
   unfold svStep
   split
   ·rw [List.filter_append];simp [hk]
   split
   ·rw [List.filter_filter,List.filter_filter]
    refine List.filter_congr fun a _=>?_
    by_cases ha:a.ed.key=k
    ·simp [ha,hk]
    ·simp [ha]
   ·rfl
  ·rw [if_neg hk,ih]
   unfold svStep
   split
   ·rw [List.filter_append]
    have:¬ e.ed.key=k:=fun x=>hk x.symm
    simp [this]
   split
   ·rw [List.filter_filter]
    refine List.filter_congr fun a _=>?_
    by_cases ha:a.ed.key=k
    ·have:¬ a.ed.key=e.ed.key:=fun x=>hk (by rw [← ha,x])
     simp [ha,this]
     exact .inl hk
    ·simp [ha]
   ·rfl
theorem cmpK_const (k:List UInt8):∀ l:List (List UInt8),l≠[]→(∀ x∈l,x=k)→cmpK l=[k]
 | [],h,_=>absurd rfl h
 | [x],_,h=>by rw [h x (by simp)];rfl
 | x::y::l,_,h=>by
  unfold cmpK
  rw [if_pos (by rw [h x (by simp),h y (by simp)])]
  exact cmpK_const k (y::l) (by simp) fun z hz=>h z (List.mem_cons_of_mem _ hz)
theorem bkKeys_one {l:List Ev} {k:List UInt8} (h:∀ e∈l,e.ed.key=k∧(e.ed.kind=1∨e.ed.kind=3∨e.ed.kind=4)):bkLiving l=l.filter kOne∧bkKeys l=if l.filter kOne=[] then [] else [k]:=by
 have h1:bkLiving l=l.filter kOne:=by
  unfold bkLiving
  refine List.filter_congr fun a _=>?_
  have:bkAbove 2 sKey l a=false:=by
   unfold bkAbove
   rw [List.any_eq_false]
   intro x hx
   have:=(h x hx).2
   have h2:¬ x.ed.kind=2:=by omega
   simp [h2]
  rw [this]
  unfold kOne
  simp
 refine ⟨h1,?_⟩
 unfold bkKeys
 rw [h1]
 split
 ·rename_i he;rw [he];rfl
 ·rename_i he
  refine cmpK_const k _ (fun hn=>he ?_) fun x hx=>?_
  ·have:=(sortK_perm ((l.filter kOne).map fun e=>e.ed.key)).length_eq
   rw [hn,List.length_map] at this
   exact List.eq_nil_of_length_eq_zero this.symm
  ·have:=(sortK_perm _).mem_iff.1 hx
   obtain ⟨e,he2,rfl⟩:=List.mem_map.1 this
   exact (h e (List.mem_filter.1 he2).1).1
def ks (log:List Ev):List (List UInt8):=(lvList (lvOf log)).map Con.key
theorem flat_keys (m:KMap) (hm:KmOk m):∀ l:List (List UInt8),(l.flatMap fun k=>bkOf (lvGet k m)).map Con.key=l.filter fun k=>decide ((lvGet k m).filter kOne≠[])
 | []=>rfl
 | k::l=>by
  rw [List.flatMap_cons,List.map_append,flat_keys m hm l]
  have hk:∀ e∈lvGet k m,e.ed.key=k∧(e.ed.kind=1∨e.ed.kind=3∨e.ed.kind=4):=fun e he=>by
   obtain ⟨p,hp,h1,h2⟩:=lvGet_mem he
   have:=hm.ev p hp e h2
   rw [h1] at this
   exact this
  have hb:=(bkKeys_one hk).2
  by_cases he:(lvGet k m).filter kOne=[]
  ·rw [if_pos he] at hb
   have:bkOf (lvGet k m)=[]:=by unfold bkOf;rw [hb];rfl
   rw [this,List.filter_cons,if_neg (by simp [he])]
   rfl
  ·rw [if_neg he] at hb
   have:(bkOf (lvGet k m)).map Con.key=[k]:=by unfold bkOf;rw [hb];rfl
   rw [this,List.filter_cons,if_pos (by simp [he])]
   rfl
theorem ks_spec (log:List Ev) (h:∀ e∈log,1≤e.ed.kind∧e.ed.kind≤5):(ks log).Nodup∧∀ k,k∈ks log↔∃ a∈sv log,a.ed.key=k:=by
 have hm:=lvOf_ok log h
 have e:ks log=(sortK ((lvOf log).map (·.1))).filter fun k=>decide ((lvGet k (lvOf log)).filter kOne≠[]):=flat_keys _ hm _
 rw [e]
 refine ⟨((sortK_perm _).nodup_iff.2 hm.nd).filter _,fun k=>?_⟩
 have hs:=lvGet_sv log h k
 rw [List.mem_filter,(sortK_perm _).mem_iff,hs]
 constructor
 ·rintro ⟨_,h2⟩
  have h2:(sv log).filter (fun a=>decide (a.ed.key=k))≠[]:=by simpa using h2
  obtain ⟨a,ha⟩:=List.exists_mem_of_ne_nil _ h2
  have:=List.mem_filter.1 ha
  exact ⟨a,this.1,by simpa using this.2⟩
 ·rintro ⟨a,ha,hk⟩
  have hmem:a∈(sv log).filter (fun a=>decide (a.ed.key=k)):=List.mem_filter.2 ⟨ha,by simpa using hk⟩
  have hne:(sv log).filter (fun a=>decide (a.ed.key=k))≠[]:=List.ne_nil_of_mem hmem
  refine ⟨?_,by simpa using hne⟩
  rw [← hs] at hmem
  obtain ⟨p,hp,h1,_⟩:=lvGet_mem (List.mem_filter.1 hmem).1
  exact List.mem_map.2 ⟨p,hp,h1⟩
theorem ks_len (log:List Ev):(ks log).length=(lvList (lvOf log)).length:=List.length_map ..
theorem nodup_sub {α:Type} [BEq α] [LawfulBEq α]:∀ (l m:List α),l.Nodup→(∀ x∈l,x∈m)→l.length≤m.length
 | [],_,_,_=>Nat.zero_le _
 | x::l,m,hd,h=>by
  rw [List.nodup_cons] at hd
  have hx:=h x (by simp)
  have h1:=List.length_erase_of_mem hx
  have hp:0<m.length:=List.length_pos_of_mem hx
  have:=nodup_sub l (m.erase x) hd.2 fun y hy=>by
   have hne:y≠x:=fun e=>hd.1 (e ▸ hy)
   exact (List.mem_erase_of_ne hne).2 (h y (List.mem_cons_of_mem _ hy))
  simp only [List.length_cons]
  omega
theorem filter_two {α:Type} (p:α→Bool):∀ l:List α,l.length=(l.filter p).length+(l.filter fun x=>!p x).length
 | []=>rfl
 | x::l=>by
  have:=filter_two p l
  rw [List.filter_cons,List.filter_cons]
  cases hp:p x <;> simp <;> omega
theorem filter_and {α:Type} (p q:α→Bool) (l:List α):((l.filter q).filter p).length≤(l.filter p).length:=(List.Sublist.filter p List.filter_sublist).length_le
theorem kinds_len {α:Type} (P:Nat→α→Bool) (L:Nat):∀ (N:Nat) (l:List α),(∀ x∈l,∃ r,r<N∧P r x=true)→(∀ r,r<N→(l.filter (P r)).length≤L)→l.length≤N * L
 | 0,[],_,_=>Nat.zero_le _
 | 0,x::l,h,_=>by obtain ⟨r,hr,_⟩:=h x (by simp);omega
 | N+1,l,h,hl=>by
  have h1:=hl N rM
  have h2:=kinds_len P L N (l.filter fun x=>!P N x) (fun x hx=>by
   obtain ⟨hx1,hx2⟩:=List.mem_filter.1 hx
   obtain ⟨r,hr,hp⟩:=h x hx1
   refine ⟨r,?_,hp⟩
   by_cases e:r=N
   ·subst e;rw [hp] at hx2;cases hx2
   ·omega) fun r hr=>by
   have:=hl r rM
   have hs:=filter_and (P r) (fun x=>!P N x) l
   omega
  have h3:=filter_two (P N) l
  rw [Nat.add_mul]
  omega
end
section
theorem num_le {log:List Ev} (hn:NumOk log) (h5:∀ e∈log,0≤e.r∧e.r<5):∀ x∈log,x.n≤(clkOfLog log).get x.r.toNat:=by
 induction log using snoc_ind with
 | h0=>exact fun x hx=>by cases hx
 | hs l e ih =>
  intro x hx
  obtain ⟨hn1,hn2⟩:=NumOk.app.1 hn
  have he:=h5 e (by simp)
  rw [clkOfLog_snoc,clkStep_get _ _ he]
  rcases List.mem_append.1 hx with hx | hx
  ·have:=ih hn1 (fun y hy=>h5 y (by simp [hy])) x hx
   split <;> omega
  ·simp at hx;subst hx
   have:=hn2.1
   rw [if_pos rfl]
   omega
theorem num_ex {log:List Ev} (hn:NumOk log) (h5:∀ e∈log,0≤e.r∧e.r<5):∀ (r:Int) (n:Int),0≤r∧r<5→1≤n→n≤(clkOfLog log).get r.toNat→∃ y∈log,y.r=r∧y.n=n:=by
 induction log using snoc_ind with
 | h0=>intro r n _ h1 h2;rw [show (clkOfLog []).get r.toNat=0 from zero_get _] at h2;omega
 | hs l e ih =>
  intro r n hr h1 h2
  obtain ⟨hn1,hn2⟩:=NumOk.app.1 hn
  have he:=h5 e (by simp)
  have hen:=hn2.1
  rw [clkOfLog_snoc,clkStep_get _ _ he] at h2
  by_cases hle:n≤(clkOfLog l).get r.toNat
  ·obtain ⟨y,hy,h3⟩:=ih hn1 (fun y hy=>h5 y (by simp [hy])) r n hr h1 hle
   exact ⟨y,by simp [hy],h3⟩
  ·split at h2
   ·rename_i h
    refine ⟨e,by simp,by omega,?_⟩
    have hen:e.n=(clkOfLog l).get e.r.toNat+1:=hen
    rw [h] at hen
    omega
   ·omega
theorem num_inj {log:List Ev} (hn:NumOk log) (h5:∀ e∈log,0≤e.r∧e.r<5):∀ x∈log,∀ y∈log,x.r=y.r→x.n=y.n→x=y:=by
 induction log using snoc_ind with
 | h0=>exact fun x hx=>by cases hx
 | hs l e ih =>
  intro x hx y hy hr hxy
  obtain ⟨hn1,hn2⟩:=NumOk.app.1 hn
  have h5l:∀ e∈l,0≤e.r∧e.r<5:=fun y hy=>h5 y (by simp [hy])
  have hen:e.n=(clkOfLog l).get e.r.toNat+1:=hn2.1
  rcases List.mem_append.1 hx with hx2 | hx2 <;> rcases List.mem_append.1 hy with hy2 | hy2
  ·exact ih hn1 h5l x hx2 y hy2 hr hxy
  ·have hye:y=e:=by simpa using hy2
   subst hye
   have:=num_le hn1 h5l x hx2
   rw [hr] at this;omega
  ·have hxe:x=e:=by simpa using hx2
   subst hxe
   have:=num_le hn1 h5l y hy2
   rw [← hr] at this;omega
  ·have h1:x=e:=by simpa using hx2
   have h2:y=e:=by simpa using hy2
   rw [h1,h2]
theorem num_pre {A B:List Ev} {e:Ev} (hn:NumOk (A++e::B)) (h5:∀ x∈A++e::B,0≤x.r∧x.r<5) (x:Ev) (hx:x∈A++e::B) (hr:x.r=e.r) (h1:1≤x.n) (hlt:x.n<e.n):x∈A:=by
 have hA:=(NumOk.app.1 hn)
 have hen:e.n=(clkOfLog A).get e.r.toNat+1:=hA.2.1
 have h5A:∀ x∈A,0≤x.r∧x.r<5:=fun y hy=>h5 y (by simp [hy])
 have hx5:=h5 x hx
 obtain ⟨y,hy,hyr,hyn⟩:=num_ex hA.1 h5A x.r x.n hx5 h1 (by rw [hr];omega)
 have:=num_inj hn h5 y (by simp [hy]) x hx hyr hyn
 rw [← this];exact hy
def LgOk (c:Cfg) (s:Int) (l:List Ev):Prop:=∀ A e B,l=A++e::B→(∀ i,i<5→e.c.get i≤(clkOfLog A).get i)∧(e.r=s→e.c=clkOfLog A∧chkC c.l c.p (lvList (lvOf A)) e.ed=0)
theorem LgOk.nil (c:Cfg) (s:Int):LgOk c s []:=fun A e B h=>by
 have:=congrArg List.length h
 simp at this
theorem LgOk.snoc {c:Cfg} {s:Int} {l:List Ev} {e:Ev} (h:LgOk c s l) (h1:∀ i,i<5→e.c.get i≤(clkOfLog l).get i) (h2:e.r=s→e.c=clkOfLog l∧chkC c.l c.p (lvList (lvOf l)) e.ed=0):LgOk c s (l++[e]):=fun A x B hl=>by
 rcases List.eq_nil_or_concat B with rfl | ⟨B',y,rfl⟩
 ·obtain ⟨rfl,hx⟩:=List.append_inj' hl rfl
  simp only [List.cons.injEq,and_true] at hx
  subst hx
  exact ⟨h1,h2⟩
 ·have:l++[e]=(A++x::B')++[y]:=by rw [hl];simp
  obtain ⟨rfl,_⟩:=List.append_inj' this rfl
  exact h A x B' rfl
theorem LgOk.num {l A B:List Ev} {e:Ev} (hn:NumOk l) (hl:l=A++e::B):e.n=(clkOfLog A).get e.r.toNat+1:=by
 subst hl
 exact (NumOk.app.1 hn).2.1
def rdyC:Clk→List Ev→Prop
 | _,[]=>True
 | c,e::l=>(∀ i,i<5→e.c.get i≤c.get i)∧rdyC (clkStep c e) l
theorem LgOk.app {c:Cfg} {s:Int}:∀ (D l:List Ev),LgOk c s l→rdyC (clkOfLog l) D→(∀ e∈D,e.r≠s)→LgOk c s (l++D)
 | [],l,h,_,_=>by rw [List.append_nil];exact h
 | e::D,l,h,hr,hs=>by
  have h1:=h.snoc hr.1 (fun he=>absurd he (hs e (by simp)))
  have:=LgOk.app D (l++[e]) h1 (by rw [clkOfLog_snoc];exact hr.2) fun x hx=>hs x (List.mem_cons_of_mem _ hx)
  rwa [List.append_assoc] at this
theorem drain_rdyC (c:Clk) (l:List Ev):Dst l→rdyC c (drain c l).1:=by
 refine drain_induct (motive:=fun c l=>Dst l→rdyC c (drain c l).1) (fun c l h _=>?_) (fun c l i hi h ih hd=>?_) c l
 ·rw [drain_stop h];exact trivial
 ·rw [drain_step hd hi h]
  have hr:=h.2.1
  have hn:(l[i]'hi).n=c.get (l[i]'hi).r.toNat+1:=by have:=hr.2.2.2.1;omega
  have he:=clkStep_eq hn
  have h1:=ih (hd.erase i)
  rw [← he] at h1
  rw [← he]
  exact ⟨(Clk.le_iff _ _).1 hr.2.2.2.2,h1⟩
theorem sv_iff (l:List Ev) (a:Ev):a∈sv l↔∃ A B,l=A++a::B∧a.ed.kind=1∧∀ d∈B,d.ed.kind=2→a.ed.key=d.ed.key→a.bel d=false:=by
 induction l using snoc_ind with
 | h0 =>
  constructor
  ·intro h;cases h
  ·rintro ⟨A,B,h,_⟩
   have:=congrArg List.length h
   simp at this
 | hs l e ih =>
  rw [sv_snoc]
  constructor
  ·intro h
   unfold svStep at h
   split at h
   ·rename_i h1
    rcases List.mem_append.1 h with h | h
    ·obtain ⟨A,B,hl,k1,hb⟩:=ih.1 h
     refine ⟨A,B++[e],by rw [hl];simp,k1,fun d hd k2=>?_⟩
     rcases List.mem_append.1 hd with hd | hd
     ·exact hb d hd k2
     ·simp at hd;subst hd;omega
    ·simp at h;subst h
     exact ⟨l,[],rfl,h1,fun d hd=>by cases hd⟩
   split at h
   ·obtain ⟨h1,h2⟩:=List.mem_filter.1 h
    obtain ⟨A,B,hl,k1,hb⟩:=ih.1 h1
    refine ⟨A,B++[e],by rw [hl];simp,k1,fun d hd k2 hk=>?_⟩
    rcases List.mem_append.1 hd with hd | hd
    ·exact hb d hd k2 hk
    ·simp at hd;subst hd
     simpa [hk] using h2
   ·rename_i h1 h2
    obtain ⟨A,B,hl,k1,hb⟩:=ih.1 h
    refine ⟨A,B++[e],by rw [hl];simp,k1,fun d hd k2 hk=>?_⟩
    rcases List.mem_append.1 hd with hd | hd
    ·exact hb d hd k2 hk
    ·simp at hd;subst hd;exact absurd k2 h2
  ·rintro ⟨A,B,hl,k1,hb⟩
   unfold svStep
   rcases List.eq_nil_or_concat B with rfl | ⟨B',y,rfl⟩
   ·obtain ⟨rfl,hx⟩:=List.append_inj' hl rfl
    simp only [List.cons.injEq,and_true] at hx
    subst hx
    rw [if_pos k1]
    simp
   ·have h2:l++[e]=(A++a::B')++[y]:=by rw [hl];simp
    obtain ⟨hl2,hy⟩:=List.append_inj' h2 rfl
    simp only [List.cons.injEq,and_true] at hy
    subst hy
    have hm:a∈sv l:=ih.2 ⟨A,B',hl2,k1,fun d hd=>hb d (by simp [hd])⟩
    split
    ·exact List.mem_append.2 (.inl hm)
    split
    ·rename_i k2
     refine List.mem_filter.2 ⟨hm,?_⟩
     by_cases hk:a.ed.key=e.ed.key
     ·have:=hb e (by simp) k2 hk
      simp [this]
     ·simp [hk]
    ·exact hm
structure Lgs (c:Cfg) (N:Nat) (D:Nat→List Ev):Prop where
 num:∀ s,s<N→NumOk (D s)
 may:∀ s,s<N→∀ e∈D s,e.May
 ok:∀ s,s<N→LgOk c s (D s)
 uq:∀ s,s<N→∀ e∈D s,e.r<N∧e∈D e.r.toNat
theorem Lgs.view {c:Cfg} {N:Nat} {D:Nat→List Ev} (h:Lgs c N D) {s r:Nat} (hs:s<N) {A B A' B':List Ev} {e:Ev} (hr:e.r=(r:Int)) (hrN:r<N) (hD:D r=A++e::B) (hl:D s=A'++e::B'):∀ x∈A,x∈A':=by
 intro x hx
 have hxr:x∈D r:=by rw [hD];simp [hx]
 have hm:=h.may r hrN
 have h5r:=Ev.May.r5 hm
 have hmx:=hm x hxr
 have h5A:∀ x∈A,0≤x.r∧x.r<5:=fun y hy=>h5r y (by rw [hD];simp [hy])
 have hnA:NumOk A:=by have:=h.num r hrN;rw [hD] at this;exact (NumOk.app.1 this).1
 have h1:=num_le hnA h5A x hx
 have h2:=((h.ok r hrN A e B hD).2 hr).1
 have h3:=(h.ok s hs A' e B' hl).1 x.r.toNat (by have:=hmx.r;omega)
 rw [h2] at h3
 have hnA':NumOk A':=by have:=h.num s hs;rw [hl] at this;exact (NumOk.app.1 this).1
 have h5s:=Ev.May.r5 (h.may s hs)
 have h5A':∀ x∈A',0≤x.r∧x.r<5:=fun y hy=>h5s y (by rw [hl];simp [hy])
 obtain ⟨y,hy,hyr,hyn⟩:=num_ex hnA' h5A' x.r x.n hmx.r (by have:=hmx.n;omega) rM
 have hys:y∈D s:=by rw [hl];simp [hy]
 have u1:=h.uq s hs y hys
 have u2:=h.uq r hrN x hxr
 have hxN:x.r.toNat<N:=by have:=hmx.r;omega
 rw [hyr] at u1
 have:=num_inj (h.num _ hxN) (Ev.May.r5 (h.may _ hxN)) y u1.2 x u2.2 hyr hyn
 rw [← this];exact hy
theorem Lgs.back {c:Cfg} {N:Nat} {D:Nat→List Ev} (h:Lgs c N D) {s r:Nat} (hs:s<N) (hrN:r<N) {e a:Ev} (he:e∈D s) (ha:a∈sv (D s)) (her:e.r=(r:Int)) (har:a.r=(r:Int)) (hlt:a.n<e.n) {A B:List Ev} (hD:D r=A++e::B):a∈sv A:=by
 obtain ⟨L1,L2,hl,k1,hb⟩:=(sv_iff _ _).1 ha
 have has:a∈D s:=by rw [hl];simp
 have ua:=(h.uq s hs a has).2
 rw [har,show ((r:Int)).toNat=r from Int.toNat_natCast r] at ua
 have hma:=h.may s hs a has
 have haA:a∈A:=by
  have hn:=h.num r hrN
  have h5:=Ev.May.r5 (h.may r hrN)
  rw [hD] at hn h5 ua
  exact num_pre hn h5 a ua (by rw [har,her]) (by have:=hma.n;omega) hlt
 refine (sv_iff _ _).2 ?_
 obtain ⟨A1,A2,hA⟩:=List.append_of_mem haA
 refine ⟨A1,A2,hA,k1,fun d hd k2 hk=>?_⟩
 obtain ⟨A',B',hl2⟩:=List.append_of_mem he
 have hdA:d∈A:=by rw [hA];simp [hd]
 have hds:d∈D s:=by
  have:=h.view hs her hrN hD hl2 d hdA
  rw [hl2];simp [this]
 rw [hl] at hds
 rcases List.mem_append.1 hds with hds | hds
 ·cases hbd:a.bel d with
  | false=>rfl
  | true =>
   exfalso
   obtain ⟨P,Q,hP⟩:=List.append_of_mem hds
   have hl3:D s=P++d::(Q++a::L2):=by rw [hl,hP];simp
   have h1:=(h.ok s hs P d _ hl3).1 a.r.toNat (by have:=hma.r;omega)
   unfold Ev.bel Clk.has at hbd
   simp only [Bool.and_eq_true,decide_eq_true_eq] at hbd
   have h2:=LgOk.num (h.num s hs) hl
   have h3:(clkOfLog P).get a.r.toNat≤(clkOfLog L1).get a.r.toNat:=by
    rw [hP]
    unfold clkOfLog
    rw [List.foldl_append]
    exact clk_mono _ _ _
   omega
 ·rcases List.mem_cons.1 hds with rfl | hds
  ·omega
  ·exact hb d hds k2 hk
theorem exists_max (P:Ev→Bool):∀ l:List Ev,(∃ a∈l,P a=true)→∃ e∈l,P e=true∧∀ a∈l,P a=true→a.n≤e.n
 | [],⟨a,h,_⟩=>by cases h
 | x::l,h=>by
  by_cases hl:∃ a∈l,P a=true
  ·obtain ⟨e,he,hp,hm⟩:=exists_max P l hl
   by_cases hx:P x=true∧e.n<x.n
   ·refine ⟨x,by simp,hx.1,fun a ha hpa=>?_⟩
    rcases List.mem_cons.1 ha with rfl | ha
    ·exact Int.le_refl _
    ·have:=hm a ha hpa;omega
   ·refine ⟨e,List.mem_cons_of_mem _ he,hp,fun a ha hpa=>?_⟩
    rcases List.mem_cons.1 ha with rfl | ha
    ·by_cases hlt:e.n<a.n
     ·exact absurd ⟨hpa,hlt⟩ hx
     ·omega
    ·exact hm a ha hpa
  ·obtain ⟨a,ha,hp⟩:=h
   rcases List.mem_cons.1 ha with rfl | ha
   ·refine ⟨a,by simp,hp,fun b hb hpb=>?_⟩
    rcases List.mem_cons.1 hb with rfl | hb
    ·exact Int.le_refl _
    ·exact absurd ⟨b,hb,hpb⟩ hl
   ·exact absurd ⟨a,ha,hp⟩ hl
theorem chk_room {L P:Int} {l:List Con} {e:Ed} (h:chkC L P l e=0) (k1:e.kind=1):(l.length:Int)<L:=by
 unfold chkC at h
 split at h
 ·rename_i h0;exact absurd h h0
 try rw [if_pos k1] at h
 split at h
 ·cases h
 split at h
 ·cases h
 ·omega
theorem err_kind {e:Ed} (h:e.err=0):1≤e.kind∧e.kind≤5:=by
 unfold Ed.err at h
 split at h
 ·cases h
 ·omega
theorem Lgs.keys {c:Cfg} {N:Nat} {D:Nat→List Ev} (h:Lgs c N D) (hL:0≤c.l) {s:Nat} (hs:s<N):(lvList (lvOf (D s))).length≤N * c.l.toNat:=by
 have hk:∀ s,s<N→∀ e∈D s,1≤e.ed.kind∧e.ed.kind≤5:=fun s hs e he=>by
  exact err_kind (h.may s hs e he).ed
 have hsp:=ks_spec (D s) (hk s hs)
 rw [← ks_len]
 refine kinds_len (fun r k=>(sv (D s)).any fun a=>decide (a.r=(r:Int)) && decide (a.ed.key=k)) c.l.toNat N (ks (D s)) (fun k hk2=>?_) fun r hr=>?_
 ·obtain ⟨a,ha,hak⟩:=(hsp.2 k).1 hk2
  obtain ⟨L1,L2,hl,_⟩:=(sv_iff _ _).1 ha
  have has:a∈D s:=by rw [hl];simp
  have u:=h.uq s hs a has
  have h5:=(h.may s hs a has).r
  refine ⟨a.r.toNat,by omega,List.any_eq_true.2 ⟨a,ha,?_⟩⟩
  have:a.r=((a.r.toNat:Nat):Int):=by omega
  simp [hak,← this]
 ·obtain ⟨F,hF⟩:∃ F,F=(ks (D s)).filter fun k=>(sv (D s)).any fun a=>decide (a.r=(r:Int)) && decide (a.ed.key=k):=⟨_,rfl⟩
  rw [← hF]
  have hFm:∀ k∈F,∃ a∈sv (D s),a.r=(r:Int)∧a.ed.key=k:=fun k hk2=>by
   rw [hF] at hk2
   obtain ⟨a,ha,hp⟩:=List.any_eq_true.1 (List.mem_filter.1 hk2).2
   exact ⟨a,ha,by simpa using hp⟩
  have hFn:F.Nodup:=by rw [hF];exact hsp.1.filter _
  rcases F with _ | ⟨k0,F0⟩
  ·simp
  obtain ⟨a0,ha0,har0,_⟩:=hFm k0 (by simp)
  obtain ⟨e,he,her,hmax⟩:=exists_max (fun a=>decide (a.r=(r:Int))) (sv (D s)) ⟨a0,ha0,by simpa using har0⟩
  have her:e.r=(r:Int):=by simpa using her
  obtain ⟨L1,L2,hl,ek1,_⟩:=(sv_iff _ _).1 he
  have hes:e∈D s:=by rw [hl];simp
  have ue:=(h.uq s hs e hes).2
  rw [her,show ((r:Int)).toNat=r from Int.toNat_natCast r] at ue
  obtain ⟨A,B,hD⟩:=List.append_of_mem ue
  have hchk:=chk_room ((h.ok r hr A e B hD).2 her).2 ek1
  have hkA:∀ e∈A,1≤e.ed.kind∧e.ed.kind≤5:=fun x hx=>hk r hr x (by rw [hD];simp [hx])
  have hspA:=ks_spec A hkA
  have hsub:∀ k∈(k0::F0).erase e.ed.key,k∈ks A:=fun k hk2=>by
   obtain ⟨hne,hkF⟩:=(hFn.mem_erase_iff).1 hk2
   obtain ⟨a,ha,har,hak⟩:=hFm k hkF
   have hle:=hmax a ha (by simpa using har)
   obtain ⟨M1,M2,hl2,_⟩:=(sv_iff _ _).1 ha
   have has:a∈D s:=by rw [hl2];simp
   have hlt:a.n<e.n:=by
    rcases Int.lt_or_eq_of_le hle with h | h'
    ·exact h
    ·have:=num_inj (h.num s hs) (Ev.May.r5 (h.may s hs)) a has e hes (by rw [har,her]) h'
     rw [this] at hak
     exact absurd hak.symm hne
   have hsv:=h.back hs hr hes ha her har hlt hD
   exact (hspA.2 k).2 ⟨a,hsv,hak⟩
  have h1:=nodup_sub _ _ (hFn.erase e.ed.key) hsub
  rw [ks_len] at h1
  have h2:(k0::F0).length≤((k0::F0).erase e.ed.key).length+1:=by
   rw [List.length_erase]
   split <;> omega
  omega
end
section
def dOf (w:WSt) (r:Int):List Ev:=(replay (w.node r).recs).1
theorem NAll.edit2 {P:Ev→Prop} {k:Nat} {c:Cfg} {r:Int} {st:NSt} (g:NGd k c r st) (h:NAll P st) (e:Ed) (hn:st.editE c r e=0→st.mk1 r e∈(replay (st.edit c r e).1.recs).1→P (st.mk1 r e)):NAll P (st.edit c r e).1:=by
 by_cases hE:st.editE c r e≠0
 ·unfold NSt.edit
  rw [if_pos hE];exact h
 have hE0:st.editE c r e=0:=by simpa using hE
 have hu:st.up=true:=by
  cases hh:st.up with
  | true=>rfl
  | false=>unfold NSt.editE at hE0;rw [if_pos hh] at hE0;cases hE0
 have hrp:=(g.up hu).2
 rcases write_recs st (rcEv 1 r [st.mk1 r e]) with hr | hr
 ·-- nothing was kept
  unfold NSt.edit
  rw [if_neg hE]
  have hw2:(st.write (rcEv 1 r [st.mk1 r e])).2≠0:=by
   intro h0
   rw [write_same h0] at hr
   have:=congrArg List.length hr
   simp at this
  rw [if_pos hw2]
  exact NAll.down (by rw [hr];exact h.1) ((st.write_up _).2 hw2)
 ·have hmem:st.mk1 r e∈(replay (st.edit c r e).1.recs).1:=by
   have:(st.edit c r e).1.recs=st.recs++[rcEv 1 r [st.mk1 r e]]:=by
    unfold NSt.edit
    rw [if_neg hE]
    split
    ·exact hr
    ·exact hr
   rw [this,replay_snoc,hrp]
   show st.mk1 r e∈st.log++[st.mk1 r e]
   simp
  exact h.edit g e fun h0=>hn h0 hmem
theorem WAll.step2 {P:Ev→Prop} {k:Nat} {c:Cfg} {w:WSt} (g:WGd k c w) (h:WAll P c w) (s:Stp) (hn:s.kind=0→w.has s.r→(w.node s.r).editE c s.r s.ed=0→(w.node s.r).mk1 s.r s.ed∈dOf (w.step c s).1 s.r→P ((w.node s.r).mk1 s.r s.ed)):WAll P c (w.step c s).1:=by
 by_cases h0:s.kind=0
 ·by_cases hh:w.has s.r
  ·have e:(w.step c s).1=w.upd s.r ((w.node s.r).edit c s.r s.ed).1:=by
    unfold WSt.step
    rw [if_neg rM,if_neg rM,if_neg (fun k=>k hh),if_pos h0]
   rw [e] at hn ⊢
   refine h.upd hh ((h.nd s.r hh).edit2 (g.nd s.r hh) s.ed fun hE hm=>hn h0 hh hE ?_)
   unfold dOf
   rw [upd_node hh _ _ hh.1,if_pos rfl]
   exact hm
  ·exact h.step g s fun _ k=>absurd k hh
 ·exact h.step g s fun k=>absurd k h0
theorem edit_D {k:Nat} {c:Cfg} {r:Int} {st:NSt} (g:NGd k c r st) (e:Ed):(replay (st.edit c r e).1.recs).1=(replay st.recs).1∨(st.up=true∧st.editE c r e=0∧(replay (st.edit c r e).1.recs).1=(replay st.recs).1++[st.mk1 r e]):=by
 by_cases hE:st.editE c r e≠0
 ·left
  unfold NSt.edit
  rw [if_pos hE]
 have hE0:st.editE c r e=0:=by simpa using hE
 have hu:st.up=true:=by
  cases hh:st.up with
  | true=>rfl
  | false=>unfold NSt.editE at hE0;rw [if_pos hh] at hE0;cases hE0
 have hrec:(st.edit c r e).1.recs=(st.write (rcEv 1 r [st.mk1 r e])).1.recs:=by
  unfold NSt.edit
  rw [if_neg hE]
  split <;> rfl
 rw [hrec]
 rcases write_recs st (rcEv 1 r [st.mk1 r e]) with hr | hr
 ·left;rw [hr]
 ·right;rw [hr,replay_snoc];exact ⟨hu,hE0,rfl⟩
theorem take_D {k:Nat} {c:Cfg} {r:Int} {st:NSt} (g:NGd k c r st) (f:Rcd×Int):(replay (st.takeC c r f).1.recs).1=(replay st.recs).1∨(st.up=true∧(∀ e∈f.1.l,e.r≠r)∧(replay (st.takeC c r f).1.recs).1=(replay st.recs).1++(drainL st.clk (st.held++f.1.l)).1):=by
 unfold NSt.takeC
 split
 ·exact .inl rfl
 rename_i hu0
 have hu:st.up=true:=by cases hh:st.up with
  | true=>rfl
  | false=>exact absurd hh hu0
 split
 ·exact .inl rfl
 split
 ·exact .inl rfl
 split
 ·exact .inl rfl
 rename_i hany
 have hw:∀ x:Rcd,(rpStep (replay st.recs) x).1=(replay st.recs).1→(replay (st.write x).1.recs).1=(replay st.recs).1:=fun x hx=>by
  rcases write_recs st x with hr | hr
  ·rw [hr]
  ·rw [hr,replay_snoc];exact hx
 split
 ·left
  unfold NSt.pushed
  simp only
  split
  ·rfl
  split
  ·exact hw _ rfl
  ·exact hw _ rfl
 split
 ·unfold NSt.eventsC
  split
  ·exact .inl rfl
  split
  ·exact .inl rfl
  have hx:(replay (st.write (rcEv 2 r (drainL st.clk (st.held++f.1.l)).1)).1.recs).1=(replay st.recs).1∨(replay (st.write (rcEv 2 r (drainL st.clk (st.held++f.1.l)).1)).1.recs).1=(replay st.recs).1++(drainL st.clk (st.held++f.1.l)).1:=by
   rcases write_recs st (rcEv 2 r (drainL st.clk (st.held++f.1.l)).1) with hr | hr
   ·left;rw [hr]
   ·right;rw [hr,replay_snoc];rfl
  have hne:∀ e∈f.1.l,e.r≠r:=fun e he hr=>hany (List.any_eq_true.2 ⟨e,he,by simp [hr]⟩)
  split
  ·exact hx.imp id fun h=>⟨hu,hne,h⟩
  ·exact hx.imp id fun h=>⟨hu,hne,h⟩
 ·exact .inl rfl
theorem state_D {k:Nat} {c:Cfg} {r:Int} {st:NSt} (g:NGd k c r st):(replay (st.state r).1.recs).1=(replay st.recs).1:=by
 unfold NSt.state
 split
 ·rfl
 rename_i hu0
 have hu:st.up=true:=by cases hh:st.up with
  | true=>rfl
  | false=>exact absurd hh hu0
 split
 ·rfl
 have hw:(replay (st.write ⟨4,r,st.sent,Clk.zero,st.log⟩).1.recs).1=(replay st.recs).1:=by
  rcases write_recs st ⟨4,r,st.sent,Clk.zero,st.log⟩ with hr | hr
  ·rw [hr]
  ·rw [hr,replay_snoc,(g.up hu).2];rfl
 split
 ·exact hw
 ·exact hw
theorem edit_Lg {k:Nat} {c:Cfg} {r:Int} {st:NSt} (g:NGd k c r st) (e:Ed) (h:LgOk c r (replay st.recs).1):LgOk c r (replay (st.edit c r e).1.recs).1:=by
 rcases edit_D g e with hd | ⟨hu,hE,hd⟩
 ·rw [hd];exact h
 ·rw [hd]
  have hrp:=(g.up hu).2
  have hck:=g.clk hu
  have hc:(st.mk1 r e).c=clkOfLog (replay st.recs).1:=by rw [hrp];exact hck
  refine h.snoc (fun i _=>by rw [hc];exact Int.le_refl _) fun _=>⟨hc,?_⟩
  rw [hrp]
  show chkC c.l c.p (lvList (lvOf st.log)) e=0
  unfold NSt.editE at hE
  rw [if_neg (by rw [hu];simp)] at hE
  split at hE
  ·rename_i hne;exact absurd hE hne
  ·rename_i hne;simpa using hne
theorem take_Lg {k:Nat} {c:Cfg} {r:Int} {st:NSt} (g:NGd k c r st) (f:Rcd×Int) (h:LgOk c r (replay st.recs).1):LgOk c r (replay (st.takeC c r f).1.recs).1:=by
 rcases take_D g f with hd | ⟨hu,hne,hd⟩
 ·rw [hd];exact h
 ·rw [hd]
  obtain ⟨m1,_⟩:=drainL_mem st.clk (st.held++f.1.l)
  have hX:∀ e∈st.held++f.1.l,e.r≠r:=fun e he=>(List.mem_append.1 he).elim (fun hx=>((g.held hu).2 e hx).2.1) (hne e)
  refine h.app _ _ ?_ fun e he=>hX e (m1 e he)
  have hck:clkOfLog (replay st.recs).1=st.clk:=by rw [(g.up hu).2,g.clk hu]
  rw [hck,drainL_eq]
  exact drain_rdyC _ _ (freshL_dst _ _ [] List.Pairwise.nil)
structure GvI (c:Cfg) (w:WSt):Prop where
 ok:∀ r:Int,w.has r→LgOk c r (dOf w r)
 al:WAll (fun e=>w.has e.r∧e∈dOf w e.r) c w
theorem WAll.imp {P Q:Ev→Prop} {c:Cfg} {w:WSt} (h:WAll P c w) (hpq:∀ e,P e→Q e):WAll Q c w :=
 ⟨fun r hr=>⟨fun e he=>hpq e ((h.nd r hr).1 e he),fun hu=>⟨fun e he=>hpq e (((h.nd r hr).2 hu).1 e he),fun e he=>hpq e (((h.nd r hr).2 hu).2 e he)⟩⟩,fun s hs e he=>hpq e (h.hub s hs e he),fun x hx e he=>hpq e (h.fl x hx e he)⟩
theorem upd_Lg {c:Cfg} {w:WSt} (h:∀ r:Int,w.has r→LgOk c r (dOf w r)) {r:Int} (hr:w.has r) {s:NSt} (hs:LgOk c r (replay s.recs).1):∀ q:Int,(w.upd r s).has q→LgOk c q (dOf (w.upd r s) q):=fun q hq=>by
 have hq2:=(upd_has w r s q).1 hq
 unfold dOf
 rw [upd_node hr s q hq2.1]
 split
 ·rename_i e;rw [e];exact hs
 ·exact h q hq2
theorem step_Lg {k:Nat} {c:Cfg} {w:WSt} (g:WGd k c w) (h:∀ r:Int,w.has r→LgOk c r (dOf w r)) (s:Stp):∀ r:Int,(w.step c s).1.has r→LgOk c r (dOf (w.step c s).1 r):=by
 have arr:∀ (v:WSt) (to:Int) (f:Rcd×Int),WGd k c v→(∀ r:Int,v.has r→LgOk c r (dOf v r))→∀ r:Int,(v.arrive c to f).1.has r→LgOk c r (dOf (v.arrive c to f).1 r):=fun v to f gv hv=>by
  unfold WSt.arrive
  split
  ·rename_i hh;exact upd_Lg hv hh (take_Lg (gv.nd to hh) f (hv to hh))
  ·simp only
   split
   ·exact hv
   ·exact hv
 unfold WSt.step
 split
 ·unfold WSt.flight
  split
  ·have h2:(∀ r:Int,(if s.kind=5 then w else { w with fl:=tkA w.fl s.at_ }).has r→LgOk c r (dOf (if s.kind=5 then w else { w with fl:=tkA w.fl s.at_ }) r))∧WGd k c (if s.kind=5 then w else { w with fl:=tkA w.fl s.at_ }):=by
    split
    ·exact ⟨h,g⟩
    ·exact ⟨h,⟨g.n,g.nd,g.hub,by have:=g.fl.1;have:=tkA_len w.fl s.at_;show (tkA w.fl s.at_).length≤k;omega,fun y hy=>g.fl.2 y (tkA_mem hy)⟩⟩
   simp only
   split
   ·exact h2.1
   ·exact arr _ _ _ h2.2 h2.1
  ·exact h
 split
 ·unfold WSt.power
  split
  ·rename_i hh
   split
   ·exact upd_Lg h hh (h s.r hh)
   ·split
    ·exact upd_Lg h hh (by rw [nstart_recs];exact h s.r hh)
    ·exact upd_Lg h hh (h s.r hh)
  ·split
   ·split
    ·exact h
    ·split
     ·exact h
     ·exact h
   ·exact h
 split
 ·exact h
 rename_i hh
 have hh:w.has s.r:=by
  by_cases h:w.has s.r
  ·exact h
  ·exact absurd h hh
 have gn:=g.nd s.r hh
 have hs:∀ p,∀ r:Int,(w.send p).1.has r→LgOk c r (dOf (w.send p).1 r):=fun p=>by
  unfold WSt.send
  simp only
  split
  ·exact h
  ·exact h
 split
 ·exact upd_Lg h hh (edit_Lg gn s.ed (h s.r hh))
 split
 ·exact hs _
 split
 ·exact hs _
 split
 ·exact hs _
 split
 ·exact upd_Lg h hh (by rw [state_D gn];exact h s.r hh)
 ·exact h
theorem GvI.step {k:Nat} {c:Cfg} {w:WSt} (g:WGd k c w) (h:GvI c w) (hk:k≤198) (s:Stp):GvI c (w.step c s).1:=by
 refine ⟨step_Lg g h.ok s,?_⟩
 have hw:=(wlt_step g s).1
 have gv:=g.step hk s
 have hhas:∀ r,w.has r→(w.step c s).1.has r:=fun r hr=>by
  have a1:=g.n
  have a2:=gv.n
  exact ⟨hr.1,by have:=hr.2;omega⟩
 refine WAll.step2 g (h.al.imp fun e he=>⟨hhas _ he.1,?_⟩) s fun _ hr _ hm=>⟨hhas _ hr,hm⟩
 obtain ⟨t,ht⟩:=(hw.nd e.r he.1).1
 unfold dOf
 rw [← ht]
 exact List.mem_append.2 (.inl he.2)
theorem GvI.lgs {k:Nat} {c:Cfg} {w:WSt} (g:WGd k c w) (h:GvI c w):Lgs c w.nodes.length (fun s=>dOf w s):=by
 have hh:∀ s:Nat,s<w.nodes.length→w.has (s:Int):=fun s hs=>⟨by omega,by omega⟩
 refine ⟨fun s hs=>(g.nd s (hh s hs)).dur.num,fun s hs=>(g.nd s (hh s hs)).dur.revs,fun s hs=>h.ok s (hh s hs),fun s hs e he=>?_⟩
 have:=(h.al.nd s (hh s hs)).1 e he
 refine ⟨this.1.2,?_⟩
 show e∈dOf w ((e.r.toNat:Nat):Int)
 rw [show ((e.r.toNat:Nat):Int)=e.r by have:=this.1.1;omega]
 exact this.2
end
section
theorem cmpK_mem (k:List UInt8):∀ l:List (List UInt8),k∈cmpK l↔k∈l
 | []=>Iff.rfl
 | [x]=>Iff.rfl
 | x::y::l=>by
  have ih:=cmpK_mem k (y::l)
  unfold cmpK
  split
  ·rename_i h
   subst h
   rw [ih]
   simp
  ·rw [List.mem_cons,ih,List.mem_cons (a:=k) (b:=x)]
theorem cmpK_nodup:∀ l:List (List UInt8),l.Pairwise (·≤·)→(cmpK l).Nodup
 | [],_=>List.nodup_nil
 | [x],_=>by simp [cmpK]
 | x::y::l,h=>by
  rw [List.pairwise_cons] at h
  have ih:=cmpK_nodup (y::l) h.2
  unfold cmpK
  split
  ·exact ih
  ·rename_i hne
   rw [List.nodup_cons]
   refine ⟨fun hx=>hne ?_,ih⟩
   have hx:=(cmpK_mem x (y::l)).1 hx
   have h1:=h.1 y (by simp)
   rcases List.mem_cons.1 hx with hx | hx
   ·exact hx
   ·rw [List.pairwise_cons] at h
    exact List.le_antisymm h1 (h.2.1 x hx)
structure LOk (l:List Ev):Prop where
 num:NumOk l
 may:∀ e∈l,e.May
 cz:∀ A e B,l=A++e::B→∀ i,i<5→e.c.get i≤(clkOfLog A).get i
 tr:∀ e∈l,∀ y∈l,e.bel y=true→∀ i,i<5→e.c.get i≤y.c.get i
theorem LOk.pre {l:List Ev} {e:Ev} (h:LOk (l++[e])):LOk l :=
 ⟨(NumOk.app.1 h.num).1,fun x hx=>h.may x (by simp [hx]),fun A x B hl=>h.cz A x (B++[e]) (by rw [hl];simp),fun x hx y hy=>h.tr x (by simp [hx]) y (by simp [hy])⟩
theorem bel_iff (a e:Ev) (ha:a.May):a.bel e=true↔a.n≤e.c.get a.r.toNat:=by
 have h1:=ha.r
 have h2:=ha.n
 unfold Ev.bel Clk.has
 simp only [Bool.and_eq_true,decide_eq_true_eq]
 constructor
 ·rintro ⟨_,h⟩;exact h
 ·intro h;exact ⟨⟨⟨h1.1,h1.2⟩,h2.1⟩,h⟩
theorem LOk.trans {l:List Ev} (h:LOk l) {a e y:Ev} (ha:a∈l) (he:e∈l) (hy:y∈l) (h1:a.bel e=true) (h2:e.bel y=true):a.bel y=true:=by
 have hm:=h.may a ha
 rw [bel_iff a _ hm] at h1 ⊢
 have h5:=hm.r
 have:=h.tr e he y hy h2 a.r.toNat rM
 omega
theorem LOk.last {l:List Ev} {e:Ev} (h:LOk (l++[e])):(∀ x∈l,e.bel x=false)∧e ∉ l:=by
 have hn:e.n=(clkOfLog l).get e.r.toNat+1:=(NumOk.app.1 h.num).2.1
 have hm:=h.may e (by simp)
 have h5:=hm.r
 have h5l:∀ x∈l,0≤x.r∧x.r<5:=fun x hx=>(h.may x (by simp [hx])).r
 refine ⟨fun x hx=>?_,fun he=>?_⟩
 ·cases hb:e.bel x with
  | false=>rfl
  | true =>
   exfalso
   rw [bel_iff e x hm] at hb
   obtain ⟨A,B,hl⟩:=List.append_of_mem hx
   have h1:=h.cz A x (B++[e]) (by rw [hl];simp) e.r.toNat rM
   have h3:(clkOfLog A).get e.r.toNat≤(clkOfLog l).get e.r.toNat:=by
    rw [hl]
    unfold clkOfLog
    rw [List.foldl_append]
    exact clk_mono _ _ _
   omega
 ·have:=num_le (h.pre).num h5l e he
  omega
def same4 (e y:Ev):Prop:=y.ed.key=e.ed.key∧y.ed.label=e.ed.label∧y.ed.value=e.ed.value∧(y.ed.kind=4∨y.ed.kind=5)
theorem sv_mem {l:List Ev} {a:Ev} (h:a∈sv l):a∈l∧a.ed.kind=1:=by
 obtain ⟨A,B,hl,k1,_⟩:=(sv_iff _ _).1 h
 exact ⟨by rw [hl];simp,k1⟩
theorem lvGet_in (k:List UInt8) (log:List Ev) (h:∀ e∈log,1≤e.ed.kind∧e.ed.kind≤5):∀ y∈lvGet k (lvOf log),y∈log:=by
 induction log using snoc_ind with
 | h0=>intro y hy;cases hy
 | hs l x ih =>
  have hl:∀ e∈l,1≤e.ed.kind∧e.ed.kind≤5:=fun y hy=>h y (by simp [hy])
  intro y hy
  rw [lvOf_snoc] at hy
  unfold lvApply at hy
  rw [lvUpd_get _ _ _ _ (lvOf_ok l hl).nd] at hy
  split at hy
  ·rename_i hk
   rcases lvWith_mem hy with hy | hy
   ·rw [← hk] at hy;exact List.mem_append.2 (.inl (ih hl y hy))
   ·rw [hy.1];simp
  ·exact List.mem_append.2 (.inl (ih hl y hy))
theorem made_of {k:List UInt8} {l:List Ev} (h:∀ e∈l,1≤e.ed.kind∧e.ed.kind≤5) {a:Ev} (ha:a∈sv l) (hk:a.ed.key=k):a∈lvGet k (lvOf l)∧a.ed.kind=1:=by
 have:a∈(sv l).filter fun a=>decide (a.ed.key=k):=List.mem_filter.2 ⟨ha,by simpa using hk⟩
 rw [← lvGet_sv l h k] at this
 exact ⟨(List.mem_filter.1 this).1,(sv_mem ha).2⟩
theorem created_of {L:List Ev} {a e:Ev} (ha:a∈L) (k1:a.ed.kind=1) (hb:a.bel e=true):lvCreated L e=true:=List.any_eq_true.2 ⟨a,ha,by simp [k1,hb]⟩
theorem kept4 (k:List UInt8) (l:List Ev) (h:LOk l):∀ e,(∃ a∈sv l,a.ed.key=k∧a.bel e=true)→((e∈lvGet k (lvOf l)∧e.ed.kind=4)↔∃ X Y,l=X++e::Y∧e.ed.kind=4∧e.ed.key=k∧∀ y∈Y,same4 e y→e.bel y=false):=by
 induction l using snoc_ind with
 | h0=>rintro e ⟨a,ha,_⟩;cases ha
 | hs l x ih =>
  rintro e ⟨a,ha,hak,hae⟩
  have hp:=h.pre
  have hlast:=h.last
  have hkind:∀ e∈l,1≤e.ed.kind∧e.ed.kind≤5:=fun y hy=>err_kind (h.may y (by simp [hy])).ed
  have hkind2:∀ e∈l++[x],1≤e.ed.kind∧e.ed.kind≤5:=fun y hy=>err_kind (h.may y hy).ed
  have hkx:=err_kind (h.may x (by simp)).ed
  have hm:=lvOf_ok l hkind
  have hget:lvGet k (lvOf (l++[x]))=if k=x.ed.key then lvWith (lvGet k (lvOf l)) x else lvGet k (lvOf l):=by
   rw [lvOf_snoc]
   unfold lvApply
   rw [lvUpd_get _ _ _ _ hm.nd]
   split
   ·rename_i hk;rw [← hk]
   ·rfl
  have hlm:=lvGet_in k l hkind
  have ham:=(sv_mem ha).1
  by_cases hex:e=x
  ·subst hex
   constructor
   ·rintro ⟨h1,h4⟩
    rw [hget] at h1
    split at h1
    ·rename_i hk
     exact ⟨l,[],rfl,h4,hk.symm,fun y hy=>by cases hy⟩
    ·exact absurd (hlm e h1) hlast.2
   ·rintro ⟨X,Y,_,h4,hk,_⟩
    have hal:a∈sv l:=by
     rw [sv_snoc] at ha
     unfold svStep at ha
     rw [if_neg rM,if_neg rM] at ha
     exact ha
    have hc:=made_of hkind hal hak
    rw [hget,if_pos hk.symm]
    refine ⟨?_,h4⟩
    unfold lvWith
    rw [if_neg rM,if_neg rM,if_neg rM,if_neg rM,if_pos (created_of hc.1 hc.2 hae)]
    simp
  ·by_cases hel:e∈l
   ·have hal:a∈sv l:=by
     rw [sv_snoc] at ha
     unfold svStep at ha
     split at ha
     ·rcases List.mem_append.1 ha with h1 | h1
      ·exact h1
      ·have hax:a=x:=by simpa using h1
       rw [hax,hlast.1 e hel] at hae
       cases hae
     split at ha
     ·exact (List.mem_filter.1 ha).1
     ·exact ha
    have hc:=made_of hkind hal hak
    have ih:=ih hp e ⟨a,hal,hak,hae⟩
    have hR:(∃ X Y,l++[x]=X++e::Y∧e.ed.kind=4∧e.ed.key=k∧∀ y∈Y,same4 e y→e.bel y=false)↔(∃ X Y,l=X++e::Y∧e.ed.kind=4∧e.ed.key=k∧∀ y∈Y,same4 e y→e.bel y=false)∧(same4 e x→e.bel x=false):=by
     constructor
     ·rintro ⟨X,Y,hl,h4,hk,hy⟩
      rcases List.eq_nil_or_concat Y with rfl | ⟨Y',y,rfl⟩
      ·obtain ⟨_,h1⟩:=List.append_inj' hl rfl
       simp only [List.cons.injEq,and_true] at h1
       exact absurd h1.symm hex
      ·have h2:l++[x]=(X++e::Y')++[y]:=by rw [hl];simp
       obtain ⟨h3,h5⟩:=List.append_inj' h2 rfl
       simp only [List.cons.injEq,and_true] at h5
       subst h5
       exact ⟨⟨X,Y',h3,h4,hk,fun z hz=>hy z (by simp [hz])⟩,hy x (by simp)⟩
     ·rintro ⟨⟨X,Y,hl,h4,hk,hy⟩,hx⟩
      refine ⟨X,Y++[x],by rw [hl];simp,h4,hk,fun y hyy=>?_⟩
      rcases List.mem_append.1 hyy with h1 | h1
      ·exact hy y h1
      ·have:y=x:=by simpa using h1
       rw [this];exact hx
    rw [hR,← ih,hget]
    have hkey:e∈lvGet k (lvOf l)→e.ed.key=k:=fun he=>by
     obtain ⟨p,hp1,hp2,hp3⟩:=lvGet_mem he
     have:=(hm.ev p hp1 e hp3).1
     rw [hp2] at this;exact this
    by_cases hk:k=x.ed.key
    ·rw [if_pos hk]
     obtain ⟨L,hL⟩:∃ L,L=lvGet k (lvOf l):=⟨_,rfl⟩
     rw [← hL] at hc hkey ⊢
     have hw:∀ (kd:Int) (q:Ev→Bool),e∈lvWithout L x kd q↔e∈L∧¬ (e.ed.kind=kd∧q e=true∧e.bel x=true):=fun kd q=>by
      unfold lvWithout
      rw [List.mem_filter]
      refine and_congr Iff.rfl ?_
      by_cases h1:e.ed.kind=kd <;> cases q e <;> cases e.bel x <;> simp [h1]
     have hs4:∀ L':List Ev,(e∈L'++[x])↔e∈L':=fun L'=>by
      rw [List.mem_append]
      constructor
      ·rintro (h1 | h1)
       ·exact h1
       ·have:e=x:=by simpa using h1
        exact absurd this hex
      ·exact .inl
     by_cases k1:x.ed.kind=1
     ·have:lvWith L x=L++[x]:=by unfold lvWith;rw [if_pos k1]
      rw [this,hs4]
      constructor
      ·rintro ⟨h1,h4⟩;exact ⟨⟨h1,h4⟩,fun s=>by have:=s.2.2.2;omega⟩
      ·rintro ⟨h1,_⟩;exact h1
     by_cases k2:x.ed.kind=2
     ·have:lvWith L x=lvCounted (lvWithout L x 1 qAll):=by unfold lvWith;rw [if_neg k1,if_pos k2]
      rw [this]
      have hax:a∈lvWithout L x 1 qAll:=by
       unfold lvWithout
       refine List.mem_filter.2 ⟨hc.1,?_⟩
       rw [sv_snoc] at ha
       unfold svStep at ha
       rw [if_neg k1,if_pos k2] at ha
       have h1:=(List.mem_filter.1 ha).2
       have h2:a.ed.key=x.ed.key:=by rw [hak,hk]
       simp [h2] at h1
       simp [h1]
      constructor
      ·rintro ⟨h1,h4⟩
       unfold lvCounted at h1
       exact ⟨⟨((hw 1 qAll).1 (List.mem_filter.1 h1).1).1,h4⟩,fun s=>by have:=s.2.2.2;omega⟩
      ·rintro ⟨⟨h1,h4⟩,_⟩
       refine ⟨?_,h4⟩
       unfold lvCounted
       refine List.mem_filter.2 ⟨(hw 1 qAll).2 ⟨h1,fun hh=>by omega⟩,?_⟩
       rw [created_of hax hc.2 hae]
       simp
     by_cases k3:x.ed.kind=3
     ·have hiff:e.ed.kind=4→(e∈lvWith L x↔e∈L):=fun h4=>by
       unfold lvWith
       rw [if_neg k1,if_neg k2,if_pos k3]
       split
       ·rw [hs4,hw]
        exact ⟨fun h=>h.1,fun h=>⟨h,fun hh=>by omega⟩⟩
       ·exact Iff.rfl
      constructor
      ·rintro ⟨h1,h4⟩;exact ⟨⟨(hiff h4).1 h1,h4⟩,fun s=>by have:=s.2.2.2;omega⟩
      ·rintro ⟨⟨h1,h4⟩,_⟩;exact ⟨(hiff h4).2 h1,h4⟩
     have hq:∀ (h4:e.ed.kind=4),e∈L→((¬ (e.ed.kind=4∧qSame x e=true∧e.bel x=true))↔(same4 e x→e.bel x=false)):=fun h4 he=>by
      have hke:=hkey he
      have:same4 e x↔qSame x e=true:=by
       unfold same4 qSame
       simp only [Bool.and_eq_true,decide_eq_true_eq]
       constructor
       ·rintro ⟨_,b,c,_⟩;exact ⟨b.symm,c.symm⟩
       ·rintro ⟨b,c⟩;exact ⟨by rw [← hk,hke],b.symm,c.symm,by omega⟩
      rw [this]
      cases e.bel x <;> simp [h4]
     by_cases k5:x.ed.kind=5
     ·have:lvWith L x=lvWithout L x 4 (qSame x):=by unfold lvWith;rw [if_neg k1,if_neg k2,if_neg k3,if_pos k5]
      rw [this,hw]
      constructor
      ·rintro ⟨⟨h1,h2⟩,h4⟩;exact ⟨⟨h1,h4⟩,(hq h4 h1).1 h2⟩
      ·rintro ⟨⟨h1,h4⟩,h2⟩;exact ⟨⟨h1,(hq h4 h1).2 h2⟩,h4⟩
     ·by_cases hcr:lvCreated L x=true
      ·have:lvWith L x=lvWithout L x 4 (qSame x)++[x]:=by unfold lvWith;rw [if_neg k1,if_neg k2,if_neg k3,if_neg k5,if_pos hcr]
       rw [this,hs4,hw]
       constructor
       ·rintro ⟨⟨h1,h2⟩,h4⟩;exact ⟨⟨h1,h4⟩,(hq h4 h1).1 h2⟩
       ·rintro ⟨⟨h1,h4⟩,h2⟩;exact ⟨⟨h1,(hq h4 h1).2 h2⟩,h4⟩
      ·have:lvWith L x=L:=by unfold lvWith;rw [if_neg k1,if_neg k2,if_neg k3,if_neg k5,if_neg hcr]
       rw [this]
       constructor
       ·rintro ⟨h1,h4⟩
        refine ⟨⟨h1,h4⟩,fun _=>?_⟩
        cases hb:e.bel x with
        | false=>rfl
        | true =>
         have:=h.trans ham (by simp [hel]) (by simp) hae hb
         exact absurd (created_of hc.1 hc.2 this) hcr
       ·rintro ⟨h1,_⟩;exact h1
    ·rw [if_neg hk]
     constructor
     ·rintro ⟨h1,h4⟩
      refine ⟨⟨h1,h4⟩,fun s=>?_⟩
      exact absurd (by rw [s.1,hkey h1]) hk
     ·rintro ⟨h1,_⟩;exact h1
   ·constructor
    ·rintro ⟨h1,_⟩
     exfalso
     rw [hget] at h1
     split at h1
     ·rcases lvWith_mem h1 with h1 | h1
      ·exact hel (hlm e h1)
      ·exact hex h1.1
     ·exact hel (hlm e h1)
    ·rintro ⟨X,Y,hl,_⟩
     have:e∈l++[x]:=by rw [hl];simp
     rcases List.mem_append.1 this with h1 | h1
     ·exact absurd h1 hel
     ·simp at h1;exact absurd h1 hex
end
section
def Shw (k:List UInt8) (lab:Int) (l:List Ev) (e:Ev):Prop:=(∃ a∈sv l,a.ed.key=k∧a.bel e=true)∧(∃ X Y,l=X++e::Y∧e.ed.kind=4∧e.ed.key=k∧∀ y∈Y,same4 e y→e.bel y=false)∧e.ed.label=lab
def vs (k:List UInt8) (lab:Int) (l:List Ev):List (List UInt8):=ctSet k lab (bkCounting (lvGet k (lvOf l)) (bkLiving (lvGet k (lvOf l))))
theorem vs_spec (k:List UInt8) (lab:Int) (l:List Ev) (h:LOk l):(vs k lab l).Nodup∧∀ v,v∈vs k lab l↔∃ e,Shw k lab l e∧e.ed.value=v:=by
 have hkind:∀ e∈l,1≤e.ed.kind∧e.ed.kind≤5:=fun y hy=>err_kind (h.may y hy).ed
 have hm:=lvOf_ok l hkind
 have hev:∀ e∈lvGet k (lvOf l),e.ed.key=k∧(e.ed.kind=1∨e.ed.kind=3∨e.ed.kind=4):=fun e he=>by
  obtain ⟨p,hp,h1,h2⟩:=lvGet_mem he
  have:=hm.ev p hp e h2
  rw [h1] at this
  exact this
 have hcr:=(bkKeys_one hev).1
 have hsv:=lvGet_sv l hkind k
 refine ⟨cmpK_nodup _ (sortK_sorted _),fun v=>?_⟩
 unfold vs ctSet
 rw [cmpK_mem,(sortK_perm _).mem_iff,List.mem_map,hcr,hsv]
 have key:∀ e,e∈ctAdds k lab (bkCounting (lvGet k (lvOf l)) ((sv l).filter fun a=>decide (a.ed.key=k)))↔Shw k lab l e:=fun e=>by
  unfold ctAdds bkCounting
  rw [List.mem_filter,List.mem_filter]
  constructor
  ·rintro ⟨⟨h1,h2⟩,h3⟩
   simp only [Bool.and_eq_true,decide_eq_true_eq,Bool.not_eq_true',decide_eq_false_iff_not] at h3
   unfold bkCnt at h2
   rw [if_neg h3.2] at h2
   split at h2
   ·rename_i h4
    rw [Bool.and_eq_true] at h2
    obtain ⟨a,ha,hp⟩:=List.any_eq_true.1 h2.1
    obtain ⟨ha1,ha2⟩:=List.mem_filter.1 ha
    simp only [Bool.and_eq_true,decide_eq_true_eq] at hp ha2
    have hx:∃ a∈sv l,a.ed.key=k∧a.bel e=true:=⟨a,ha1,ha2,hp.2⟩
    exact ⟨hx,(kept4 k l h e hx).1 ⟨h1,h4⟩,h3.1.2⟩
   ·cases h2
  ·rintro ⟨hx,hy,hl⟩
   obtain ⟨h1,h4⟩:=(kept4 k l h e hx).2 hy
   obtain ⟨a,ha,hak,hab⟩:=hx
   refine ⟨⟨h1,?_⟩,?_⟩
   ·unfold bkCnt
    rw [if_neg rM,if_pos h4,Bool.and_eq_true]
    refine ⟨List.any_eq_true.2 ⟨a,List.mem_filter.2 ⟨ha,by simpa using hak⟩,?_⟩,?_⟩
    ·have:=(sv_mem ha).2
     have hk:=(hev e h1).1
     unfold sKey
     simp [this,hab,hak,hk]
    ·have:bkAbove 5 sElem (lvGet k (lvOf l)) e=false:=by
      unfold bkAbove
      rw [List.any_eq_false]
      intro x hx
      have:=(hev x hx).2
      have h5:¬ x.ed.kind=5:=by omega
      simp [h5]
     rw [this];rfl
   ·have hk:=(hev e h1).1
    have h3:¬ e.ed.kind=3:=by omega
    simp [hk,hl,h3]
 constructor
 ·rintro ⟨e,he,hv⟩;exact ⟨e,(key e).1 he,hv⟩
 ·rintro ⟨e,he,hv⟩;exact ⟨e,(key e).2 he,hv⟩
theorem LOk.front {A B:List Ev} (h:LOk (A++B)):LOk A :=
 ⟨(NumOk.app.1 h.num).1,fun x hx=>h.may x (by simp [hx]),fun P x Q hl=>h.cz P x (Q++B) (by rw [hl];simp),fun x hx y hy=>h.tr x (by simp [hx]) y (by simp [hy])⟩
theorem LOk.behind {l A B:List Ev} {e:Ev} (h:LOk l) (hl:l=A++e::B) (y:Ev) (hy:y∈A):e.bel y=false:=by
 subst hl
 have h2:LOk (A++[e]):=by
  have:A++e::B=(A++[e])++B:=by simp
  rw [this] at h
  exact h.front
 exact h2.last.1 y hy
theorem Lgs.inA {c:Cfg} {N:Nat} {D:Nat→List Ev} (h:Lgs c N D) {s r:Nat} (hs:s<N) (hrN:r<N) {x y:Ev} {A B:List Ev} (hx:x∈D s) (hD:D r=A++B) (hn:x.n≤(clkOfLog A).get x.r.toNat):x∈A:=by
 have hmx:=h.may s hs x hx
 have hnA:NumOk A:=by have:=h.num r hrN;rw [hD] at this;exact (NumOk.app.1 this).1
 have h5r:=Ev.May.r5 (h.may r hrN)
 have h5A:∀ x∈A,0≤x.r∧x.r<5:=fun y hy=>h5r y (by rw [hD];simp [hy])
 obtain ⟨z,hz,hzr,hzn⟩:=num_ex hnA h5A x.r x.n hmx.r (by have:=hmx.n;omega) hn
 have u1:=h.uq r hrN z (by rw [hD];simp [hz])
 have u2:=h.uq s hs x hx
 have hxN:x.r.toNat<N:=by have:=hmx.r;omega
 rw [hzr] at u1
 have:=num_inj (h.num _ hxN) (Ev.May.r5 (h.may _ hxN)) z u1.2 x u2.2 hzr hzn
 rw [← this];exact hz
theorem Lgs.lok {c:Cfg} {N:Nat} {D:Nat→List Ev} (h:Lgs c N D) {s:Nat} (hs:s<N):LOk (D s):=by
 refine ⟨h.num s hs,h.may s hs,fun A e B hl=>(h.ok s hs A e B hl).1,fun e he y hy hb i hi=>?_⟩
 have hmy:=h.may s hs y hy
 have hme:=h.may s hs e he
 have uy:=h.uq s hs y hy
 have hyN:y.r.toNat<N:=by have:=hmy.r;omega
 obtain ⟨A,B,hD⟩:=List.append_of_mem uy.2
 have hyr:y.r=((y.r.toNat:Nat):Int):=by have:=hmy.r;omega
 have hyc:=((h.ok _ hyN A y B hD).2 hyr).1
 rw [bel_iff e y hme,hyc] at hb
 have heA:=h.inA (y:=y) hs hyN he hD hb
 obtain ⟨P,Q,hA⟩:=List.append_of_mem heA
 have h1:=(h.ok _ hyN P e (Q++y::B) (by rw [hD,hA];simp)).1 i hi
 rw [hyc,hA]
 have h3:(clkOfLog P).get i≤(clkOfLog (P++e::Q)).get i:=by
  unfold clkOfLog
  rw [List.foldl_append]
  exact clk_mono _ _ _
 omega
theorem Lgs.back2 {c:Cfg} {N:Nat} {D:Nat→List Ev} (h:Lgs c N D) {s r:Nat} (hs:s<N) (hrN:r<N) {e a:Ev} (he:e∈D s) (ha:a∈sv (D s)) (her:e.r=(r:Int)) {A B:List Ev} (hD:D r=A++e::B) (haA:a∈A):a∈sv A:=by
 obtain ⟨L1,L2,hl,k1,hb⟩:=(sv_iff _ _).1 ha
 refine (sv_iff _ _).2 ?_
 obtain ⟨A1,A2,hA⟩:=List.append_of_mem haA
 refine ⟨A1,A2,hA,k1,fun d hd k2 hk=>?_⟩
 obtain ⟨A',B',hl2⟩:=List.append_of_mem he
 have hdA:d∈A:=by rw [hA];simp [hd]
 have hds:d∈D s:=by
  have:=h.view hs her hrN hD hl2 d hdA
  rw [hl2];simp [this]
 have hds2:=hds
 rw [hl] at hds2
 rcases List.mem_append.1 hds2 with h1 | h1
 ·exact (h.lok hs).behind hl d h1
 ·rcases List.mem_cons.1 h1 with rfl | h1
  ·omega
  ·exact hb d h1 k2 hk
theorem Lgs.back4 {c:Cfg} {N:Nat} {D:Nat→List Ev} (h:Lgs c N D) {s r:Nat} (hs:s<N) (hrN:r<N) {e x:Ev} {k:List UInt8} {lab:Int} (he:e∈D s) (hx:Shw k lab (D s) x) (her:e.r=(r:Int)) (hxr:x.r=(r:Int)) (hlt:x.n<e.n) {A B:List Ev} (hD:D r=A++e::B):Shw k lab A x:=by
 obtain ⟨⟨a,ha,hak,hab⟩,⟨X,Y,hl,k4,hk,hy⟩,hlab⟩:=hx
 have hxs:x∈D s:=by rw [hl];simp
 have hmx:=h.may s hs x hxs
 have ux:=(h.uq s hs x hxs).2
 rw [hxr,show ((r:Int)).toNat=r from Int.toNat_natCast r] at ux
 have hxA:x∈A:=by
  have hn:=h.num r hrN
  have h5:=Ev.May.r5 (h.may r hrN)
  rw [hD] at hn h5 ux
  exact num_pre hn h5 x ux (by rw [hxr,her]) (by have:=hmx.n;omega) hlt
 obtain ⟨A1,A2,hA⟩:=List.append_of_mem hxA
 have has:a∈D s:=(sv_mem ha).1
 have hma:=h.may s hs a has
 have haA1:a∈A1:=by
  have h1:=(h.ok r hrN A1 x (A2++e::B) (by rw [hD,hA];simp)).1 a.r.toNat (by have:=hma.r;omega)
  rw [bel_iff a x hma] at hab
  exact h.inA (y:=x) hs hrN has (B:=x::(A2++e::B)) (by rw [hD,hA];simp) rM
 have haA:a∈A:=by rw [hA];simp [haA1]
 refine ⟨⟨a,h.back2 hs hrN he ha her hD haA,hak,hab⟩,⟨A1,A2,hA,k4,hk,fun y hy2 hs4=>?_⟩,hlab⟩
 obtain ⟨A',B',hl2⟩:=List.append_of_mem he
 have hyA:y∈A:=by rw [hA];simp [hy2]
 have hys:y∈D s:=by
  have:=h.view hs her hrN hD hl2 y hyA
  rw [hl2];simp [this]
 rw [hl] at hys
 rcases List.mem_append.1 hys with h1 | h1
 ·exact (h.lok hs).behind hl y h1
 ·rcases List.mem_cons.1 h1 with rfl | h1
  ·have:=hmx.own
   cases hb:y.bel y with
   | false=>rfl
   | true =>
    rw [bel_iff y y hmx] at hb
    omega
  ·exact hy y h1 hs4
theorem posC_at {l:List Con} {k:List UInt8} (h:0≤posC l k):∃ con∈l,con.key=k∧l[(posC l k).toNat]?=some con:=by
 unfold posC at h ⊢
 split at h
 ·rename_i hlt
  rw [if_pos hlt]
  have:=List.findIdx_getElem (w:=hlt)
  refine ⟨_,List.getElem_mem hlt,of_decide_eq_true this,?_⟩
  simp [List.getElem?_eq_getElem hlt]
 ·omega
theorem con_of {k:List UInt8} {l:List Ev} (h:∀ e∈l,1≤e.ed.kind∧e.ed.kind≤5) {con:Con} (hc:con∈lvList (lvOf l)):con.s0=vs con.key 0 l∧con.s1=vs con.key 1 l:=by
 unfold lvList at hc
 rw [List.mem_flatMap] at hc
 obtain ⟨q,_,hc⟩:=hc
 have hm:=lvOf_ok l h
 have hev:∀ e∈lvGet q (lvOf l),e.ed.key=q∧(e.ed.kind=1∨e.ed.kind=3∨e.ed.kind=4):=fun e he=>by
  obtain ⟨p,hp,h1,h2⟩:=lvGet_mem he
  have:=hm.ev p hp e h2
  rw [h1] at this
  exact this
 have hk:=(bkKeys_one hev).2
 unfold bkOf at hc
 obtain ⟨z,hz,rfl⟩:=List.mem_map.1 hc
 rw [hk] at hz
 split at hz
 ·cases hz
 ·simp at hz
  subst hz
  exact ⟨rfl,rfl⟩
theorem chk4_room {L P:Int} {l:List Con} {e:Ed} (h:chkC L P l e=0) (k4:e.kind=4):∃ con∈l,con.key=e.key∧((con.set e.label).length:Int)<P:=by
 unfold chkC at h
 split at h
 ·rename_i h0;exact absurd h h0
 rw [if_neg rM] at h
 split at h
 ·cases h
 rename_i hp
 obtain ⟨con,hc,hk,hg⟩:=posC_at (l:=l) (k:=e.key) rM
 rw [hg] at h
 simp only at h
 try rw [if_pos k4] at h
 split at h
 ·cases h
 ·exact ⟨con,hc,hk,by omega⟩
theorem err_label {e:Ed} (h:e.err=0) (k4:e.kind=4):e.label=0∨e.label=1:=by
 unfold Ed.err at h
 split at h
 ·cases h
 split at h
 ·rename_i h1;exact absurd h h1
 rw [if_neg rM] at h
 split at h
 ·rename_i h1;exact absurd h h1
 ·rename_i h1
  have h1:labelE e.label=0:=by simpa using h1
  unfold labelE at h1
  split at h1
  ·omega
  ·cases h1
theorem Lgs.elems {c:Cfg} {N:Nat} {D:Nat→List Ev} (h:Lgs c N D) (hP:0≤c.p) {s:Nat} (hs:s<N) (k:List UInt8) (lab:Int):(vs k lab (D s)).length≤N * c.p.toNat:=by
 have hkd:∀ s,s<N→∀ e∈D s,1≤e.ed.kind∧e.ed.kind≤5:=fun s hs e he=>err_kind (h.may s hs e he).ed
 have hsp:=vs_spec k lab (D s) (h.lok hs)
 classical
 refine kinds_len (fun r v=>decide (∃ e,Shw k lab (D s) e∧e.r=(r:Int)∧e.ed.value=v)) c.p.toNat N (vs k lab (D s)) (fun v hv=>?_) fun r hr=>?_
 ·obtain ⟨e,he,hev⟩:=(hsp.2 v).1 hv
  obtain ⟨_,⟨X,Y,hl,_⟩,_⟩:=id he
  have hes:e∈D s:=by rw [hl];simp
  have u:=h.uq s hs e hes
  have h5:=(h.may s hs e hes).r
  refine ⟨e.r.toNat,by omega,decide_eq_true ⟨e,he,by omega,hev⟩⟩
 ·obtain ⟨F,hF⟩:∃ F,F=(vs k lab (D s)).filter fun v=>decide (∃ e,Shw k lab (D s) e∧e.r=(r:Int)∧e.ed.value=v):=⟨_,rfl⟩
  rw [← hF]
  have hFm:∀ v∈F,∃ e,Shw k lab (D s) e∧e.r=(r:Int)∧e.ed.value=v:=fun v hv=>by
   rw [hF] at hv
   exact of_decide_eq_true (List.mem_filter.1 hv).2
  have hFn:F.Nodup:=by rw [hF];exact hsp.1.filter _
  have hin:∀ e,Shw k lab (D s) e→e∈D s:=fun e he=>by
   obtain ⟨_,⟨X,Y,hl,_⟩,_⟩:=he
   rw [hl];simp
  rcases F with _ | ⟨v0,F0⟩
  ·simp
  obtain ⟨a0,ha0,har0,_⟩:=hFm v0 (by simp)
  obtain ⟨e,hes,hp,hmax⟩:=exists_max (fun e=>decide (Shw k lab (D s) e∧e.r=(r:Int))) (D s) ⟨a0,hin a0 ha0,decide_eq_true ⟨ha0,har0⟩⟩
  obtain ⟨he,her⟩:=of_decide_eq_true hp
  obtain ⟨_,⟨X,Y,hl,k4,hkk,_⟩,hlab⟩:=id he
  have ue:=(h.uq s hs e hes).2
  rw [her,show ((r:Int)).toNat=r from Int.toNat_natCast r] at ue
  obtain ⟨A,B,hD⟩:=List.append_of_mem ue
  obtain ⟨con,hcon,hck,hroom⟩:=chk4_room ((h.ok r hr A e B hD).2 her).2 k4
  have hkA:∀ e∈A,1≤e.ed.kind∧e.ed.kind≤5:=fun x hx=>hkd r hr x (by rw [hD];simp [hx])
  have hset:con.set e.ed.label=vs k lab A:=by
   have hc:=con_of (k:=k) hkA hcon
   rw [hck,hkk] at hc
   have hl2:=err_label (h.may s hs e hes).ed k4
   unfold Con.set
   rcases hl2 with h0 | h1
   ·rw [if_pos h0,hc.1,← hlab,h0]
   ·rw [if_neg rM,hc.2,← hlab,h1]
  rw [hset] at hroom
  have hlA:LOk A:=by have:=h.lok hr;rw [hD] at this;exact this.front
  have hspA:=vs_spec k lab A hlA
  have hsub:∀ v∈(v0::F0).erase e.ed.value,v∈vs k lab A:=fun v hv=>by
   obtain ⟨hne,hvF⟩:=(hFn.mem_erase_iff).1 hv
   obtain ⟨x,hx,hxr,hxv⟩:=hFm v hvF
   have hxs:=hin x hx
   have hle:=hmax x hxs (decide_eq_true ⟨hx,hxr⟩)
   have hlt:x.n<e.n:=by
    rcases Int.lt_or_eq_of_le hle with h1 | h1
    ·exact h1
    ·have:=num_inj (h.num s hs) (Ev.May.r5 (h.may s hs)) x hxs e hes (by rw [hxr,her]) h1
     rw [this] at hxv
     exact absurd hxv.symm hne
   exact (hspA.2 v).2 ⟨x,h.back4 hs hr hes hx her hxr hlt hD,hxv⟩
  have h1:=nodup_sub _ _ (hFn.erase e.ed.value) hsub
  have h2:(v0::F0).length≤((v0::F0).erase e.ed.value).length+1:=by
   rw [List.length_erase]
   split <;> omega
  omega
end
section
theorem mul_bd {a b:Int} {m k:Nat} (ha:1≤a∧a≤m) (hb:1≤b∧b≤k):1≤a * b∧a * b≤m * k:=by
 constructor
 ·have:=Int.mul_le_mul ha.1 hb.1 rM rM
  omega
 ·exact Int.mul_le_mul ha.2 hb.2 rM rM
theorem new_node (c:Cfg) {r:Int} (hr:(WSt.new c).has r):((WSt.new c).node r).recs=[]∧((WSt.new c).node r).held=[]:=by
 have h1:=hr.1
 have h2:=hr.2
 have hl:(WSt.new c).nodes.length=c.n.toNat:=by unfold WSt.new;simp
 rw [hl] at h2
 have e:(WSt.new c).node r=(NSt.fresh.start c r).1:=by
  unfold WSt.node WSt.new
  have:r.toNat<c.n.toNat:=by omega
  simp only [List.getD_eq_getElem?_getD,List.getElem?_map,List.getElem?_range this,Option.map_some,Option.getD_some]
  rw [show ((r.toNat:Nat):Int)=r by omega]
 rw [e]
 exact ⟨rfl,rfl⟩
theorem RmI.new (c:Cfg) (hc:c.May):RmI c (WSt.new c):=by
 refine ⟨fun r hr i hi=>?_,fun x hx=>(by cases hx),fun r hr _ e he=>?_,fun x hx=>(by cases hx)⟩
 ·have e:(clkD (WSt.new c) r).get i=0:=by
   unfold clkD
   rw [(new_node c hr).1]
   exact zero_get i
  rw [e]
  show ((PSt.zero c).told.getD r Clk.zero).get i≤0
  have:(PSt.zero c).told.getD r Clk.zero=Clk.zero:=by
   rcases getD_mem_or (PSt.zero c).told r Clk.zero with h | h
   ·exact List.eq_of_mem_replicate h
   ·exact h
  rw [this,zero_get]
  omega
 ·rw [(new_node c hr).2] at he
  cases he
theorem GvI.new (c:Cfg) (hc:c.May):GvI c (WSt.new c):=by
 refine ⟨fun r hr=>?_,WAll.new c⟩
 unfold dOf
 rw [(new_node c hr).1]
 exact LgOk.nil c r
theorem rm_site {k:Nat} {c:Cfg} {w:WSt} (g:WGd k c w) {r:Int} (hr:w.has r):(w.node r).site.clk.get r.toNat - (w.node r).site.sent≤c.q∧(w.node r).site.sent≤(w.node r).site.clk.get r.toNat∧0≤(w.node r).site.sent∧((w.node r).site.held.length:Int)≤c.h:=by
 have gn:=g.nd r hr
 have hq:=g.hub.cm.q
 have hh:=g.hub.cm.h
 unfold NSt.site
 split
 ·rename_i hu
  have h1:=gn.dur.rsent
  rw [(gn.up hu).2] at h1
  simp only at h1
  rw [← gn.clk hu] at h1
  have h2:=(gn.held hu).1
  simp only [List.length_map]
  omega
 ·show Clk.zero.get r.toNat - (0:Int)≤c.q∧(0:Int)≤Clk.zero.get r.toNat∧(0:Int)≤0∧((([]:List Mk).length:Nat):Int)≤c.h
  rw [zero_get]
  simp only [List.length_nil]
  omega
theorem rm_list {k:Nat} {c:Cfg} {w:WSt} (g:WGd k c w) (h:GvI c w) {r:Int} (hr:w.has r):((w.node r).list.1.length:Int)≤c.n * c.l∧∀ con∈(w.node r).list.1,(con.s0.length:Int)≤c.n * c.p∧(con.s1.length:Int)≤c.n * c.p:=by
 have hl:=h.lgs g
 have hcn:=g.hub.cm.n
 have hcl:=g.hub.cm.l
 have hcp:=g.hub.cm.p
 have hgn:=g.n
 have hL:=mul_bd (m:=5) (k:=4) hcn hcl
 have hP:=mul_bd (m:=5) (k:=3) hcn hcp
 unfold NSt.list
 split
 ·rename_i hu
  have hD:dOf w r=(w.node r).log:=by unfold dOf;rw [((g.nd r hr).up hu).2]
  have hs:r.toNat<w.nodes.length:=by have:=hr.1;have:=hr.2;omega
  have hrr:((r.toNat:Nat):Int)=r:=by have:=hr.1;omega
  have h1:=hl.keys rM hs
  simp only [hrr,hD] at h1
  have e1:((w.nodes.length * c.l.toNat:Nat):Int)=c.n * c.l:=by
   rw [Int.natCast_mul,hgn,Int.toNat_of_nonneg rM]
  have e2:((w.nodes.length * c.p.toNat:Nat):Int)=c.n * c.p:=by
   rw [Int.natCast_mul,hgn,Int.toNat_of_nonneg rM]
  refine ⟨by show ((lvList (lvOf (w.node r).log)).length:Int)≤_;omega,fun con hc=>?_⟩
  have hc:con∈lvList (lvOf (w.node r).log):=hc
  have hkd:∀ e∈(w.node r).log,1≤e.ed.kind∧e.ed.kind≤5:=fun e he=>err_kind ((g.nd r hr).dur.revs e (by rw [((g.nd r hr).up hu).2];exact he)).ed
  obtain ⟨c0,c1⟩:=con_of (k:=con.key) hkd hc
  have a0:=hl.elems rM hs con.key 0
  have a1:=hl.elems rM hs con.key 1
  simp only [hrr,hD] at a0 a1
  rw [← c0] at a0
  rw [← c1] at a1
  omega
 ·refine ⟨?_,fun con hc=>by cases hc⟩
  show ((([]:List Con).length:Nat):Int)≤_
  simp only [List.length_nil]
  omega
theorem rm_hub {k:Nat} {c:Cfg} {w:WSt} (g:WGd k c w) {r:Nat} (hr:w.has (r:Int)):w.hub.siteU.s.len.get r - w.hub.siteU.s.base.get r≤c.w∧w.hub.siteU.s.base.get r≤w.hub.siteU.s.len.get r∧0≤w.hub.siteU.s.base.get r:=by
 have hw:=g.hub.cm.w
 have h5:=(g.nd r hr).r5
 unfold HSt.siteU
 split
 ·rename_i hu
  have hp:=g.hub.dur.post
  rw [(g.hub.up hu).2] at hp
  have hs:r<w.hub.post.sf.length:=by have:=hp.n;have:=g.n;have:=hr.2;omega
  have hx0:=hp.s _ (show w.hub.post.sf.getD r Sf.none∈w.hub.post.sf by
   rw [show w.hub.post.sf.getD r Sf.none=w.hub.post.sf[r]'hs by simp [List.getD_eq_getElem?_getD,hs]]
   exact List.getElem_mem hs)
  have hx:=hx0.2.2.1
  have hx1:(w.hub.post.sf.getD r Sf.none).cut≤(w.hub.post.sf.getD r Sf.none).all.length:=hx0.1
  show (clkOf w.hub.post.lenF).get r - (clkOf w.hub.post.baseF).get r≤c.w∧(clkOf w.hub.post.baseF).get r≤(clkOf w.hub.post.lenF).get r∧0≤(clkOf w.hub.post.baseF).get r
  rw [clkOf_get _ _ rM,clkOf_get _ _ rM]
  unfold PSt.lenF PSt.baseF
  rw [if_pos hs,if_pos hs]
  omega
 ·show Clk.zero.get r - Clk.zero.get r≤c.w∧Clk.zero.get r≤Clk.zero.get r∧0≤Clk.zero.get r
  rw [zero_get]
  omega
theorem ak_told (p:PSt) (r:Nat) (hr:r<5):p.site.ak r=p.told.getD r Clk.zero:=by
 match r,hr with
 | 0,_=>rfl
 | 1,_=>rfl
 | 2,_=>rfl
 | 3,_=>rfl
 | 4,_=>rfl
theorem ak_zero (r:Nat):(⟨Clk.zero,Clk.zero,Clk.zero,Clk.zero,Clk.zero,Clk.zero,Clk.zero⟩:Hs).ak r=Clk.zero:=by
 match r with
 | 0=>rfl
 | 1=>rfl
 | 2=>rfl
 | 3=>rfl
 | n+4=>rfl
theorem rm_ack {k:Nat} {c:Cfg} {w:WSt} (g:WGd k c w) (h:RmI c w) {r i:Nat} (hr:w.has (r:Int)) (hi:i<5):w.hub.siteU.s.base.get i≤(w.hub.siteU.s.ak r).get i∧((w.node r).site.up=true→(w.hub.siteU.s.ak r).get i≤(w.node r).site.clk.get i):=by
 have h5:=(g.nd r hr).r5
 have gn:=g.nd r hr
 have hclk:(w.node r).site.up=true→(w.node r).site.clk=clkD w r∧0≤(clkD w r).get i:=fun hu=>by
  have hup:(w.node r).up=true:=by
   unfold NSt.site at hu
   split at hu
   ·assumption
   ·cases hu
  have hv:=Ev.May.r5 gn.dur.revs
  refine ⟨?_,(clkOfLog_bd _ hv i hi).1⟩
  unfold NSt.site clkD
  rw [if_pos hup,(gn.up hup).2,gn.clk hup]
 have hp:=g.hub.dur.post
 by_cases hu:w.hub.up=true
 ·rw [siteU_up hu]
  have ht:=h.told r hr i hi
  rw [(g.hub.up hu).2] at ht hp
  have hlow:=low_replay c w.hub.recs
  rw [(g.hub.up hu).2] at hlow
  have hrt:r<w.hub.post.told.length:=by have:=hp.n;have:=hp.t;have:=g.n;have:=hr.2;omega
  have hl:=hlow r i hrt hi
  have h0:0≤(w.hub.post.told.getD r Clk.zero).get i:=by
   rcases getD_mem_or w.hub.post.told r Clk.zero with hm | hm
   ·exact (hp.a _ hm i hi).1
   ·rw [hm,zero_get];omega
  simp only
  rw [ak_told _ _ rM]
  refine ⟨?_,fun hsu=>by rw [(hclk hsu).1];exact ht⟩
  show (clkOf w.hub.post.baseF).get i≤_
  rw [clkOf_get _ _ hi]
  unfold PSt.baseF
  split
  ·omega
  ·exact h0
 ·unfold HSt.siteU
  rw [if_neg hu]
  simp only
  rw [ak_zero,zero_get]
  exact ⟨Int.le_refl _,fun hsu=>by rw [(hclk hsu).1];exact (hclk hsu).2⟩
def hsI (h:Hs):List Int:=[h.base.a,h.base.b,h.base.c,h.base.d,h.base.e,h.len.a,h.len.b,h.len.c,h.len.d,h.len.e,h.a0.a,h.a0.b,h.a0.c,h.a0.d,h.a0.e,h.a1.a,h.a1.b,h.a1.c,h.a1.d,h.a1.e,h.a2.a,h.a2.b,h.a2.c,h.a2.d,h.a2.e,h.a3.a,h.a3.b,h.a3.c,h.a3.d,h.a3.e,h.a4.a,h.a4.b,h.a4.c,h.a4.d,h.a4.e]
theorem hsI_base (h:Hs) (k:Nat) (hk:k<5):(hsI h).getD k 0=h.base.get k:=by
 match k,hk with
 | 0,_=>rfl
 | 1,_=>rfl
 | 2,_=>rfl
 | 3,_=>rfl
 | 4,_=>rfl
theorem hsI_len (h:Hs) (k:Nat) (hk:k<5):((hsI h).drop 5).getD k 0=h.len.get k:=by
 match k,hk with
 | 0,_=>rfl
 | 1,_=>rfl
 | 2,_=>rfl
 | 3,_=>rfl
 | 4,_=>rfl
theorem hsI_ak (h:Hs) (r k:Nat) (hr:r<5) (hk:k<5):((hsI h).drop (10+5 * r)).getD k 0=(h.ak r).get k:=by
 have hr5:r=0∨r=1∨r=2∨r=3∨r=4:=by omega
 have hk5:k=0∨k=1∨k=2∨k=3∨k=4:=by omega
 rcases hr5 with rfl | rfl | rfl | rfl | rfl <;> rcases hk5 with rfl | rfl | rfl | rfl | rfl <;> rfl
end
section
def wideC (c:Cfg):Cfg:={ fitC c with h:=max (fitC c).h ((fitC c).n * (fitC c).w) }
theorem wideC_may (c:Cfg):(wideC c).May:=by
 have h:=fitC_may c
 have hm:=mul_bd (m:=5) (k:=4) h.n h.w
 refine ⟨h.n,h.w,h.q,?_,h.l,h.p⟩
 have h1:=h.h
 show 1≤max (fitC c).h ((fitC c).n * (fitC c).w)∧max (fitC c).h ((fitC c).n * (fitC c).w)≤20
 have:((5:Nat):Int) * ((4:Nat):Int)=20:=by decide
 omega
theorem wideC_room (c:Cfg):(wideC c).n * (wideC c).w≤(wideC c).h:=by
 show (fitC c).n * (fitC c).w≤max (fitC c).h ((fitC c).n * (fitC c).w)
 omega
set_option maxRecDepth 20000 attribute [local irreducible] Ex ExL Fn thn inb rnd fin meet Tab Mix mxEnd Val Sats RdT Rd RowT Row Blk Sub Fac ResV RVal Evs subs subs3 Hid Capd
section
theorem wideC_F (c:Cfg) (L:List Assn):Fn Tryz.prog 20 #[.agg (Rep.cells c).toArray] L fun v L'=>v=.agg (Rep.cells (wideC c)).toArray∧L'=L:=by
 have h:=fitC_may c
 have hn:=h.n
 have hw:=h.w
 have hh:=h.h
 have hm:=mul_bd (m:=5) (k:=4) h.n h.w
 have h20:((5:Nat):Int) * ((4:Nat):Int)=20:=by decide
 rw [h20] at hm
 have hwr:IntKind.i64.wrap ((fitC c).n * (fitC c).w)=(fitC c).n * (fitC c).w:=wrap_in (by unfold I64;omega)
 refine Fn.of_ex Tryz.func20 rfl Tryz.ntmps20 rfl ?_
 (refine rn ?_;intros)
 refine st_callIs [] rJ Tryz.call11 rJ rJ (fitC_F c _) ?_
 rintro _ _ ⟨rfl,rfl⟩
 unfold wideC
 generalize fitC c=d at h hn hw hh hm hwr ⊢
 exact re1
end
end
section
theorem fewR_in (n:Int) (l:List Stp) (h:∀ s∈l,s.In):∀ s∈fewS n l,s.Ok∧s.ed.err=0:=by
 intro s hs
 unfold fewS at hs
 obtain ⟨x,hx,rfl⟩:=List.mem_map.1 hs
 have h1:=h x (List.mem_of_mem_take hx)
 have h2:=fit_lens x.ed
 exact ⟨⟨h1.bit,h1.mask,by show x.ed.fit.key.length≤_;omega,by show x.ed.fit.value.length≤_;omega⟩,fit_err x.ed⟩
theorem fewR_length (n:Int) (l:List Stp):(fewS n l).length≤60:=by unfold fewS;rw [List.length_map,List.length_take];omega
section
variable {P:Program} {f:Nat→Value} {L:List Assn} {d:Nat} {ty:TypeId} {pos:String} {af:Array Edge} {gd:Option (Nat×Bool)}
theorem vl_loadN (i m:Nat) {t bt:TypeId} {x:Operand} {g o j:Nat} {cs:List Value} {k:IntKind} {zs:List Int} (hx:evalF f x=.pointer (some ⟨g,o+j * 1,none⟩)) (hi:L[i]?=some (Blk g bt cs)) (ht:P.underlying t=some (.int k)) (hz:(cs.drop o).take m=zs.map (.int k))
  (hj:j<zs.length):Val P ⟨some d,.load t x,ty,pos,af,gd⟩ f L (.int k (zs.getD j 0)) :=
 fun F w s=>by
  have:=blk_cell hi (get_map_at (φ:=.int k) 0 hz hj) s
  rw [Nat.mul_one] at hx
  simp [execOp,hx,Instr.loadAt,Instr.sureAddr,run_loadVar1 w (t:=t) (show aggB P t=some false by simp [aggB,ht]) this,List.getD_eq_getElem?_getD]
end
theorem Ex.capR {P:Program} {n:Nat} {c:Code} {Q:Post} {f:Nat→Value} {L:List Assn} {α:Type} [Rep α] {v:Value} {xs:List α} (hr:RdT L v xs) (h:Capd v xs.length→Ex P n c Q f L):Ex P n c Q f L :=
 fun D F w0 f0 ws a w H hc=>h (hr.capd w F H.2.2.1) D F w0 f0 ws a w H hc
set_option maxRecDepth 20000 attribute [local irreducible] Ex ExL Fn thn inb rnd fin meet Tab Mix mxEnd Val Sats RdT Rd RowT Row Blk Sub Fac ResV RVal Evs subs subs3 Hid Capd
attribute [local irreducible] Star NodeA HubA LkA nodesA WldA SiteV.own Lst.own wS
theorem topRooms_F (c0:Cfg) (v1:Value) (l:List Stp) (M:List Assn) (hr:RdT M v1 l) (o1:v1.oneCell'=true) (hl:l.length≤140737488351232) (hs:∀ s∈l,s.In) :
  Fn Tryz.prog 4 #[.agg (Rep.cells c0).toArray,v1] M fun v L'=>v=.bool true∧L'=M:=by
 obtain ⟨c,hc⟩:∃ c,c=wideC c0:=⟨_,rfl⟩
 have hm:c.May:=by rw [hc];exact wideC_may c0
 have hH:c.n * c.w≤c.h:=by rw [hc];exact wideC_room c0
 have hcn:=hm.n
 obtain ⟨N,hcN⟩:∃ N:Nat,c.n=N:=⟨c.n.toNat,by omega⟩
 refine Fn.of_ex Tryz.func4 rfl Tryz.ntmps4 rfl ?_
 (refine rn ?_;(repeat (first | intro (g:Nat) | intro (cs:List Value) | intro (hcs:_=List.set _ _ _) | intro (zs:List _) | intro h)))
 refine st_callIs [] rJ Tryz.call10 rJ rJ (shown_F _) ?_
 rintro _ _ ⟨rfl,rfl⟩
 (refine rn ?_;(repeat (first | intro (g:Nat) | intro (cs:List Value) | intro (hcs:_=List.set _ _ _) | intro (zs:List _) | intro h)))
 refine st_callIs [] rJ Tryz.call20 rJ rJ (wideC_F c0 _) ?_
 rintro _ _ ⟨rfl,rfl⟩
 rw [← hc]
 (refine rn ?_;(repeat (first | intro (g:Nat) | intro (cs:List Value) | intro (hcs:_=List.set _ _ _) | intro (zs:List _) | intro h)))
 revert g
 intro g6
 refine st_callIs [] rJ Tryz.call21 rJ rJ (wNewA c _ hm) ?_
 rintro _ _ ⟨gw,rfl,rfl⟩
 have g0:=WGd.new hm
 have r0:=RmI.new c hm
 have v0:=GvI.new c hm
 (refine rn ?_;(repeat (first | intro (g:Nat) | intro (cs:List Value) | intro (hcs:_=List.set _ _ _) | intro (zs:List _) | intro h)))
 rw [hcN]
 refine st_callIs [] rJ Tryz.call13 rJ rJ (few_F v1 l N _ rD o1 rM rM (fun s h=>⟨by have:=(hs s h).key;omega,by have:=(hs s h).value;omega⟩)) ?_
 rintro v9 _ ⟨o9,rfl⟩
 have hok:=fewR_in N l hs
 have hlen:=fewR_length N l
 obtain ⟨S0,hS⟩:∃ S0,S0=fewS N l:=⟨_,rfl⟩
 rw [← hS] at hok hlen ⊢
 (refine rn ?_;(repeat (first | intro (g:Nat) | intro (cs:List Value) | intro (hcs:_=List.set _ _ _) | intro (zs:List _) | intro h)))
 refine Ex.sub (L':=WldA gw c (WSt.new c)::Blk g6 23 (Rep.cells c)::RowT v9 29 S0::M) ?_ rP
 refine Ex.loop [10] (fun z vs L'=>∃ (j:Nat) (w:WSt),j≤S0.length∧z=S0.length - j∧WGd j c w∧RmI c w∧GvI c w∧vs=[.int .i64 j]∧L'=WldA gw c w::Blk g6 23 (Rep.cells c)::RowT v9 29 S0::M) S0.length ⟨0,WSt.new c,by omega,rfl,g0,r0,v0,rfl,rfl⟩ ?_
 rintro z vs g1 L1 ⟨j,w,hj,rfl,gj,rj,vj,rfl,rfl⟩
 refine Ex.keep [6,7,9,10] rG (fun gk=>?_)
 by_cases hlt:j<S0.length
 ·have hsj:=hok (S0[j]'hlt) (List.getElem_mem hlt)
  have okw:WOk 198 c w:=(gj.mono rM).ok rM
  have gw2:=gj.step rM (S0[j]'hlt)
  have rw2:=rj.step gj (S0[j]'hlt)
  have vw2:=vj.step gj rM (S0[j]'hlt)
  have hno:=rj.noHold gj hH (S0[j]'hlt) hsj.2
  clear rj vj
  (refine rn ?_;(repeat (first | intro (g:Nat) | intro (cs:List Value) | intro (hcs:_=List.set _ _ _) | intro (zs:List _) | intro h)))
  refine st_callIs [] rJ Tryz.call17 rE rJ (wStepA (k:=198) gw c w (S0[j]'hlt) _ okw (Nat.le_refl _) hsj.1) ?_
  rintro _ _ ⟨rfl,rfl⟩
  generalize (w.step c (S0[j]'hlt)).1=w2 at gw2 rw2 vw2 ⊢
  generalize (w.step c (S0[j]'hlt)).2=e2 at hno ⊢
  have okw2:WOk 198 c w2:=(gw2.mono rM).ok rM
  have hn2:=gw2.n
  (refine rn ?_;(repeat (first | intro (g:Nat) | intro (cs:List Value) | intro (hcs:_=List.set _ _ _) | intro (zs:List _) | intro h)))
  refine st_callIs [] rJ Tryz.call15 rE rJ (wHubA (k:=198) gw c w2 _ okw2 (Nat.le_refl _)) ?_
  rintro _ _ ⟨rfl,rfl⟩
  (refine rn ?_;(repeat (first | intro (g:Nat) | intro (cs:List Value) | intro (hcs:_=List.set _ _ _) | intro (zs:List _) | intro h)))
  revert g
  intro g11
  refine Ex.sub (L':=WldA gw c w2::Blk g11 53 (Rep.cells w2.hub.siteU)::Blk g6 23 (Rep.cells c)::RowT v9 29 S0::M) ?_ rP
  refine Ex.loop [12] (fun z vs L'=>∃ r:Nat,r≤N∧z=N - r∧vs=[.int .i64 r]∧L'=WldA gw c w2::Blk g11 53 (Rep.cells w2.hub.siteU)::Blk g6 23 (Rep.cells c)::RowT v9 29 S0::M) N ⟨0,by omega,rfl,rfl,rfl⟩ ?_
  rintro z vs g2 L2 ⟨r,hrN,rfl,rfl,rfl⟩
  refine Ex.keep [6,7,9,10,11,12] rG (fun gk=>?_)
  by_cases hrl:r<N
  ·have hh:w2.has (r:Int):=⟨by omega,by omega⟩
   have hr5:r<5:=by omega
   have f1:=rm_site gw2 hh
   have f2:=rm_list gw2 vw2 hh
   have f3:=rm_hub gw2 hh
   have f4:=fun k (hk:k<5)=>rm_ack gw2 rw2 hh hk
   (refine rn ?_;(repeat (first | intro (g:Nat) | intro (cs:List Value) | intro (hcs:_=List.set _ _ _) | intro (zs:List _) | intro h)))
   refine st_callIs [] rJ Tryz.call22 rE rJ (wSiteA (k:=198) gw c w2 r _ okw2 (Nat.le_refl _) hh) ?_
   rintro _ _ ⟨u1,u2,ou1,ou2,rfl,rfl⟩
   generalize (w2.node r).site=sp at f1 f4 ⊢
   (refine rn ?_;(repeat (first | intro (g:Nat) | intro (cs:List Value) | intro (hcs:_=List.set _ _ _) | intro (zs:List _) | intro h)))
   revert g
   intro g13
   refine st_callIs [3] rJ Tryz.call23 rE rJ (wListA (k:=198) gw c w2 r _ okw2 (Nat.le_refl _) hh) ?_
   rintro _ _ ⟨v14,cs,o14,hcs,rfl,rfl⟩
   generalize (w2.node r).list.2=le
   rw [← hcs] at f2
   generalize w2.hub.siteU=hb at f3 f4 ⊢
   have hrt:((r:Int)).toNat=r:=Int.toNat_natCast r
   rw [hrt] at f1
   have f1:[sp.clk.a,sp.clk.b,sp.clk.c,sp.clk.d,sp.clk.e].getD (r:Int).toNat 0 - sp.sent≤c.q∧sp.sent≤[sp.clk.a,sp.clk.b,sp.clk.c,sp.clk.d,sp.clk.e].getD (r:Int).toNat 0∧0≤sp.sent∧(sp.held.length:Int)≤c.h:=by
    rw [hrt,Clk.getD_eq];exact f1
   have f3:((hsI hb.s).drop 5).getD (r:Int).toNat 0 - (hsI hb.s).getD (r:Int).toNat 0≤c.w∧(hsI hb.s).getD (r:Int).toNat 0≤((hsI hb.s).drop 5).getD (r:Int).toNat 0∧0≤(hsI hb.s).getD (r:Int).toNat 0:=by
    rw [hrt,hsI_base _ r hr5,hsI_len _ r hr5];exact f3
   simp only [hsI,List.drop_succ_cons,List.drop_zero] at f3
   obtain ⟨f1a,f1b,f1c,f1d⟩:=f1
   obtain ⟨f3a,f3b,f3c⟩:=f3
   have f2:(cs.length:Int)≤c.n * c.l∧∀ ct∈cs,(ct.s0.length:Int)≤c.n * c.p∧(ct.s1.length:Int)≤c.n * c.p:=by
    refine ⟨by have:=f2.1;rwa [List.length_map] at this,fun ct hct=>?_⟩
    have:=f2.2 ct.con (List.mem_map_of_mem hct)
    simpa [Ct.con] using this
   have hcw:=hm.w
   have hcq:=hm.q
   have hch:=hm.h
   have hcl:=hm.l
   have hcp:=hm.p
   have hnl:=mul_bd (m:=5) (k:=4) hcn hcl
   have hnp:=mul_bd (m:=5) (k:=3) hcn hcp
   have h20:((5:Nat):Int) * ((4:Nat):Int)=20:=by decide
   have h15:((5:Nat):Int) * ((3:Nat):Int)=15:=by decide
   rw [h20] at hnl
   rw [h15] at hnp
   have hw1:IntKind.i64.wrap (c.n * c.l)=c.n * c.l:=wrap_in (by unfold I64;omega)
   have hw2:IntKind.i64.wrap (c.n * c.p)=c.n * c.p:=wrap_in (by unfold I64;omega)
   obtain ⟨f2a,f2b⟩:=f2
   clear hcs h20 h15 hno
   (refine rn ?_;(repeat (first | intro (cs:List Value) | intro (zs:List _) | intro h)))
   refine Ex.sub (L':=Mks u1 sp.held::Cts_ v14 cs::Star (cs.map Ct.own)::WldA gw c w2::Blk g13 65 (siteC sp u1 u2)::Blk g11 53 (Rep.cells hb)::Blk g6 23 (Rep.cells c)::RowT v9 29 S0::M) ?_ rP
   have hrd:RdT (Mks u1 sp.held::Cts_ v14 cs::Star (cs.map Ct.own)::WldA gw c w2::Blk g13 65 (siteC sp u1 u2)::Blk g11 53 (Rep.cells hb)::Blk g6 23 (Rep.cells c)::RowT v9 29 S0::M) u1 sp.held:=RdT.row 0 rfl
   refine Ex.capR hrd fun hcd=>?_
   refine Ex.sub (L':=Cts_ v14 cs::Star (cs.map Ct.own)::WldA gw c w2::Blk g13 65 (siteC sp u1 u2)::Blk g11 53 (Rep.cells hb)::Blk g6 23 (Rep.cells c)::RowT v9 29 S0::M) ?_ rP
   clear hrd
   (refine rn ?_;(repeat (first | intro (cs:List Value) | intro (zs:List _) | intro h)))
   (refine Ex.mixA 54 _ rfl rQ (Fac.refl _) ?_;(repeat' (first | (refine m1 ?_;(repeat (first | intro (cs:List Value) | intro (zs:List _) | intro h))) | (refine mx_gsplit rJ rJ rJ (fun h=>?_) (fun h=>?_) <;> try (exfalso;omega)))))
   refine mx_val rJ rJ rJ (vl_loadN 3 5 (j:=(r:Int).toNat) (zs:=[sp.clk.a,sp.clk.b,sp.clk.c,sp.clk.d,sp.clk.e]) rJ rJ rJ rJ (by show _<5;omega)) ?_
   (repeat' (first | (refine m1 ?_;(repeat (first | intro (cs:List Value) | intro (zs:List _) | intro h))) | (refine mx_gsplit rJ rJ rJ (fun h=>?_) (fun h=>?_) <;> try (exfalso;omega))))
   (refine rn ?_;(repeat (first | intro (cs:List Value) | intro (zs:List _) | intro h)))
   refine Ex.loop [16] (fun z vs L'=>∃ k:Nat,k≤N∧z=N - k∧vs=[.int .i64 k]∧L'=Cts_ v14 cs::Star (cs.map Ct.own)::WldA gw c w2::Blk g13 65 (siteC sp u1 u2)::Blk g11 53 (Rep.cells hb)::Blk g6 23 (Rep.cells c)::RowT v9 29 S0::M) N ⟨0,by omega,rfl,rfl,rfl⟩ ?_
   rintro z vs g3 L3 ⟨k,hkN,rfl,rfl,rfl⟩
   refine Ex.keep [6,7,9,10,11,12,13,14,16] rG (fun gk=>?_)
   by_cases hkl:k<N
   ·have hk5:k<5:=by omega
    have hkt:((k:Int)).toNat=k:=Int.toNat_natCast k
    obtain ⟨q1,q2⟩:=f4 k hk5
    have q1:(hsI hb.s).getD (k:Int).toNat 0≤((hsI hb.s).drop (10+5 * r)).getD (k:Int).toNat 0:=by
     rw [hkt,hsI_base _ k hk5,hsI_ak _ r k hr5 hk5];exact q1
    have q2:sp.up=true→((hsI hb.s).drop (10+5 * r)).getD (k:Int).toNat 0≤[sp.clk.a,sp.clk.b,sp.clk.c,sp.clk.d,sp.clk.e].getD (k:Int).toNat 0:=by
     rw [hkt,Clk.getD_eq,hsI_ak _ r k hr5 hk5];exact q2
    clear f4 f2a f2b f1a f1b f1c f1d f3a f3b f3c hw1 hw2 hcd
    obtain ⟨up,ck,sn,hd,lg⟩:=sp
    simp only at q2
    have hrr:r=0∨r=1∨r=2∨r=3∨r=4:=by omega
    rcases hrr with rfl | rfl | rfl | rfl | rfl
    all_goals
     simp only [hsI,Nat.reduceMul,Nat.reduceAdd,List.drop_succ_cons,List.drop_zero] at q1 q2
     cases up
     ·clear q2
      (refine rn ?_;(repeat (first | intro (cs:List Value) | intro (zs:List _) | intro h)))
      (refine Ex.mixA 28 _ rfl rQ (Fac.refl _) ?_;(refine mn ?_;(repeat (first | intro (cs:List Value) | intro (zs:List _) | intro h))))
      (refine rn ?_;(repeat (first | intro (cs:List Value) | intro (zs:List _) | intro h)))
      refine rnd_n ⟨N - (k+1),_,by omega,rP,k+1,by omega,rfl,lcons (vint rM) rfl,rfl⟩
     ·have q3:=q2 rfl
      clear q2
      (refine rn ?_;(repeat (first | intro (cs:List Value) | intro (zs:List _) | intro h)))
      (refine Ex.mixA 28 _ rfl rQ (Fac.refl _) ?_;(repeat' (first | (refine m1 ?_;(repeat (first | intro (cs:List Value) | intro (zs:List _) | intro h))) | (refine mx_gsplit rJ rJ rJ (fun h=>?_) (fun h=>?_) <;> try (exfalso;omega)))))
      refine mx_val rJ rJ rJ (vl_loadN 3 5 (j:=(k:Int).toNat) (zs:=[ck.a,ck.b,ck.c,ck.d,ck.e]) rJ rJ rJ rJ (by show _<5;omega)) ?_
      (repeat' (first | (refine m1 ?_;(repeat (first | intro (cs:List Value) | intro h))) | (refine mx_gsplit rJ rJ rJ (fun h=>?_) (fun h=>?_) <;> try (exfalso;omega))))
      (refine rn ?_;(repeat (first | intro (cs:List Value) | intro h)))
      refine rnd_n ⟨N - (k+1),_,by omega,rP,k+1,by omega,rfl,lcons (vint rM) rfl,rfl⟩
   ·obtain rfl:k=N:=by omega
    clear f4 f1a f1b f1c f1d f3a f3b f3c hcd
    (refine rn ?_;(repeat (first | intro (cs:List Value) | intro h)))
    refine Ex.sub (L':=Star (cs.map Ct.own)::Cts_ v14 cs::WldA gw c w2::Blk g11 53 (Rep.cells hb)::Blk g6 23 (Rep.cells c)::RowT v9 29 S0::M) ?_ rP
    refine Ex.loop [17] (fun z vs L'=>∃ i:Nat,i≤cs.length∧z=cs.length - i∧vs=[.int .i64 i]∧L'=Star (cs.map Ct.own)::Cts_ v14 cs::WldA gw c w2::Blk g11 53 (Rep.cells hb)::Blk g6 23 (Rep.cells c)::RowT v9 29 S0::M) cs.length ⟨0,by omega,rfl,rfl,rfl⟩ ?_
    rintro z vs g4 L4 ⟨i,hi,rfl,rfl,rfl⟩
    refine Ex.keep [6,7,9,10,11,12,14,17] rG (fun gk=>?_)
    by_cases hil:i<cs.length
    ·have hct:=f2b (cs[i]'hil) (List.getElem_mem hil)
     have hrd:=Ct.rd_star (List.getElem_mem hil) (Cts_ v14 cs::WldA gw c w2::Blk g11 53 (Rep.cells hb)::Blk g6 23 (Rep.cells c)::RowT v9 29 S0::M)
     refine Ex.capR hrd.1 fun hd0=>Ex.capR hrd.2 fun hd1=>?_
     clear hrd f2b
     (refine rn ?_;(repeat (first | intro (cs:List Value) | intro h)))
     (refine Ex.mixA 28 _ rfl rQ (Fac.refl _) ?_;(refine mn ?_;(repeat (first | intro (cs:List Value) | intro h))))
     (refine rn ?_;(repeat (first | intro (cs:List Value) | intro h)))
     refine rnd_n ⟨cs.length - (i+1),Star (cs.map Ct.own)::Cts_ v14 cs::WldA gw c w2::Blk g11 53 (Rep.cells hb)::Blk g6 23 (Rep.cells c)::RowT v9 29 S0::M,by omega,rP,i+1,by omega,rfl,lcons (vint rM) rfl,rfl⟩
    ·obtain rfl:i=cs.length:=by omega
     (refine rn ?_;intros)
     refine rnd_n ⟨k - (r+1),WldA gw c w2::Blk g11 53 (Rep.cells hb)::Blk g6 23 (Rep.cells c)::RowT v9 29 S0::M,by omega,rP,r+1,by omega,rfl,lcons (vint rM) rfl,rfl⟩
  ·obtain rfl:r=N:=by omega
   (refine rn ?_;intros)
   refine rnd_n ⟨S0.length - (j+1),WldA gw c w2::Blk g6 23 (Rep.cells c)::RowT v9 29 S0::M,by omega,rP,j+1,w2,by omega,rfl,gw2,rw2,vw2,lcons (vint rM) rfl,rfl⟩
 ·obtain rfl:j=S0.length:=by omega
  exact re1
end
section
open Go.ChangeShapes Go.WideShapes Go.ChangeAt Go.RowKit
set_option maxRecDepth 20000 in
theorem topRooms_j2:(laidOutB Tryz.prog)=true:=by kernel_rfl
set_option maxRecDepth 20000 in
theorem topRooms_j3:(mapsRowed Tryz.prog)=true:=by kernel_rfl
set_option maxRecDepth 20000 in
theorem topRooms_j5:(namedTie Tryz.prog Rows.topRoomsRow.named Rows.topRoomsSpec.vars)=true:=by kernel_rfl
set_option maxRecDepth 20000 in
theorem topRooms_j10:((Rows.topRoomsRow.inPlace == Tryz.prog.inPlace 4))=true:=by kernel_rfl
set_option maxRecDepth 20000 in
theorem topRooms_j11:((Rows.topRoomsRow.unfollowed == Tryz.prog.unfollowed 4))=true:=by kernel_rfl
set_option maxRecDepth 20000 in
theorem topRooms_j12:((Rows.topRoomsRow.recurses == Tryz.prog.recurses 4))=true:=by kernel_rfl
set_option maxRecDepth 20000 in
theorem topRooms_j13:((Rows.topRoomsRow.named == Tryz.prog.varsNamed 4))=true:=by kernel_rfl
set_option maxRecDepth 20000 in
theorem topRooms_j23:((Rows.topRoomsRow.plainKeys == Tryz.prog.plainKeys))=true:=by kernel_rfl
set_option maxRecDepth 20000 in
theorem topRooms_j27:((Rows.topRoomsRow.lifted == Tryz.prog.liftsFinal))=true:=by kernel_rfl
theorem topRooms_bt {a b:Bool} (h:a=true) (k:b=true):(a && b)=true:=by rw [h,k];rfl
set_option maxRecDepth 20000 in
theorem topRooms_jf:joinedFacts Tryz.prog 4 Tryz.f4 Rows.topRoomsSpec Rows.topRoomsRow=true:=by
 unfold joinedFacts
 exact (topRooms_bt (topRooms_bt (topRooms_bt (topRooms_bt (topRooms_bt (topRooms_bt (topRooms_bt (topRooms_bt (topRooms_bt (topRooms_bt (topRooms_bt (topRooms_bt (topRooms_bt (topRooms_bt (topRooms_bt (topRooms_bt (topRooms_bt (topRooms_bt (topRooms_bt (topRooms_bt (topRooms_bt (topRooms_bt (topRooms_bt (topRooms_bt (topRooms_bt (topRooms_bt (topRooms_bt (topRooms_bt (topRooms_bt (topRooms_bt (topRooms_bt rQ topRooms_j2) topRooms_j3) rQ) topRooms_j5) rQ) rQ) rQ) rQ) topRooms_j10) topRooms_j11) topRooms_j12) topRooms_j13) rQ) rQ) rQ) rQ) rQ) rQ) rQ) rQ) rQ) topRooms_j23) rQ) rQ) rQ) topRooms_j27) rQ) rQ) rQ) rQ) rQ)
set_option maxRecDepth 20000 in
theorem topRooms_in:Tryz.f4.isInstance Tryz.prog Rows.topRoomsRow.origin Rows.topRoomsRow.targs:=of_decide_eq_true rQ
set_option maxRecDepth 20000 in
theorem topRooms_wr:Tryz.f4.isWrapper Tryz.prog Rows.topRoomsRow.wrapper Rows.topRoomsRow.mainSum:=by unfold Func.isWrapper;first | (rw [if_pos (by decide +kernel)];kernel_rfl) | (rw [if_neg (by decide +kernel)];exact ⟨rfl,rfl⟩)
end
end Go.Proofs.YtogcfijlhpaeeaaGreat
