/- Texts, one behind the other. No condition. -/
import Derived.Test.YtogcfijlhpaeeaaGreatZccaibcad
import Derived.Test.YtogcfijlhpaeeaaGreatZdjglmago
import Derived.Test.YtogcfijlhpaeeaaGreatZehjcikgl
import Derived.Test.YtogcfijlhpaeeaaGreatZopgnkiea
open Go.RowKit
set_option linter.unusedSimpArgs false
set_option linter.unusedVariables false
set_option linter.unusedSectionVars false
set_option maxHeartbeats 32000000
namespace Go.Proofs.YtogcfijlhpaeeaaGreat
section
theorem getset (c:Clk) (i j:Nat) (v:Int) (hi:i<5):(c.set i v).get j=if i=j then v else c.get j:=by
 match i,hi with
 | 0,_=>match j with | 0 | 1 | 2 | 3 | 4=>rfl | j+5=>rfl
 | 1,_=>match j with | 0 | 1 | 2 | 3 | 4=>rfl | j+5=>rfl
 | 2,_=>match j with | 0 | 1 | 2 | 3 | 4=>rfl | j+5=>rfl
 | 3,_=>match j with | 0 | 1 | 2 | 3 | 4=>rfl | j+5=>rfl
 | 4,_=>match j with | 0 | 1 | 2 | 3 | 4=>rfl | j+5=>rfl
def numC:Clk→List Ev→Prop
 | _,[]=>True
 | c,e::l=>e.n=c.get e.r.toNat+1∧numC (clkStep c e) l
theorem numC_app:∀ (l1 l2:List Ev) (c:Clk),numC c (l1++l2)↔numC c l1∧numC (l1.foldl clkStep c) l2
 | [],l2,c=>⟨fun h=>⟨trivial,h⟩,fun h=>h.2⟩
 | e::l1,l2,c=>by
  show _∧numC _ (l1++l2)↔(_∧numC _ l1)∧numC _ l2
  rw [numC_app l1 l2,and_assoc]
  rfl
def NumOk (log:List Ev):Prop:=numC Clk.zero log
theorem NumOk.app {l1 l2:List Ev}:NumOk (l1++l2)↔NumOk l1∧numC (clkOfLog l1) l2:=numC_app l1 l2 _
theorem clkOfLog_app (l1 l2:List Ev):clkOfLog (l1++l2)=l2.foldl clkStep (clkOfLog l1):=by unfold clkOfLog;rw [List.foldl_append]
theorem clkStep_get (c:Clk) (e:Ev) (h:0≤e.r∧e.r<5) (j:Nat):(clkStep c e).get j=if e.r.toNat=j then c.get j+1 else c.get j:=by
 unfold clkStep
 rw [getset _ _ _ _ rM]
 split
 ·rename_i h;rw [h]
 ·rfl
theorem clkStep_eq {c:Clk} {e:Ev} (h:e.n=c.get e.r.toNat+1):clkStep c e=c.set e.r.toNat e.n:=by unfold clkStep;rw [h]
theorem fold_get_ne (i:Nat):∀ (l:List Ev) (c:Clk),(∀ e∈l,0≤e.r∧e.r<5)→(∀ e∈l,e.r.toNat≠i)→(l.foldl clkStep c).get i=c.get i
 | [],c,_,_=>rfl
 | e::l,c,h,hn=>by
  rw [List.foldl_cons,fold_get_ne i l _ (fun x hx=>h x (List.mem_cons_of_mem _ hx)) (fun x hx=>hn x (List.mem_cons_of_mem _ hx)),clkStep_get c e (h e (List.mem_cons_self ..)),if_neg (hn e (List.mem_cons_self ..))]
theorem drain_num (c:Clk) (l:List Ev):Dst l→numC c (drain c l).1∧(drain c l).2.2=(drain c l).1.foldl clkStep c:=by
 refine drain_induct (motive:=fun c l=>Dst l→numC c (drain c l).1∧(drain c l).2.2=(drain c l).1.foldl clkStep c) (fun c l h _=>?_) (fun c l i hi h ih hd=>?_) c l
 ·rw [drain_stop h];exact ⟨trivial,rfl⟩
 ·rw [drain_step hd hi h]
  have hr:=h.2.1
  have hn:(l[i]'hi).n=c.get (l[i]'hi).r.toNat+1:=by have:=hr.2.2.2.1;omega
  have he:=clkStep_eq hn
  obtain ⟨h1,h2⟩:=ih (hd.erase i)
  rw [← he] at h1 h2
  rw [← he]
  exact ⟨⟨hn,h1⟩,h2⟩
theorem snoc_ind {motive:List Ev→Prop} (h0:motive []) (hs:∀ l e,motive l→motive (l++[e])) (l:List Ev):motive l:=by
 have key:∀ m:List Ev,motive m.reverse:=by
  intro m
  induction m with
  | nil=>exact h0
  | cons e m ih=>rw [List.reverse_cons];exact hs _ _ ih
 have:=key l.reverse
 rwa [List.reverse_reverse] at this
theorem outOf_len (q r sent:Int) (hr:0≤r∧r<5) (hs:0≤sent):∀ (log:List Ev),NumOk log→(∀ e∈log,0≤e.r∧e.r<5)→(clkOfLog log).get r.toNat - sent≤q→0≤q →
  ((outOf q r sent log).length:Int)=max 0 ((clkOfLog log).get r.toNat - sent)∧∀ e∈outOf q r sent log,e∈log∧e.r=r:=by
 intro log
 induction log using snoc_ind with
 | h0 =>
  intro _ _ _ _
  refine ⟨?_,fun e he=>by simp [outOf] at he⟩
  have:(clkOfLog []).get r.toNat=0:=zero_get _
  rw [this]
  simp [outOf]
  omega
 | hs l e ih =>
  intro hn hm hq hq0
  obtain ⟨hn1,hn2⟩:=NumOk.app.1 hn
  have hn3:e.n=(clkOfLog l).get e.r.toNat+1:=hn2.1
  have hme:=hm e (by simp)
  have hcs:=clkStep_get (clkOfLog l) e hme r.toNat
  rw [clkOfLog_snoc] at hq ⊢
  rw [hcs] at hq ⊢
  have h0:=(clkOfLog_bd l (fun x hx=>hm x (by simp [hx])) r.toNat rM).1
  obtain ⟨ih1,ih2⟩:=ih hn1 (fun x hx=>hm x (by simp [hx])) (by split at hq <;> omega) hq0
  rw [outOf_snoc]
  unfold outStep
  by_cases her:e.r=r
  ·have het:e.r.toNat=r.toNat:=by rw [her]
   rw [if_pos het] at hq ⊢
   rw [het] at hn3
   by_cases hse:sent<e.n
   ·rw [if_pos ⟨her,hse⟩]
    unfold addR
    rw [if_neg rM,if_pos rM]
    simp only [List.length_append,List.length_singleton]
    refine ⟨by omega,fun x hx=>?_⟩
    rcases List.mem_append.1 hx with hx | hx
    ·exact ⟨by simp [(ih2 x hx).1],(ih2 x hx).2⟩
    ·simp at hx;subst hx;exact ⟨by simp,her⟩
   ·rw [if_neg (fun h=>hse h.2)]
    exact ⟨by omega,fun x hx=>⟨by simp [(ih2 x hx).1],(ih2 x hx).2⟩⟩
  ·have het:¬ e.r.toNat=r.toNat:=by omega
   rw [if_neg het] at hq ⊢
   rw [if_neg (fun h=>her h.1)]
   exact ⟨ih1,fun x hx=>⟨by simp [(ih2 x hx).1],(ih2 x hx).2⟩⟩
structure NDur (k:Nat) (c:Cfg) (r:Int) (recs:List Rcd) (tail:List UInt8):Prop where
 rm:∀ x∈recs,x.May
 tl:rcFirst tail=none
 size:(rcsB recs).length+tail.length≤500000 * k
 rlen:(replay recs).1.length≤50 * k
 revs:∀ e∈(replay recs).1,e.May
 num:NumOk (replay recs).1
 rsent:0≤(replay recs).2∧(replay recs).2≤(clkOfLog (replay recs).1).get r.toNat∧(clkOfLog (replay recs).1).get r.toNat - (replay recs).2≤c.q
structure NGd (k:Nat) (c:Cfg) (r:Int) (st:NSt):Prop where
 cm:c.May
 rg:0≤r∧r<c.n
 dur:NDur k c r st.recs st.tail
 up:st.up=true→st.tail=[]∧replay st.recs=(st.log,st.sent)
 clk:st.up=true→st.clk=clkOfLog st.log
 held:st.up=true→(st.held.length:Int)≤c.h∧∀ e∈st.held,e.May∧e.r≠r∧e.r<c.n
 wait:st.up=true→Wait st.sent st.wait∧(st.wait.length:Int)=st.clk.get r.toNat - st.sent∧∀ e∈st.wait,e.May∧e.r=r
theorem Ev.May.r5 {l:List Ev} (h:∀ e∈l,e.May):∀ e∈l,0≤e.r∧e.r<5:=fun e he=>(h e he).r
theorem NGd.r5 {k:Nat} {c:Cfg} {r:Int} {st:NSt} (g:NGd k c r st):0≤r∧r<5:=by
 have h1:=g.rg
 have h2:=g.cm.n
 omega
theorem NGd.ok {k:Nat} {c:Cfg} {r:Int} {st:NSt} (g:NGd k c r st) (hk:k≤200):NOk k c r st:=by
 have h5:=g.r5
 have hd:=g.dur
 have hb:=clkOfLog_bd (replay st.recs).1 (Ev.May.r5 hd.revs)
 have hr:=hb r.toNat rM
 have hl:=hd.rlen
 refine ⟨g.cm,g.rg,hd.rm,hd.tl,hd.size,hd.rlen,hd.revs,⟨hd.rsent.1,by have:=hd.rsent.2.1;omega⟩,g.up,fun hu i hi=>?_,fun hu=>⟨(g.held hu).1,fun e he=>((g.held hu).2 e he).1⟩,fun hu=>?_⟩
 ·have:=hb i hi
  rw [(g.up hu).2] at this hl
  simp only at this hl
  rw [g.clk hu]
  omega
 ·obtain ⟨h1,h2,h3⟩:=g.wait hu
  refine ⟨h1,?_,h3⟩
  have:=hd.rsent.2.2
  rw [(g.up hu).2] at this
  simp only at this
  rw [g.clk hu] at h2
  omega
theorem NDur.mono {k k':Nat} {c:Cfg} {r:Int} {recs:List Rcd} {tail:List UInt8} (d:NDur k c r recs tail) (h:k≤k'):NDur k' c r recs tail :=
 ⟨d.rm,d.tl,by have:=d.size;omega,by have:=d.rlen;omega,d.revs,d.num,d.rsent⟩
theorem NGd.mono {k k':Nat} {c:Cfg} {r:Int} {st:NSt} (g:NGd k c r st) (h:k≤k'):NGd k' c r st:=⟨g.cm,g.rg,g.dur.mono h,g.up,g.clk,g.held,g.wait⟩
theorem NGd.down {k:Nat} {c:Cfg} {r:Int} {st:NSt} (cm:c.May) (rg:0≤r∧r<c.n) (d:NDur k c r st.recs st.tail) (h:st.up=false):NGd k c r st :=
 ⟨cm,rg,d,(fun hu=>by rw [h] at hu;cases hu),(fun hu=>by rw [h] at hu;cases hu),(fun hu=>by rw [h] at hu;cases hu),(fun hu=>by rw [h] at hu;cases hu)⟩
theorem NGd.crash {k:Nat} {c:Cfg} {r:Int} {st:NSt} (g:NGd k c r st):NGd k c r st.crash:=NGd.down (st:=st.crash) g.cm g.rg g.dur rfl
theorem NGd.cut {k:Nat} {c:Cfg} {r:Int} {st:NSt} (g:NGd k c r st) (keep:Int):NGd k c r (st.cut keep):=⟨g.cm,g.rg,g.dur,g.up,g.clk,g.held,g.wait⟩
theorem NGd.start {k:Nat} {c:Cfg} {r:Int} {st:NSt} (g:NGd k c r st):NGd k c r (st.start c r).1:=by
 unfold NSt.start
 split
 ·exact g
 ·have h5:=g.r5
  have hd:=g.dur
  have hs:=hd.size
  have hq:=g.cm.q
  obtain ⟨o1,o2⟩:=outOf_len c.q r (replay st.recs).2 h5 hd.rsent.1 _ hd.num (Ev.May.r5 hd.revs) hd.rsent.2.2 rM
  refine ⟨g.cm,g.rg,⟨hd.rm,rcFirst_nil,by simp only [List.length_nil];omega,hd.rlen,hd.revs,hd.num,hd.rsent⟩,fun _=>⟨rfl,rfl⟩,fun _=>rfl,fun _=>⟨by have:=g.cm.h;simp only [List.length_nil];omega,fun e he=>by cases he⟩,fun _=>⟨(outOf_wait ..).1,?_,fun e he=>⟨hd.revs e (o2 e he).1,(o2 e he).2⟩⟩⟩
  have:=hd.rsent.2.1
  simp only
  omega
theorem NDur.app {k:Nat} {c:Cfg} {r:Int} {recs:List Rcd} {x:Rcd} {tail:List UInt8} (d:NDur k c r recs tail) (hx:x.May) (hl:(rpStep (replay recs) x).1.length≤50 * (k+1)) (he:∀ e∈(rpStep (replay recs) x).1,e.May) (hn:NumOk (rpStep (replay recs) x).1)
  (hs:0≤(rpStep (replay recs) x).2∧(rpStep (replay recs) x).2≤(clkOfLog (rpStep (replay recs) x).1).get r.toNat∧(clkOfLog (rpStep (replay recs) x).1).get r.toNat - (rpStep (replay recs) x).2≤c.q):NDur (k+1) c r (recs++[x]) []:=by
 have hb:=(x.bytes_len hx).2
 have hm:=hx.m
 have hs2:=d.size
 refine ⟨fun y hy=>?_,rcFirst_nil,?_,by rw [replay_snoc];exact hl,by rw [replay_snoc];exact he,by rw [replay_snoc];exact hn,by rw [replay_snoc];exact hs⟩
 ·rcases List.mem_append.1 hy with hy | hy
  ·exact d.rm y hy
  ·simp at hy;subst hy;exact hx
 ·rw [rcsB_app,List.length_append]
  have:(rcsB [x]).length=x.bytes.length:=by simp [rcsB]
  simp only [List.length_nil]
  omega
theorem NDur.cutoff {k:Nat} {c:Cfg} {r:Int} {recs:List Rcd} {x:Rcd} {tail:List UInt8} (d:NDur k c r recs tail) (hx:x.May) {m:Nat} (hm:m<x.bytes.length):NDur (k+1) c r recs (x.bytes.take m):=by
 have hb:=(x.bytes_len hx).2
 have hm2:=hx.m
 have hs2:=d.size
 have hl:(x.bytes.take m).length=m:=by rw [List.length_take];omega
 refine ⟨d.rm,rcFirst_cut x hx _ (x.bytes.drop m) (List.take_append_drop ..).symm ?_,by omega,by have:=d.rlen;omega,d.revs,d.num,d.rsent⟩
 intro h
 have:=congrArg List.length h
 rw [List.length_drop] at this
 simp at this
 omega
theorem NGd.write {k:Nat} {c:Cfg} {r:Int} {st:NSt} (g:NGd k c r st) (x:Rcd) (hx:x.May) (da:NDur (k+1) c r (st.recs++[x]) []) :
  NDur (k+1) c r (st.write x).1.recs (st.write x).1.tail∧((st.write x).2≠0→NGd (k+1) c r (st.write x).1):=by
 cases hcut:st.cuts with
 | false =>
  rw [NSt.write_f hcut]
  refine ⟨⟨da.rm,g.dur.tl,?_,da.rlen,da.revs,da.num,da.rsent⟩,fun h=>absurd rfl h⟩
  have hb:=(x.bytes_len hx).2
  have hm2:=hx.m
  have hs2:=g.dur.size
  show (rcsB (st.recs++[x])).length+st.tail.length≤_
  rw [rcsB_app,List.length_append]
  have:(rcsB [x]).length=x.bytes.length:=by simp [rcsB]
  omega
 | true =>
  rw [NSt.write_t hcut]
  simp only
  split
  ·exact ⟨da,fun _=>NGd.down (st:={ st with up:=false,cuts:=false,recs:=st.recs++[x],tail:=[] }) g.cm g.rg da rfl⟩
  ·rename_i hlt
   have dc:=g.dur.cutoff hx (m:=keptOf st.keep x.bytes.length) rM
   exact ⟨dc,fun _=>NGd.down (st:={ st with up:=false,cuts:=false,tail:=x.bytes.take (keptOf st.keep x.bytes.length) }) g.cm g.rg dc rfl⟩
theorem write_same {st:NSt} {x:Rcd} (h:(st.write x).2=0):(st.write x).1={ st with recs:=st.recs++[x] }:=(st.write_up x).1 h
theorem NGd.edit {k:Nat} {c:Cfg} {r:Int} {st:NSt} (g:NGd k c r st) (hk:k≤198) (e:Ed):NGd (k+1) c r (st.edit c r e).1:=by
 unfold NSt.edit
 by_cases hE:st.editE c r e≠0
 ·rw [if_pos hE];exact g.mono rM
 rw [if_neg hE]
 have hE:st.editE c r e=0:=by simpa using hE
 have ok:=g.ok rM
 have h5:=g.r5
 unfold NSt.editE at hE
 split at hE
 ·cases hE
 rename_i hu0
 have hu:st.up=true:=by cases h:st.up with
  | true=>rfl
  | false=>exact absurd h hu0
 split at hE
 ·rename_i h;exact absurd hE h
 rename_i hchk
 have hchk:chkC c.l c.p (lvList (lvOf st.log)) e=0:=by simpa using hchk
 split at hE
 ·cases hE
 rename_i hq
 split at hE
 ·cases hE
 rename_i hsp
 have hn:st.clk.get r.toNat<1048576:=by omega
 have hh:heightP st.log st.clk≤16777216:=by omega
 have hmay:=NSt.mk1_may ok rM hu (chkC_err hchk) hn hh
 obtain ⟨ev,hev⟩:∃ ev,ev=st.mk1 r e:=⟨_,rfl⟩
 have hevr:ev.r=r:=by rw [hev];rfl
 have hevn:ev.n=st.clk.get r.toNat+1:=by rw [hev];rfl
 rw [← hev] at hmay ⊢
 have hx:(rcEv 1 r [ev]).May:=rcEv_may (.inl ⟨rfl,rfl⟩) h5 (by simp) (by intro y hy;simp at hy;subst hy;exact hmay)
 have hrp:=(g.up hu).2
 have hclk:=g.clk hu
 have hstep:rpStep (replay st.recs) (rcEv 1 r [ev])=(st.log++[ev],st.sent):=by rw [hrp];rfl
 have hd:=g.dur
 have hl:=hd.rlen
 have hrv:=hd.revs
 have hnum:=hd.num
 have hsn:=hd.rsent
 rw [hrp] at hl hrv hnum hsn
 simp only at hl hrv hnum hsn
 have hcl:clkOfLog (st.log++[ev])=st.clk.set r.toNat (st.clk.get r.toNat+1):=by rw [clkOfLog_snoc,← hclk];unfold clkStep;rw [hevr]
 have hgr:(clkOfLog (st.log++[ev])).get r.toNat=st.clk.get r.toNat+1:=by rw [hcl,getset _ _ _ _ rM,if_pos rfl]
 obtain ⟨hw1,hw2,hw3⟩:=g.wait hu
 rw [← hclk] at hsn
 have da:NDur (k+1) c r (st.recs++[rcEv 1 r [ev]]) []:=by
  refine hd.app hx ?_ ?_ ?_ ?_ <;> rw [hstep] <;> simp only
  ·rw [List.length_append,List.length_singleton];omega
  ·intro y hy
   rcases List.mem_append.1 hy with hy | hy
   ·exact hrv y hy
   ·simp at hy;subst hy;exact hmay
  ·refine NumOk.app.2 ⟨hnum,?_,trivial⟩
   rw [← hclk,hevr];exact hevn
  ·rw [hgr];omega
 obtain ⟨gw1,gw2⟩:=g.write _ hx da
 by_cases hwe:(st.write (rcEv 1 r [ev])).2≠0
 ·rw [if_pos hwe];exact gw2 hwe
 rw [if_neg hwe]
 have hwe:(st.write (rcEv 1 r [ev])).2=0:=by simpa using hwe
 rw [write_same hwe] at gw1 ⊢
 have hadd:(addR c.q st.sent st.wait ev).2=st.wait++[ev]:=by unfold addR;rw [if_neg rM,if_pos rM]
 refine ⟨g.cm,g.rg,gw1,fun _=>⟨(g.up hu).1,by show replay (st.recs++[rcEv 1 r [ev]])=_;rw [replay_snoc,hstep]⟩,fun _=>hcl.symm,fun _=>g.held hu,fun _=>?_⟩
 show Wait st.sent (addR c.q st.sent st.wait ev).2∧((addR c.q st.sent st.wait ev).2.length:Int)=(st.clk.set r.toNat (st.clk.get r.toNat+1)).get r.toNat - st.sent∧∀ e∈(addR c.q st.sent st.wait ev).2,e.May∧e.r=r
 rw [hadd,getset _ _ _ _ rM,if_pos rfl,List.length_append,List.length_singleton]
 refine ⟨hw1.snoc rM,by omega,fun y hy=>?_⟩
 rcases List.mem_append.1 hy with hy | hy
 ·exact hw3 y hy
 ·simp at hy;subst hy;exact ⟨hmay,hevr⟩
theorem kind_may {kd r s:Int} {l:List Ev} (hk:kd=3∧l=[]∨kd=4) (hr:0≤r∧r<5) (hs:0≤s∧s≤1048576) (hl:l.length≤4096) (hm:∀ e∈l,e.May):(⟨kd,r,s,Clk.zero,l⟩:Rcd).May:=by
 refine ⟨by show 1≤kd∧kd≤6;omega,hr,hs,hl,fun i hi=>?_,fun h=>?_,fun _=>rfl,fun h=>?_,hm,fun h=>?_⟩
 ·show 0≤Clk.zero.get i∧Clk.zero.get i≤1048576
  rw [zero_get];omega
 ·exfalso;apply h
  show kd=3∨kd=4
  omega
 ·rcases hk with ⟨_,rfl⟩ | hk
  ·rfl
  ·exfalso;apply h
   show kd=1∨kd=2∨kd=5∨kd=4
   omega
 ·have:kd=1:=h
  omega
theorem NGd.state {k:Nat} {c:Cfg} {r:Int} {st:NSt} (g:NGd k c r st) (hk:k≤198):NGd (k+1) c r (st.state r).1:=by
 unfold NSt.state
 split
 ·exact g.mono rM
 rename_i hu0
 have hu:st.up=true:=by cases h:st.up with
  | true=>rfl
  | false=>exact absurd h hu0
 split
 ·exact g.mono rM
 rename_i h4
 have ok:=g.ok rM
 have h5:=g.r5
 have hsent:=ok.sent hu
 have hrp:=(g.up hu).2
 have hd:=g.dur
 have hl:=hd.rlen
 have hrv:=hd.revs
 have hnum:=hd.num
 have hsn:=hd.rsent
 rw [hrp] at hl hrv hnum hsn
 simp only at hl hrv hnum hsn
 have hx:(⟨4,r,st.sent,Clk.zero,st.log⟩:Rcd).May:=kind_may (.inr rfl) h5 hsent rM hrv
 have hstep:rpStep (replay st.recs) ⟨4,r,st.sent,Clk.zero,st.log⟩=(st.log,st.sent):=rfl
 have da:NDur (k+1) c r (st.recs++[⟨4,r,st.sent,Clk.zero,st.log⟩]) []:=by
  refine hd.app hx ?_ ?_ ?_ ?_ <;> rw [hstep] <;> simp only
  ·omega
  ·exact hrv
  ·exact hnum
  ·exact hsn
 obtain ⟨gw1,gw2⟩:=g.write _ hx da
 by_cases hwe:(st.write ⟨4,r,st.sent,Clk.zero,st.log⟩).2≠0
 ·rw [if_pos hwe];exact gw2 hwe
 rw [if_neg hwe]
 have hwe:(st.write ⟨4,r,st.sent,Clk.zero,st.log⟩).2=0:=by simpa using hwe
 simp only
 rw [write_same hwe] at gw1 ⊢
 exact ⟨g.cm,g.rg,gw1,fun _=>⟨(g.up hu).1,by show replay (st.recs++[_])=_;rw [replay_snoc,hstep]⟩,g.clk,g.held,g.wait⟩
theorem NGd.pushed {k:Nat} {c:Cfg} {r:Int} {st:NSt} (g:NGd k c r st) (hk:k≤198) (hu:st.up=true) (upto:Int):NGd (k+1) c r (st.pushed r upto).1:=by
 unfold NSt.pushed
 simp only
 obtain ⟨s,hs⟩:∃ s,s=max st.sent (min upto (st.clk.get r.toNat)):=⟨_,rfl⟩
 rw [← hs]
 by_cases hse:s=st.sent
 ·rw [if_pos hse];exact g.mono rM
 rw [if_neg hse]
 have ok:=g.ok rM
 have h5:=g.r5
 have hsent:=ok.sent hu
 have hclkb:=ok.clkB rM hu r.toNat rM
 have hrp:=(g.up hu).2
 have hclk:=g.clk hu
 have hd:=g.dur
 have hl:=hd.rlen
 have hrv:=hd.revs
 have hnum:=hd.num
 have hsn:=hd.rsent
 rw [hrp] at hl hrv hnum hsn
 simp only at hl hrv hnum hsn
 rw [← hclk] at hsn
 obtain ⟨hw1,hw2,hw3⟩:=g.wait hu
 have hx:(⟨3,r,s,Clk.zero,[]⟩:Rcd).May:=kind_may (.inl ⟨rfl,rfl⟩) h5 rM (by simp) (by simp)
 have hstep:rpStep (replay st.recs) ⟨3,r,s,Clk.zero,[]⟩=(st.log,s):=by rw [hrp];rfl
 have da:NDur (k+1) c r (st.recs++[⟨3,r,s,Clk.zero,[]⟩]) []:=by
  refine hd.app hx ?_ ?_ ?_ ?_ <;> rw [hstep] <;> simp only
  ·omega
  ·exact hrv
  ·exact hnum
  ·rw [← hclk];omega
 obtain ⟨gw1,gw2⟩:=g.write _ hx da
 by_cases hwe:(st.write ⟨3,r,s,Clk.zero,[]⟩).2≠0
 ·rw [if_pos hwe];exact gw2 hwe
 rw [if_neg hwe]
 have hwe:(st.write ⟨3,r,s,Clk.zero,[]⟩).2=0:=by simpa using hwe
 simp only
 rw [write_same hwe] at gw1 ⊢
 have hsr:sentR st.sent st.wait s=s:=by unfold sentR;omega
 refine ⟨g.cm,g.rg,gw1,fun _=>⟨(g.up hu).1,?_⟩,g.clk,g.held,fun _=>?_⟩
 ·show replay (st.recs++[_])=(st.log,sentR st.sent st.wait s)
  rw [replay_snoc,hstep,hsr]
 ·show Wait (sentR st.sent st.wait s) (st.wait.drop (sentR st.sent st.wait s - st.sent).toNat)∧((st.wait.drop (sentR st.sent st.wait s - st.sent).toNat).length:Int)=st.clk.get r.toNat - sentR st.sent st.wait s∧∀ e∈st.wait.drop (sentR st.sent st.wait s - st.sent).toNat,e.May∧e.r=r
  rw [hsr]
  have hdw:=hw1.drop (s - st.sent).toNat rM
  rw [show st.sent+(((s - st.sent).toNat:Nat):Int)=s by omega] at hdw
  exact ⟨hdw,by rw [List.length_drop];omega,fun e he=>hw3 e (List.mem_of_mem_drop he)⟩
theorem drainL_mem (c:Clk) (X:List Ev):(∀ e∈(drainL c X).1,e∈X)∧(∀ e∈(drainL c X).2.1,e∈X)∧(drainL c X).1.length+(drainL c X).2.1.length≤X.length∧numC c (drainL c X).1∧(drainL c X).2.2=(drainL c X).1.foldl clkStep c:=by
 rw [drainL_eq]
 have hd:Dst (freshL c X):=freshL_dst c _ [] List.Pairwise.nil
 have h1:=drain_len c _ hd
 have h2:=freshL_len c X
 exact ⟨fun e he=>freshL_mem c X e (drain_mem c _ hd e he),fun e he=>freshL_mem c X e ((drain_sub c _ hd).subset he),by omega,(drain_num c _ hd).1,(drain_num c _ hd).2⟩
theorem NGd.events {k:Nat} {c:Cfg} {r:Int} {st:NSt} (g:NGd k c r st) (hk:k≤198) (hu:st.up=true) {l:List Ev} (hl20:l.length≤20) (hlm:∀ e∈l,e.May∧e.r≠r∧e.r<c.n):NGd (k+1) c r (st.eventsC c r l).1:=by
 unfold NSt.eventsC
 obtain ⟨m1,m2,m3,m4,m5⟩:=drainL_mem st.clk (st.held++l)
 obtain ⟨hh1,hh2⟩:=g.held hu
 have hX:∀ e∈st.held++l,e.May∧e.r≠r∧e.r<c.n:=fun e he=>(List.mem_append.1 he).elim (hh2 e) (hlm e)
 have hch:=g.cm.h
 rw [List.length_append] at m3
 obtain ⟨⟨D,R,C⟩,hD⟩:∃ q,drainL st.clk (st.held++l)=q:=⟨_,rfl⟩
 rw [hD] at m1 m2 m3 m4 m5 ⊢
 simp only at m1 m2 m3 m4 m5 ⊢
 by_cases h1:c.h<R.length
 ·rw [if_pos h1];exact g.mono rM
 rw [if_neg h1]
 have hheld:(R.length:Int)≤c.h∧∀ e∈R,e.May∧e.r≠r∧e.r<c.n:=⟨by omega,fun e he=>hX e (m2 e he)⟩
 have hDm:∀ e∈D,e.May:=fun e he=>(hX e (m1 e he)).1
 have hDr:=Ev.May.r5 hDm
 have h5:=g.r5
 have hclk:=g.clk hu
 have hw:=g.wait hu
 have hrp:=(g.up hu).2
 have hd:=g.dur
 have hl:=hd.rlen
 have hrv:=hd.revs
 have hnum:=hd.num
 have hsn:=hd.rsent
 rw [hrp] at hl hrv hnum hsn
 simp only at hl hrv hnum hsn
 have hown:C.get r.toNat=st.clk.get r.toNat:=by
  rw [m5]
  refine fold_get_ne _ _ _ hDr (fun e he=>?_)
  have h1:=(hX e (m1 e he)).2.1
  have h2:=hDr e he
  omega
 by_cases h2:D=[]
 ·rw [if_pos h2]
  subst h2
  have hC:C=st.clk:=m5
  subst hC
  exact ⟨g.cm,g.rg,g.dur.mono rM,g.up,g.clk,fun _=>hheld,g.wait⟩
 rw [if_neg h2]
 have hx:(rcEv 2 r D).May:=rcEv_may (.inr (.inl rfl)) h5 rM hDm
 have hstep:rpStep (replay st.recs) (rcEv 2 r D)=(st.log++D,st.sent):=by rw [hrp];rfl
 have hcl:clkOfLog (st.log++D)=C:=by rw [clkOfLog_app,← hclk,m5]
 have da:NDur (k+1) c r (st.recs++[rcEv 2 r D]) []:=by
  refine hd.app hx ?_ ?_ ?_ ?_ <;> rw [hstep] <;> simp only
  ·rw [List.length_append];omega
  ·intro y hy
   rcases List.mem_append.1 hy with hy | hy
   ·exact hrv y hy
   ·exact hDm y hy
  ·exact NumOk.app.2 ⟨hnum,by rw [← hclk];exact m4⟩
  ·rw [hcl,hown,hclk];exact hsn
 obtain ⟨gw1,gw2⟩:=g.write _ hx da
 by_cases hwe:(st.write (rcEv 2 r D)).2≠0
 ·rw [if_pos hwe];exact gw2 hwe
 rw [if_neg hwe]
 have hwe:(st.write (rcEv 2 r D)).2=0:=by simpa using hwe
 simp only
 rw [write_same hwe] at gw1 ⊢
 refine ⟨g.cm,g.rg,gw1,fun _=>⟨(g.up hu).1,by show replay (st.recs++[_])=_;rw [replay_snoc,hstep]⟩,fun _=>hcl.symm,fun _=>hheld,fun _=>?_⟩
 show Wait st.sent st.wait∧(st.wait.length:Int)=C.get r.toNat - st.sent∧_
 rw [hown]
 exact hw
theorem NGd.take {k:Nat} {c:Cfg} {r:Int} {st:NSt} (g:NGd k c r st) (hk:k≤198) {f:Rcd×Int} (hf:f.2=0→f.1.FMay):NGd (k+1) c r (st.takeC c r f).1:=by
 unfold NSt.takeC
 split
 ·exact g.mono rM
 rename_i hu0
 have hu:st.up=true:=by cases h:st.up with
  | true=>rfl
  | false=>exact absurd h hu0
 split
 ·exact g.mono rM
 rename_i h2
 have hm:=hf (by simpa using h2)
 split
 ·exact g.mono rM
 split
 ·exact g.mono rM
 rename_i hany
 split
 ·exact g.pushed hk hu _
 split
 ·refine g.events hk hu hm.m fun e he=>?_
  have hne:¬ (e.r=r∨c.n≤e.r):=fun h=>hany (List.any_eq_true.2 ⟨e,he,by simpa using h⟩)
  exact ⟨hm.l e he,fun h=>hne (.inl h),by omega⟩
 ·exact g.mono rM
theorem NGd.fresh {c:Cfg} {r:Int} (hc:c.May) (hr:0≤r∧r<c.n):NGd 0 c r NSt.fresh:=by
 have hz:(clkOfLog (replay NSt.fresh.recs).1).get r.toNat=0:=zero_get _
 have hq:=hc.q
 refine NGd.down (st:=NSt.fresh) hc hr ⟨(fun x hx=>by cases hx),rfl,Nat.le_refl _,Nat.le_refl _,(fun e he=>by cases he),trivial,?_⟩ rfl
 rw [hz]
 refine ⟨Int.le_refl _,Int.le_refl _,?_⟩
 show (0:Int) - 0≤c.q
 omega
end
end Go.Proofs.YtogcfijlhpaeeaaGreat
