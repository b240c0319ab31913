/- Texts, one behind the other. No condition. -/
import Derived.Test.YtogcfijlhpaeeaaGreatChecked
import Derived.Test.YtogcfijlhpaeeaaGreatRows
import Derived.Test.YtogcfijlhpaeeaaGreatZbndogacj
import Derived.Test.YtogcfijlhpaeeaaGreatZccaibcad
import Derived.Test.YtogcfijlhpaeeaaGreatZehjcikgl
import Derived.Test.YtogcfijlhpaeeaaGreatZmnaoofmf
open Go.RowKit
set_option linter.unusedSimpArgs false
set_option linter.unusedVariables false
set_option linter.unusedSectionVars false
set_option maxHeartbeats 32000000
namespace Go.Proofs.YtogcfijlhpaeeaaGreat
section
theorem fresh_skip (c:Clk) (acc:List Ev):∀ l:List Ev,(∀ e∈l,(acc.any fun y=>decide (y.mk_=e.mk_))=true∨c.has e.r e.n=true)→l.foldl (freshS c) acc=acc
 | [],_=>rfl
 | e::l,h=>by
  have h1:=h e (List.mem_cons_self ..)
  have e1:freshS c acc e=acc:=by unfold freshS;rw [if_pos h1]
  rw [List.foldl_cons,e1]
  exact fresh_skip c acc l (fun x hx=>h x (List.mem_cons_of_mem _ hx))
theorem drainL_twice (c:Clk) (H l:List Ev):drainL (drainL c (H++l)).2.2 ((drainL c (H++l)).2.1++l)=([],(drainL c (H++l)).2.1,(drainL c (H++l)).2.2):=by
 simp only [drainL_eq]
 have hd:Dst (freshL c (H++l)):=freshL_dst c _ [] List.Pairwise.nil
 obtain ⟨⟨D,R,C⟩,hq⟩:∃ q,drain c (freshL c (H++l))=q:=⟨_,rfl⟩
 have hsub:=drain_sub c _ hd
 have hleft:=drain_left c _ hd (freshL_has c _)
 have hdone:=drain_done c _ hd
 have hle:=drain_le c _ hd
 have hcnt:=fun k=>drain_cnt k c _ hd
 have hend:=drain_end c _ hd
 rw [hq] at hsub hleft hdone hle hcnt hend ⊢
 simp only at hsub hleft hdone hle hcnt hend ⊢
 have hR:freshL C R=R:=freshL_id (hd.sublist hsub) hleft
 have hfr:freshL C (R++l)=R:=by
  unfold freshL
  rw [List.foldl_append]
  have:R.foldl (freshS C) []=R:=hR
  rw [this]
  refine fresh_skip C R l fun e he=>?_
  by_cases hc:C.has e.r e.n=true
  ·exact .inr hc
  ·left
   have hc2:c.has e.r e.n=false:=by
    cases h:c.has e.r e.n with
    | false=>rfl
    | true=>exact absurd (has_mono hle h) hc
   have h1:=freshL_any c (H++l) e hc2
   have h2:((H++l).any fun y=>decide (y.mk_=e.mk_))=true:=List.any_eq_true.2 ⟨e,List.mem_append_right _ he,by simp⟩
   rw [h2] at h1
   obtain ⟨y,hy,hye⟩:=List.any_eq_true.1 h1
   have hye:y.mk_=e.mk_:=by simpa using hye
   have hcy:=hcnt e.mk_
   have hpos:0<cnt e.mk_ (freshL c (H++l)):=List.countP_pos_iff.2 ⟨y,hy,by simpa using hye⟩
   have:0<cnt e.mk_ D∨0<cnt e.mk_ R:=by omega
   rcases this with hD | hRr
   ·exfalso
    apply hc
    obtain ⟨z,hz,hze⟩:=List.countP_pos_iff.1 hD
    have hze:z.mk_=e.mk_:=by simpa using hze
    have:=hdone z hz
    have e1:z.r=e.r:=congrArg Mk.r hze
    have e2:z.n=e.n:=congrArg Mk.n hze
    rwa [e1,e2] at this
   ·obtain ⟨z,hz,hze⟩:=List.countP_pos_iff.1 hRr
    exact List.any_eq_true.2 ⟨z,hz,hze⟩
 rw [hfr]
 exact drain_stop hend
theorem write_down {st:NSt} {x:Rcd} (h:(st.write x).2≠0):(st.write x).1.up=false:=(st.write_up x).2 h
theorem takeC_down {c:Cfg} {r:Int} {st:NSt} (h:st.up=false) (f:Rcd×Int):st.takeC c r f=(st,18):=by unfold NSt.takeC;rw [if_pos h]
theorem pushed_twice {r:Int} {st:NSt} (u:Int) (hw:st.wait.length=st.clk.get r.toNat - st.sent):(st.pushed r u).2=18∧(st.pushed r u).1.up=false∨(st.pushed r u).2=0∧(st.pushed r u).1.up=st.up∧(st.pushed r u).1.pushed r u=((st.pushed r u).1,0):=by
 unfold NSt.pushed
 simp only
 obtain ⟨s,hs⟩:∃ s,s=max st.sent (min u (st.clk.get r.toNat)):=⟨_,rfl⟩
 rw [← hs]
 by_cases hse:s=st.sent
 ·rw [if_pos hse]
  refine .inr ⟨rfl,rfl,?_⟩
  simp only
  rw [if_pos rM]
 rw [if_neg hse]
 by_cases hwe:(st.write ⟨3,r,s,Clk.zero,[]⟩).2≠0
 ·rw [if_pos hwe];exact .inl ⟨rfl,write_down hwe⟩
 rw [if_neg hwe]
 have hwe:(st.write ⟨3,r,s,Clk.zero,[]⟩).2=0:=by simpa using hwe
 rw [write_same hwe]
 have hsr:sentR st.sent st.wait s=s:=by unfold sentR;omega
 refine .inr ⟨rfl,rfl,?_⟩
 simp only
 rw [hsr,if_pos rM]
theorem events_twice {c:Cfg} {r:Int} {st:NSt} (l:List Ev):(st.eventsC c r l).2=18∧(st.eventsC c r l).1.up=false∨(st.eventsC c r l).1.up=st.up∧(st.eventsC c r l).1.eventsC c r l=st.eventsC c r l:=by
 have ht:=drainL_twice st.clk st.held l
 obtain ⟨⟨D,R,C⟩,hq⟩:∃ q,drainL st.clk (st.held++l)=q:=⟨_,rfl⟩
 rw [hq] at ht
 simp only at ht
 have e0:st.eventsC c r l=(if c.h<R.length then (st,22) else if D=[] then ({ st with clk:=C,held:=R },0) else if (st.write (rcEv 2 r D)).2≠0 then ((st.write (rcEv 2 r D)).1,18) else ({ (st.write (rcEv 2 r D)).1 with clk:=C,held:=R,log:=st.log++D },0)):=by
  unfold NSt.eventsC;rw [hq]
 by_cases h1:c.h<R.length
 ·rw [if_pos h1] at e0
  refine .inr ⟨by rw [e0],?_⟩
  rw [e0]
  exact e0
 rw [if_neg h1] at e0
 have h2nd:∀ s2:NSt,s2.clk=C→s2.held=R→s2.eventsC c r l=({ s2 with clk:=C,held:=R },0):=fun s2 hc hh=>by
  unfold NSt.eventsC
  rw [hc,hh,ht]
  simp only
  rw [if_neg h1]
  simp
 by_cases h2:D=[]
 ·rw [if_pos h2] at e0
  refine .inr ⟨by rw [e0],?_⟩
  rw [e0]
  simp only
  rw [h2nd _ rfl rfl]
 rw [if_neg h2] at e0
 by_cases hwe:(st.write (rcEv 2 r D)).2≠0
 ·rw [if_pos hwe] at e0
  rw [e0]
  exact .inl ⟨rfl,write_down hwe⟩
 rw [if_neg hwe] at e0
 have hwe:(st.write (rcEv 2 r D)).2=0:=by simpa using hwe
 rw [write_same hwe] at e0
 refine .inr ⟨by rw [e0],?_⟩
 rw [e0]
 simp only
 rw [h2nd _ rfl rfl]
theorem node_twice {k:Nat} {c:Cfg} {r:Int} {st:NSt} (g:NGd k c r st) (f:Rcd×Int):(st.takeC c r f).1.takeC c r f=st.takeC c r f:=by
 by_cases hu0:st.up=false
 ·rw [takeC_down hu0];exact takeC_down hu0 f
 have hu:st.up=true:=by cases h:st.up with
  | true=>rfl
  | false=>exact absurd h hu0
 have e0:∀ s:NSt,s.up=true→s.takeC c r f=(if f.2≠0 then (s,f.2) else if f.1.r≠r then (s,23) else if (f.1.l.any fun e=>decide (e.r=r∨c.n≤e.r))=true then (s,23) else if f.1.kind=2 then s.pushed r f.1.upto else if f.1.kind=4 then s.eventsC c r f.1.l else (s,23)):=fun s hs=>by
  unfold NSt.takeC
  rw [if_neg (by rw [hs];simp)]
 have e1:=e0 st hu
 by_cases h1:f.2≠0
 ·rw [if_pos h1] at e1;rw [e1];exact e1
 rw [if_neg h1] at e1
 by_cases h2:f.1.r≠r
 ·rw [if_pos h2] at e1;rw [e1];exact e1
 rw [if_neg h2] at e1
 by_cases h3:(f.1.l.any fun e=>decide (e.r=r∨c.n≤e.r))=true
 ·rw [if_pos h3] at e1;rw [e1];exact e1
 rw [if_neg h3] at e1
 by_cases h4:f.1.kind=2
 ·rw [if_pos h4] at e1
  rw [e1]
  rcases pushed_twice f.1.upto (g.wait hu).2.1 with ⟨p1,p2⟩ | ⟨p1,p2,p3⟩
  ·rw [takeC_down p2,← p1]
  ·rw [e0 _ (by rw [p2,hu]),if_neg h1,if_neg h2,if_neg h3,if_pos h4,p3,← p1]
 rw [if_neg h4] at e1
 by_cases h5:f.1.kind=4
 ·rw [if_pos h5] at e1
  rw [e1]
  rcases events_twice (c:=c) (r:=r) (st:=st) f.1.l with ⟨p1,p2⟩ | ⟨p2,p3⟩
  ·rw [takeC_down p2,← p1]
  ·rw [e0 _ (by rw [p2,hu]),if_neg h1,if_neg h2,if_neg h3,if_neg h4,if_pos h5,p3]
 ·rw [if_neg h5] at e1;rw [e1];exact e1
theorem put_twice (most:Int) (s:Sf) (cut:Nat) (l:List Ev) (h0:(s.putS most l).1=0):(⟨s.all++(s.putS most l).2,cut⟩:Sf).putS most l=(0,[]):=by
 unfold Sf.putS putC at h0 ⊢
 split at h0
 ·cases h0
 rename_i hg
 have hg:gapC s.all.length l=true:=by
  cases h:gapC s.all.length l with
  | true=>rfl
  | false=>exact absurd h hg
 split at h0
 ·cases h0
 rename_i hm
 have e2:(if gapC (↑s.all.length) l=false then ((20:Int),([]:List Ev)) else if fresh (↑s.all.length) l≠[]∧most<((s.all.length - s.cut:Nat):Int)+(fresh (↑s.all.length) l).length then (21,[]) else (0,fresh (↑s.all.length) l)).2=fresh s.all.length l:=by
  rw [if_neg (by rw [hg];simp),if_neg hm]
 rw [e2]
 simp only
 obtain ⟨n,hn⟩:∃ n:Nat,n=(s.all++fresh s.all.length l).length:=⟨_,rfl⟩
 rw [← hn]
 rw [List.length_append] at hn
 have hgap:gapC n l=true∧fresh n l=[]:=by
  have hG:=(gapC_iff s.all.length l).1 hg
  by_cases hl:l=[]
  ·subst hl
   exact ⟨rfl,rfl⟩
  have hG2:=hG (List.length_pos_iff.2 hl)
  obtain ⟨h1,h2⟩:=hG2
  have hpos:=List.length_pos_iff.2 hl
  have hcnt:(l[0]'hpos).n+l.length≤s.all.length+(fresh s.all.length l).length+1:=by
   obtain ⟨j0,hj0⟩:∃ j0:Nat,j0=min l.length ((s.all.length:Int) - (l[0]'hpos).n+1).toNat:=⟨_,rfl⟩
   have:=fresh_drop hG j0 rM (fun i hi hij=>by rw [h2 i hi];omega) (by
    by_cases hjl:j0=l.length
    ·exact .inl hjl
    ·exact .inr ⟨by omega,by rw [h2 j0 rM];omega⟩)
   rw [this,List.length_drop]
   omega
  refine ⟨(gapC_iff n l).2 fun h=>⟨by omega,h2⟩,?_⟩
  unfold fresh
  rw [List.filter_eq_nil_iff]
  intro e he
  obtain ⟨j,hj,rfl⟩:=List.getElem_of_mem he
  have:=h2 j hj
  simp only [decide_eq_true_eq]
  omega
 rw [if_neg (by rw [hgap.1];simp),hgap.2,if_neg (by simp)]
theorem hwrite_down {st:HSt} {x:Rcd} (h:(st.write x).2≠0):(st.write x).1.up=false:=(st.write_up x).2 h
theorem htake_down {c:Cfg} {st:HSt} (h:st.up=false) (f:Rcd×Int):st.take c f=(st,-1,(Rcd.zero,18)):=by unfold HSt.take;rw [if_pos h]
theorem pushC_twice {most:Int} {p:PSt} {r:Int} {l:List Ev} (h0:(p.pushC most r l).2.1=0):((p.pushC most r l).2.2.pushC most r l).1=(p.pushC most r l).1∧((p.pushC most r l).2.2.pushC most r l).2.1=0∧(p.pushC most r l).1=(p.pushC most r l).2.2.lenF r.toNat:=by
 by_cases hh:¬ p.has r∨(l.any fun e=>decide (e.r≠r))=true
 ·unfold PSt.pushC at h0;rw [if_pos hh] at h0;cases h0
 have hp:p.has r:=by
  by_cases hr:p.has r
  ·exact hr
  ·exact absurd (.inl hr) hh
 have h1:=hp.1
 have h2:=hp.2
 have hlt:r.toNat<p.sf.length:=by omega
 by_cases hq:((p.sf.getD r.toNat Sf.none).putS most l).1≠0
 ·unfold PSt.pushC at h0;rw [if_neg hh,if_pos hq] at h0;exact absurd h0 hq
 have hq0:((p.sf.getD r.toNat Sf.none).putS most l).1=0:=by simpa using hq
 obtain ⟨s,hs⟩:∃ s,s=p.sf.getD r.toNat Sf.none:=⟨_,rfl⟩
 have e1:p.pushC most r l=(((s.all++(s.putS most l).2).length:Int),0,(⟨p.told,p.sf.set r.toNat ⟨s.all++(s.putS most l).2,s.cut⟩⟩:PSt).cutAt r.toNat):=by
  unfold PSt.pushC
  rw [if_neg hh,if_neg hq,hs]
 rw [← hs] at hq0
 rw [e1]
 simp only
 obtain ⟨p2,hp2⟩:∃ p2,p2=(⟨p.told,p.sf.set r.toNat ⟨s.all++(s.putS most l).2,s.cut⟩⟩:PSt).cutAt r.toNat:=⟨_,rfl⟩
 rw [← hp2]
 have hl2:p2.sf.length=p.sf.length:=by rw [hp2,cutAt_len];exact List.length_set ..
 have hg2:p2.sf.getD r.toNat Sf.none=(⟨s.all++(s.putS most l).2,s.cut⟩:Sf).to (leastR p.told r.toNat):=by
  rw [hp2,cutAt_get]
  show (if _ then Sf.to ((p.sf.set r.toNat _).getD r.toNat Sf.none) _ else _)=_
  rw [if_pos ⟨rfl,by show r.toNat<(p.sf.set _ _).length;rw [List.length_set];exact hlt⟩,getD_set,if_pos ⟨rfl,hlt⟩]
 have hput:=put_twice most s (max (s.cut:Int) (min (leastR p.told r.toNat) (s.all++(s.putS most l).2).length)).toNat l hq0
 have hh2:¬ (¬ p2.has r∨(l.any fun e=>decide (e.r≠r))=true):=fun h=>hh (h.imp (fun hn=>fun hp=>hn (by unfold PSt.has at *;rw [hl2];exact hp)) id)
 have hput2:(p2.sf.getD r.toNat Sf.none).putS most l=(0,[]):=by rw [hg2];exact hput
 have hall:(p2.sf.getD r.toNat Sf.none).all=s.all++(s.putS most l).2:=by rw [hg2];rfl
 have e2:p2.pushC most r l=(((s.all++(s.putS most l).2).length:Int),0,(⟨p2.told,p2.sf.set r.toNat ⟨(p2.sf.getD r.toNat Sf.none).all++((p2.sf.getD r.toNat Sf.none).putS most l).2,(p2.sf.getD r.toNat Sf.none).cut⟩⟩:PSt).cutAt r.toNat):=by
  unfold PSt.pushC
  rw [if_neg hh2,hput2,if_neg (by simp),hall,List.append_nil]
 rw [e2]
 refine ⟨rfl,rfl,?_⟩
 unfold PSt.lenF
 rw [if_pos rM,hall]
theorem join_join (a b:Clk):(a.join b).join b=a.join b:=by
 unfold Clk.join
 simp only [Clk.mk.injEq]
 omega
theorem hub_twice {k:Nat} {c:Cfg} {st:HSt} (g:HGd k c st) (f:Rcd×Int):(st.take c f).1.take c f=st.take c f:=by
 by_cases hu0:st.up=false
 ·rw [htake_down hu0];exact htake_down hu0 f
 have hu:st.up=true:=by cases h:st.up with
  | true=>rfl
  | false=>exact absurd h hu0
 have hrp:=(g.up hu).2
 have hset:=hreplay_set c st.recs
 have hpo:=g.dur.post
 rw [hrp] at hset hpo
 have e0:∀ s:HSt,s.up=true→s.take c f=(if f.2≠0 then (s,-1,(Rcd.zero,f.2)) else if c.n≤f.1.r then (s,-1,(Rcd.zero,23)) else if f.1.kind=1 then s.push c f.1.r f.1.l else if f.1.kind=3 then (s,s.fetch f.1.r f.1.c) else if f.1.kind=5 then ((s.ack f.1.r f.1.c).1,-1,(Rcd.zero,(s.ack f.1.r f.1.c).2)) else (s,-1,(Rcd.zero,23))):=fun s hs=>by
  unfold HSt.take
  rw [if_neg (by rw [hs];simp)]
 have e1:=e0 st hu
 by_cases h1:f.2≠0
 ·rw [if_pos h1] at e1;rw [e1];exact e1
 rw [if_neg h1] at e1
 by_cases h2:c.n≤f.1.r
 ·rw [if_pos h2] at e1;rw [e1];exact e1
 rw [if_neg h2] at e1
 by_cases h3:f.1.kind=1
 ·rw [if_pos h3] at e1
  obtain ⟨r,hr⟩:∃ r,r=f.1.r:=⟨_,rfl⟩
  obtain ⟨l,hl⟩:∃ l,l=f.1.l:=⟨_,rfl⟩
  rw [← hr,← hl] at e1
  have ep:∀ s:HSt,s.up=true→s.take c f=s.push c r l:=fun s hs=>by rw [e0 s hs,if_neg h1,if_neg h2,if_pos h3,hr,hl]
  unfold HSt.push at e1
  by_cases p1:(st.post.pushC c.w r l).2.1≠0
  ·rw [if_pos p1] at e1;rw [e1];exact e1
  rw [if_neg p1] at e1
  have p0:(st.post.pushC c.w r l).2.1=0:=by simpa using p1
  by_cases p2:(st.post.pushC c.w r l).1=st.post.lenF r.toNat
  ·rw [if_pos p2,push_none hset _ _ _ p2 p0] at e1
   rw [e1];exact e1
  rw [if_neg p2] at e1
  by_cases hwe:(st.write (rcEv 5 r l)).2≠0
  ·rw [if_pos hwe] at e1
   rw [e1]
   exact htake_down (hwrite_down hwe) f
  rw [if_neg hwe] at e1
  have hwe:(st.write (rcEv 5 r l)).2=0:=by simpa using hwe
  rw [hwrite_same hwe] at e1
  obtain ⟨t1,t2,t3⟩:=pushC_twice p0
  rw [e1]
  simp only
  rw [ep ⟨st.up,st.recs++[rcEv 5 r l],st.tail,st.cuts,st.keep,(st.post.pushC c.w r l).2.2⟩ hu]
  unfold HSt.push
  simp only
  rw [if_neg (by rw [t2];simp),if_pos (by rw [t1,t3]),push_none (push_set hset _ _ _) _ _ _ (by rw [t1,t3]) t2,t1]
 rw [if_neg h3] at e1
 by_cases h4:f.1.kind=3
 ·rw [if_pos h4] at e1;rw [e1];exact e1
 rw [if_neg h4] at e1
 by_cases h5:f.1.kind=5
 ·rw [if_pos h5] at e1
  obtain ⟨r,hr⟩:∃ r,r=f.1.r:=⟨_,rfl⟩
  obtain ⟨q,hq⟩:∃ q,q=f.1.c:=⟨_,rfl⟩
  rw [← hr,← hq] at e1
  have ep:∀ s:HSt,s.up=true→s.take c f=((s.ack r q).1,-1,(Rcd.zero,(s.ack r q).2)):=fun s hs=>by rw [e0 s hs,if_neg h1,if_neg h2,if_neg h3,if_neg h4,if_pos h5,hr,hq]
  have ea:st.ack r q=(if (st.post.ack r q).1≠0 then (st,(st.post.ack r q).1) else if (st.post.ack r q).2.told.getD r.toNat Clk.zero=st.post.told.getD r.toNat Clk.zero then ({ st with post:=(st.post.ack r q).2 },0) else if (st.write ⟨6,r,0,q,[]⟩).2≠0 then ((st.write ⟨6,r,0,q,[]⟩).1,18) else ({ (st.write ⟨6,r,0,q,[]⟩).1 with post:=(st.post.ack r q).2 },0)):=rfl
  by_cases p1:(st.post.ack r q).1≠0
  ·rw [if_pos p1] at ea;rw [ea] at e1;rw [e1];exact e1
  rw [if_neg p1] at ea
  by_cases p2:(st.post.ack r q).2.told.getD r.toNat Clk.zero=st.post.told.getD r.toNat Clk.zero
  ·rw [if_pos p2,ack_none hset _ _ p2 hpo.t] at ea
   rw [ea] at e1;rw [e1];exact e1
  rw [if_neg p2] at ea
  by_cases hwe:(st.write ⟨6,r,0,q,[]⟩).2≠0
  ·rw [if_pos hwe] at ea
   rw [ea] at e1
   rw [e1]
   exact htake_down (hwrite_down hwe) f
  rw [if_neg hwe] at ea
  have hwe:(st.write ⟨6,r,0,q,[]⟩).2=0:=by simpa using hwe
  rw [hwrite_same hwe] at ea
  rw [ea] at e1
  rw [e1]
  simp only
  refine Eq.trans (ep ⟨st.up,st.recs++[⟨6,r,0,q,[]⟩],st.tail,st.cuts,st.keep,(st.post.ack r q).2⟩ hu) ?_
  have hhas:st.post.has r:=by
   by_cases h:st.post.has r
   ·exact h
   ·exfalso;apply p1;unfold PSt.ack;rw [if_pos h];simp
  have hr1:=hhas.1
  have hr2:=hhas.2
  have hlt:r.toNat<st.post.told.length:=by have:=hpo.t;omega
  have ht1:(st.post.ack r q).2.told=st.post.told.set r.toNat ((st.post.told.getD r.toNat Clk.zero).join q):=by
   unfold PSt.ack;rw [if_neg (by simpa using hhas)];exact PSt.cutN_told _ _
  have hsl:(st.post.ack r q).2.sf.length=st.post.sf.length:=by
   unfold PSt.ack;rw [if_neg (by simpa using hhas)];exact PSt.cutN_len _ _
  obtain ⟨p',hp'⟩:∃ p',p'=(st.post.ack r q).2:=⟨_,rfl⟩
  rw [← hp'] at ht1 hsl ⊢
  have hset':p'.set:=by rw [hp'];exact ack_set hset r q
  have hhas':p'.has r:=by unfold PSt.has;rw [hsl];exact hhas
  have hget:p'.told.getD r.toNat Clk.zero=(st.post.told.getD r.toNat Clk.zero).join q:=by rw [ht1,getD_set,if_pos ⟨rfl,hlt⟩]
  have hsame:(p'.ack r q).2.told.getD r.toNat Clk.zero=p'.told.getD r.toNat Clk.zero:=by
   have:(p'.ack r q).2.told=p'.told.set r.toNat ((p'.told.getD r.toNat Clk.zero).join q):=by
    unfold PSt.ack;rw [if_neg (by simpa using hhas')];exact PSt.cutN_told _ _
   rw [this,getD_set,hget,join_join]
   split
   ·rfl
   ·rfl
  have hlen':p'.told.length=p'.sf.length:=by rw [ht1,hsl,List.length_set];exact hpo.t
  have hnone:=ack_none hset' r q hsame hlen'
  have h10:(p'.ack r q).1=0:=by unfold PSt.ack;rw [if_neg (by simpa using hhas')]
  unfold HSt.ack
  simp only
  rw [if_neg (by rw [h10];simp),if_pos hsame,hnone]
 ·rw [if_neg h5] at e1;rw [e1];exact e1
def cpS (j:Int):Stp:=⟨5,0,⟨0,[],0,[]⟩,j,0,0,0⟩
theorem step_cp (w:WSt) (c:Cfg) (j:Int):w.step c (cpS j)=if 0≤j∧j<w.fl.length then w.arrive c (w.fl.getD j.toNat (0,Rcd.zero)).1 ((w.fl.getD j.toNat (0,Rcd.zero)).2,0) else (w,24):=by
 unfold WSt.step
 rw [if_pos (by show (4:Int)≤5∧(5:Int)≤7;omega)]
 rfl
theorem arrive_twice {k:Nat} {c:Cfg} {w:WSt} (g:WGd k c w) (to:Int) (f:Rcd×Int):((w.arrive c to f).1.arrive c to f).2=(w.arrive c to f).2∧((w.arrive c to f).1.arrive c to f).1.nodes=(w.arrive c to f).1.nodes∧((w.arrive c to f).1.arrive c to f).1.hub=(w.arrive c to f).1.hub:=by
 by_cases hh:w.has to
 ·have e1:∀ v:WSt,v.has to→v.arrive c to f=(v.upd to ((v.node to).takeC c to f).1,((v.node to).takeC c to f).2):=fun v hv=>by unfold WSt.arrive;rw [if_pos hv]
  rw [e1 w hh]
  simp only
  rw [e1 _ ((upd_has w to _ to).2 hh),upd_node hh _ _ hh.1,if_pos rfl,node_twice (g.nd to hh) f]
  refine ⟨rfl,?_,rfl⟩
  show (w.nodes.set _ _).set _ _=w.nodes.set _ _
  rw [List.set_set]
 ·have ht:=hub_twice g.hub f
  have e1:∀ v:WSt,v.nodes=w.nodes→v.arrive c to f=(if (v.hub.take c f).2.2.2=0∧w.has (v.hub.take c f).2.1 then { v with hub:=(v.hub.take c f).1,fl:=v.fl++[((v.hub.take c f).2.1,(v.hub.take c f).2.2.1)] } else { v with hub:=(v.hub.take c f).1 },(v.hub.take c f).2.2.2):=fun v hv=>by
   unfold WSt.arrive
   have h1:∀ q,v.has q↔w.has q:=fun q=>by unfold WSt.has;rw [hv]
   rw [if_neg (fun h=>hh ((h1 to).1 h))]
   simp only [h1]
  have hn:(w.arrive c to f).1.nodes=w.nodes:=by rw [e1 w rfl];simp only;split <;> rfl
  have hb:(w.arrive c to f).1.hub=(w.hub.take c f).1:=by rw [e1 w rfl];simp only;split <;> rfl
  have h2:(w.arrive c to f).2=(w.hub.take c f).2.2.2:=by rw [e1 w rfl]
  obtain ⟨v,hv⟩:∃ v,v=(w.arrive c to f).1:=⟨_,rfl⟩
  rw [← hv] at hn hb ⊢
  rw [e1 v hn,hb,ht,h2]
  refine ⟨rfl,?_,?_⟩ <;> simp only <;> split <;> rfl
theorem copy_twice {k:Nat} {c:Cfg} {w:WSt} (g:WGd k c w) (j:Int):((w.step c (cpS j)).1.step c (cpS j)).2=(w.step c (cpS j)).2∧((w.step c (cpS j)).1.step c (cpS j)).1.nodes=(w.step c (cpS j)).1.nodes∧((w.step c (cpS j)).1.step c (cpS j)).1.hub=(w.step c (cpS j)).1.hub:=by
 by_cases h:0≤j∧j<w.fl.length
 ·have hlt:j.toNat<w.fl.length:=by omega
  have e1:w.step c (cpS j)=w.arrive c (w.fl.getD j.toNat (0,Rcd.zero)).1 ((w.fl.getD j.toNat (0,Rcd.zero)).2,0):=by rw [step_cp,if_pos h]
  obtain ⟨x,hx⟩:∃ x,x=w.fl.getD j.toNat (0,Rcd.zero):=⟨_,rfl⟩
  rw [← hx] at e1
  rw [e1]
  have hfl:∃ l,(w.arrive c x.1 (x.2,0)).1.fl=w.fl++l:=by
   unfold WSt.arrive
   split
   ·exact ⟨[],by simp [WSt.upd]⟩
   ·simp only
    split
    ·exact ⟨_,rfl⟩
    ·exact ⟨[],by simp⟩
  obtain ⟨l,hl⟩:=hfl
  have hg:(w.arrive c x.1 (x.2,0)).1.fl.getD j.toNat (0,Rcd.zero)=x:=by
   rw [hl,hx]
   simp only [List.getD_eq_getElem?_getD,List.getElem?_append_left hlt]
  rw [step_cp,if_pos (by rw [hl,List.length_append];omega),hg]
  exact arrive_twice g x.1 (x.2,0)
 ·have e1:w.step c (cpS j)=(w,24):=by rw [step_cp,if_neg h]
  rw [e1]
  simp only
  rw [e1]
  exact ⟨rfl,rfl,rfl⟩
end
section
instance:EqT Tryz.prog 53 HsU:=⟨6,.b::List.replicate 35 (.i .i64),by kernel_rfl,by kernel_rfl,by kernel_rfl,by kernel_rfl,fun _=>rfl,fun a b h=>by
 obtain ⟨a0,⟨⟨a1,a2,a3,a4,a5⟩,⟨b1,b2,b3,b4,b5⟩,⟨c1,c2,c3,c4,c5⟩,⟨d1,d2,d3,d4,d5⟩,⟨e1,e2,e3,e4,e5⟩,⟨f1,f2,f3,f4,f5⟩,⟨g1,g2,g3,g4,g5⟩⟩⟩:=a
 obtain ⟨A0,⟨⟨A1,A2,A3,A4,A5⟩,⟨B1,B2,B3,B4,B5⟩,⟨C1,C2,C3,C4,C5⟩,⟨D1,D2,D3,D4,D5⟩,⟨E1,E2,E3,E4,E5⟩,⟨F1,F2,F3,F4,F5⟩,⟨G1,G2,G3,G4,G5⟩⟩⟩:=b
 simp only [Rep.cells,List.cons_append,List.nil_append,List.append_assoc,List.cons.injEq,Value.int.injEq,Value.bool.injEq,true_and,and_true] at h
 simp only [HsU.mk.injEq,Hs.mk.injEq,Clk.mk.injEq]
 simp only [and_assoc] at h ⊢
 exact h⟩
end
section
theorem fewS_ok (n:Int) (l:List Stp) (h:∀ s∈l,I64 s.bit∧0≤s.mask∧s.mask<4294967296):∀ s∈fewS n l,s.Ok:=by
 intro s hs
 unfold fewS at hs
 obtain ⟨x,hx,rfl⟩:=List.mem_map.1 hs
 have h1:=h x (List.mem_of_mem_take hx)
 have h2:=fit_lens x.ed
 exact ⟨h1.1,h1.2,by show x.ed.fit.key.length≤_;omega,by show x.ed.fit.value.length≤_;omega⟩
theorem fewS_len (n:Int) (l:List Stp):(fewS n l).length≤60:=by unfold fewS;rw [List.length_map,List.length_take];omega
theorem cpS_ok (j:Int):(cpS j).Ok:=⟨by unfold I64;show (-9223372036854775808:Int)≤0∧(0:Int)≤_;omega,by show (0:Int)≤0∧(0:Int)<4294967296;omega,by show (0:Nat)≤1000;omega,by show (0:Nat)≤1000;omega⟩
def StpIn (s:Stp):Prop:=(I64 s.bit∧0≤s.mask∧s.mask<4294967296)∧s.ed.key.length≤140737488355328∧s.ed.value.length≤140737488355328
set_option maxRecDepth 20000 attribute [local irreducible] Ex ExL Fn thn inb rnd fin meet Tab Mix mxEnd Val Sats RdT Rd RowT Row Blk Sub Fac ResV RVal Evs subs subs3 Hid Capd
section
attribute [local irreducible] Star NodeA HubA LkA nodesA WldA SiteV.own Lst.own wS
theorem topTwice_F (c0:Cfg) (v1:Value) (l:List Stp) (at_:Nat) (M:List Assn) (hr:RdT M v1 l) (o1:v1.oneCell'=true) (hl:l.length≤140737488355328) (hs:∀ s∈l,StpIn s) (ha:at_<256) :
  Fn Tryz.prog 8 #[.agg (Rep.cells c0).toArray,v1,.int .u8 at_] M fun v L'=>v=.bool true∧L'=M:=by
 obtain ⟨c,hc⟩:∃ c,c=fitC c0:=⟨_,rfl⟩
 have hm:c.May:=by rw [hc];exact fitC_may c0
 have hcn:=hm.n
 obtain ⟨N,hcN⟩:∃ N:Nat,c.n=N:=⟨c.n.toNat,by omega⟩
 refine Fn.of_ex Tryz.func8 rfl Tryz.ntmps8 rfl ?_
 (refine rn ?_;(repeat (first | intro (g:Nat) | intro h)))
 refine st_callIs [] rJ Tryz.call10 rJ rJ (shown_F _) ?_
 rintro _ _ ⟨rfl,rfl⟩
 (refine rn ?_;(repeat (first | intro (g:Nat) | intro h)))
 refine st_callIs [] rJ Tryz.call11 rJ rJ (fitC_F c0 _) ?_
 rintro _ _ ⟨rfl,rfl⟩
 rw [← hc]
 (refine rn ?_;(repeat (first | intro (g:Nat) | intro h)))
 refine st_callIs [] rJ Tryz.call21 rJ rJ (wNewA c _ hm) ?_
 rintro _ _ ⟨gw,rfl,rfl⟩
 have g0:=WGd.new hm
 (refine rn ?_;(repeat (first | intro (g:Nat) | intro h)))
 rw [hcN]
 revert g
 intro g8
 refine st_callIs [] rJ Tryz.call13 rJ rJ (few_F v1 l N _ rD o1 rM hl (fun s h=>(hs s h).2)) ?_
 rintro v11 _ ⟨o11,rfl⟩
 have hok:=fewS_ok N l (fun s h=>(hs s h).1)
 have hlen:=fewS_len N l
 obtain ⟨S0,hS⟩:∃ S0,S0=fewS N l:=⟨_,rfl⟩
 rw [← hS] at hok hlen ⊢
 (refine rn ?_;(repeat (first | intro (g:Nat) | intro h)))
 refine Ex.sub (L':=WldA gw c (WSt.new c)::Blk g8 23 (Rep.cells c)::RowT v11 29 S0::M) ?_ rP
 refine Ex.loop [12] (fun z vs L'=>∃ (j:Nat) (w:WSt),j≤S0.length∧z=S0.length - j∧WGd (3 * j) c w∧vs=[.int .i64 j]∧L'=WldA gw c w::Blk g8 23 (Rep.cells c)::RowT v11 29 S0::M) S0.length ⟨0,WSt.new c,by omega,rfl,g0,rfl,rfl⟩ ?_
 rintro z vs g1 L1 ⟨j,w,hj,rfl,gj,rfl,rfl⟩
 refine Ex.keep [2,8,9,11,12] rG (fun gk=>?_)
 by_cases hlt:j<S0.length
 ·have hsj:=hok (S0[j]'hlt) (List.getElem_mem hlt)
  have g1:=gj.step rM (S0[j]'hlt)
  (refine rn ?_;(repeat (first | intro (g:Nat) | intro h)))
  refine st_callIs [] rJ Tryz.call17 rE rJ (wStepA (k:=198) gw c w (S0[j]'hlt) _ ((gj.mono rM).ok rM) (Nat.le_refl _) hsj) ?_
  rintro _ _ ⟨rfl,rfl⟩
  generalize (w.step c (S0[j]'hlt)).2=e0
  generalize (w.step c (S0[j]'hlt)).1=w1 at g1 ⊢
  (refine rn ?_;(repeat (first | intro (g:Nat) | intro h)))
  generalize (IntKind.i64.wrap (IntKind.u8.wrap ((at_:Int)+(j:Int)))).tmod 5=jj
  revert g
  intro g13
  have g2:=g1.step rM (cpS jj)
  have htw:=copy_twice g1 jj
  have hn2:=g2.n
  refine st_callIs [1] rJ Tryz.call17 rE rJ (wStepA (k:=198) gw c w1 (cpS jj) _ ((g1.mono rM).ok rM) (Nat.le_refl _) (cpS_ok jj)) ?_
  rintro _ _ ⟨rfl,rfl⟩
  obtain ⟨w2,hw2⟩:∃ w2,w2=(w1.step c (cpS jj)).1:=⟨_,rfl⟩
  obtain ⟨e2,he2⟩:∃ e2,e2=(w1.step c (cpS jj)).2:=⟨_,rfl⟩
  rw [← hw2,← he2] at htw
  rw [← hw2] at g2 hn2
  rw [← hw2,← he2]
  have ok2:WOk 198 c w2:=(g2.mono rM).ok rM
  (refine rn ?_;(repeat (first | intro (g:Nat) | intro h)))
  refine st_callIs [] rJ Tryz.call15 rE rJ (wHubA (k:=198) gw c w2 _ ok2 (Nat.le_refl _)) ?_
  rintro _ _ ⟨rfl,rfl⟩
  generalize hH:w2.hub.siteU=h2
  (refine rn ?_;(repeat (first | intro (g:Nat) | intro h)))
  revert g
  intro g15
  rw [hcN]
  refine st_callIs [1] rJ Tryz.call16 rE rJ (standing_F (k:=198) gw c w2 _ ok2 (Nat.le_refl _) N rM) ?_
  rintro v16 _ ⟨ss,o16,hss,rfl⟩
  (refine rn ?_;intros)
  refine st_callIs [2] rJ Tryz.call17 rE rJ (wStepA (k:=198) gw c w2 (cpS jj) _ ok2 (Nat.le_refl _) (cpS_ok jj)) ?_
  rintro _ _ ⟨rfl,rfl⟩
  have g3:=g2.step rM (cpS jj)
  obtain ⟨w3,hw3⟩:∃ w3,w3=(w2.step c (cpS jj)).1:=⟨_,rfl⟩
  rw [← hw3] at htw g3
  rw [← hw3,htw.1]
  have ok3:WOk 198 c w3:=(g3.mono rM).ok rM
  have hn3:=g3.n
  have hH3:w3.hub.siteU=h2:=by rw [htw.2.2,hH]
  have hsi:w3.sites=w2.sites:=by unfold WSt.sites;rw [htw.2.1]
  (refine rn ?_;intros)
  refine Ex.sub (L':=WldA gw c w3::Blk g15 53 (Rep.cells h2)::Blk g8 23 (Rep.cells c)::Sites v16 ss::Star (ss.map SiteV.own)::RowT v11 29 S0::M) ?_ rP
  refine Ex.mixA 18 [Blk g15 53 (Rep.cells h2),Blk g8 23 (Rep.cells c)] rfl rQ (Fac.of (Sub.pick 1 rfl (Sub.pick 1 rfl (Sub.nilL _)))) ?_
  (repeat' (first | (refine m1 ?_;intros) | (refine mx_gsplit rJ rJ rJ (fun h=>?_) (fun h=>?_) <;> try (exfalso;omega))))
  (refine mx_act rJ rJ rJ ?_;refine st_callIs [] rJ Tryz.call15 rE rJ (wHubA (k:=198) gw c w3 _ ok3 (Nat.le_refl _)) ?_)
  rintro _ _ ⟨rfl,rfl⟩
  rw [hH3]
  refine ExL.nil ?_
  refine mxEnd_n (Fac.of (Sub.pick 1 rfl (Sub.pick 1 rfl (Sub.nilL _)))) ?_
  (repeat' (first | (refine m1 ?_;intros) | (refine mx_gsplit rJ rJ rJ (fun h=>?_) (fun h=>?_) <;> try (exfalso;omega))))
  rw [hcN]
  (refine mx_act rJ rJ rJ ?_;refine st_callIs [] rJ Tryz.call16 rE rJ (standing_F (k:=198) gw c w3 _ ok3 (Nat.le_refl _) N rM) ?_)
  rintro v20 _ ⟨ss3,o20,hss3,rfl⟩
  refine ExL.nil ?_
  refine mxEnd_n (Fac.of (Sub.pick 3 rfl (Sub.pick 3 rfl (Sub.nilL _)))) ?_
  (repeat' (first | (refine m1 ?_;intros) | (refine mx_gsplit rJ rJ rJ (fun h=>?_) (fun h=>?_) <;> try (exfalso;omega))))
  have hsl:ss3.length=ss.length:=by
   have a1:=congrArg List.length hss
   have a2:=congrArg List.length hss3
   rw [List.length_map] at a1 a2
   rw [a1,a2,hsi]
  have hs5:ss3.length≤5:=by
   have a2:=congrArg List.length hss3
   unfold WSt.sites at a2
   rw [List.length_map,List.length_map] at a2
   omega
  have hln3:=ok3.lens (Nat.le_refl _)
  have hln2:=ok2.lens (Nat.le_refl _)
  rw [← hss3] at hln3
  rw [← hss] at hln2
  (refine mx_act rJ rJ rJ ?_;refine st_callIs [3,3,6,6] rJ Tryz.call19 rE rJ (same_F v20 v16 ss3 ss _ hsl hs5 hln3 hln2) ?_)
  rintro _ _ ⟨rfl,rfl⟩
  rw [decide_eq_true (show ss3.map SiteV.p=ss.map SiteV.p by rw [hss3,hss,hsi])]
  refine ExL.nil ?_
  refine mxEnd_n (Fac.of (Sub.pick 5 rfl (Sub.pick 5 rfl (Sub.nilL _)))) ?_
  (repeat' (first | (refine m1 ?_;intros) | (refine mx_gsplit rJ rJ rJ (fun h=>?_) (fun h=>?_) <;> try (exfalso;omega))))
  (refine rn ?_;intros)
  refine rnd_n ⟨S0.length - (j+1),WldA gw c w3::Blk g8 23 (Rep.cells c)::RowT v11 29 S0::M,by omega,rP,j+1,w3,by omega,rfl,g3.mono rM,lcons (vint rM) rfl,rfl⟩
 ·obtain rfl:j=S0.length:=by omega
  exact re1
theorem topTwice_fn (c0:Cfg) (v1:Value) (l:List Stp) (n:Int) (W:World) (hr:RdT [Base W] v1 l) (o1:v1.oneCell'=true) (hl:l.length≤140737488351232) (hs:∀ s∈l,s.In) (hn:0≤n∧n≤255) :
  Fn Tryz.prog 8 #[.agg (Rep.cells c0).toArray,v1,.int .u8 n] [Base W] fun v L'=>v=.bool true∧L'=[Base W]:=by
 obtain ⟨k,rfl⟩:=Int.eq_ofNat_of_zero_le hn.1
 exact topTwice_F c0 v1 l k [Base W] hr o1 rM (fun s h=>⟨⟨(hs s h).bit,(hs s h).mask.1,(hs s h).mask.2⟩,by have:=(hs s h).key;omega,by have:=(hs s h).value;omega⟩) rM
end
end
section
open Go.ChangeShapes Go.WideShapes Go.ChangeAt Go.RowKit
set_option maxRecDepth 20000 in
theorem topTwice_j2:(laidOutB Tryz.prog)=true:=by kernel_rfl
set_option maxRecDepth 20000 in
theorem topTwice_j3:(mapsRowed Tryz.prog)=true:=by kernel_rfl
set_option maxRecDepth 20000 in
theorem topTwice_j5:(namedTie Tryz.prog Rows.topTwiceRow.named Rows.topTwiceSpec.vars)=true:=by kernel_rfl
set_option maxRecDepth 20000 in
theorem topTwice_j10:((Rows.topTwiceRow.inPlace == Tryz.prog.inPlace 8))=true:=by kernel_rfl
set_option maxRecDepth 20000 in
theorem topTwice_j11:((Rows.topTwiceRow.unfollowed == Tryz.prog.unfollowed 8))=true:=by kernel_rfl
set_option maxRecDepth 20000 in
theorem topTwice_j12:((Rows.topTwiceRow.recurses == Tryz.prog.recurses 8))=true:=by kernel_rfl
set_option maxRecDepth 20000 in
theorem topTwice_j13:((Rows.topTwiceRow.named == Tryz.prog.varsNamed 8))=true:=by kernel_rfl
set_option maxRecDepth 20000 in
theorem topTwice_j23:((Rows.topTwiceRow.plainKeys == Tryz.prog.plainKeys))=true:=by kernel_rfl
set_option maxRecDepth 20000 in
theorem topTwice_j27:((Rows.topTwiceRow.lifted == Tryz.prog.liftsFinal))=true:=by kernel_rfl
theorem topTwice_bt {a b:Bool} (h:a=true) (k:b=true):(a && b)=true:=by rw [h,k];rfl
set_option maxRecDepth 20000 in
theorem topTwice_jf:joinedFacts Tryz.prog 8 Tryz.f8 Rows.topTwiceSpec Rows.topTwiceRow=true:=by
 unfold joinedFacts
 exact (topTwice_bt (topTwice_bt (topTwice_bt (topTwice_bt (topTwice_bt (topTwice_bt (topTwice_bt (topTwice_bt (topTwice_bt (topTwice_bt (topTwice_bt (topTwice_bt (topTwice_bt (topTwice_bt (topTwice_bt (topTwice_bt (topTwice_bt (topTwice_bt (topTwice_bt (topTwice_bt (topTwice_bt (topTwice_bt (topTwice_bt (topTwice_bt (topTwice_bt (topTwice_bt (topTwice_bt (topTwice_bt (topTwice_bt (topTwice_bt (topTwice_bt rQ topTwice_j2) topTwice_j3) rQ) topTwice_j5) rQ) rQ) rQ) rQ) topTwice_j10) topTwice_j11) topTwice_j12) topTwice_j13) rQ) rQ) rQ) rQ) rQ) rQ) rQ) rQ) rQ) topTwice_j23) rQ) rQ) rQ) topTwice_j27) rQ) rQ) rQ) rQ) rQ)
set_option maxRecDepth 20000 in
theorem topTwice_in:Tryz.f8.isInstance Tryz.prog Rows.topTwiceRow.origin Rows.topTwiceRow.targs:=of_decide_eq_true rQ
set_option maxRecDepth 20000 in
theorem topTwice_wr:Tryz.f8.isWrapper Tryz.prog Rows.topTwiceRow.wrapper Rows.topTwiceRow.mainSum:=by unfold Func.isWrapper;first | (rw [if_pos (by decide +kernel)];kernel_rfl) | (rw [if_neg (by decide +kernel)];exact ⟨rfl,rfl⟩)
end
end Go.Proofs.YtogcfijlhpaeeaaGreat
