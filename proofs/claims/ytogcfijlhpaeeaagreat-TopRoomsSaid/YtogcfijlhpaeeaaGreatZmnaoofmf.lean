/- Texts, one behind the other. No condition. -/
import Derived.Test.YtogcfijlhpaeeaaGreatZdfampcdg
import Derived.Test.YtogcfijlhpaeeaaGreatZdmapoppp
import Derived.Test.YtogcfijlhpaeeaaGreatZehjcikgl
import Derived.Test.YtogcfijlhpaeeaaGreatZicacodgd
import Derived.Test.YtogcfijlhpaeeaaGreatZidbabpgd
import Derived.Test.YtogcfijlhpaeeaaGreatZmppiaoch
open Go.RowKit
set_option linter.unusedSimpArgs false
set_option linter.unusedVariables false
set_option linter.unusedSectionVars false
set_option maxHeartbeats 32000000
namespace Go.Proofs.YtogcfijlhpaeeaaGreat
section
theorem getD_set {α:Type} (l:List α) (i j:Nat) (a d:α):(l.set i a).getD j d=if i=j∧i<l.length then a else l.getD j d:=by
 simp only [List.getD_eq_getElem?_getD,List.getElem?_set]
 by_cases h:i=j
 ·subst h
  by_cases hl:i<l.length
  ·simp [hl]
  ·simp [hl,List.getElem?_eq_none (show l.length≤i by omega)]
 ·simp [h]
theorem Sf.to_to (s:Sf) (n:Int):(s.to n).to n=s.to n:=by
 unfold Sf.to
 simp only [Sf.mk.injEq,true_and]
 omega
def PSt.set (p:PSt):Prop:=∀ s,s<p.sf.length→(p.sf.getD s Sf.none).to (leastR p.told s)=p.sf.getD s Sf.none
theorem cutAt_get (p:PSt) (s j:Nat):(p.cutAt s).sf.getD j Sf.none=if s=j∧s<p.sf.length then (p.sf.getD s Sf.none).to (leastR p.told s) else p.sf.getD j Sf.none:=getD_set ..
theorem cutAt_len (p:PSt) (s:Nat):(p.cutAt s).sf.length=p.sf.length:=List.length_set ..
theorem cutN_get (p:PSt):∀ (k j:Nat),j<p.sf.length→(p.cutN k).sf.getD j Sf.none=if j<k then (p.sf.getD j Sf.none).to (leastR p.told j) else p.sf.getD j Sf.none
 | 0,j,hj=>rfl
 | k+1,j,hj=>by
  show ((p.cutN k).cutAt k).sf.getD j Sf.none=_
  rw [cutAt_get,PSt.cutN_len,PSt.cutN_told]
  have ih:=cutN_get p k j hj
  by_cases h:k=j
  ·subst h
   rw [if_pos ⟨rfl,hj⟩,if_pos rM,ih,if_neg rM]
  ·rw [if_neg (fun hh=>h hh.1),ih]
   by_cases h2:j<k
   ·rw [if_pos h2,if_pos rM]
   ·rw [if_neg h2,if_neg rM]
theorem getD_ext {α:Type} {l m:List α} (d:α) (hl:l.length=m.length) (h:∀ j,j<l.length→l.getD j d=m.getD j d):l=m :=
 List.ext_getElem hl fun i h1 h2=>by
  have:=h i h1
  simpa [List.getD_eq_getElem?_getD,h1,h2] using this
theorem cutN_set (p:PSt):(p.cutN p.sf.length).set:=fun s hs=>by
 rw [PSt.cutN_len] at hs
 rw [cutN_get _ _ _ hs,if_pos hs,PSt.cutN_told,Sf.to_to]
theorem cutN_id {p:PSt} (h:p.set):p.cutN p.sf.length=p:=by
 have h1:(p.cutN p.sf.length).sf=p.sf:=getD_ext Sf.none (PSt.cutN_len ..) fun j hj=>by
  rw [PSt.cutN_len] at hj
  rw [cutN_get _ _ _ hj,if_pos hj,h j hj]
 have h2:=PSt.cutN_told p p.sf.length
 obtain ⟨t,s⟩:=p
 cases hq:(⟨t,s⟩:PSt).cutN (⟨t,s⟩:PSt).sf.length with
 | mk t2 s2 =>
  rw [hq] at h1 h2
  simp only at h1 h2
  rw [h1,h2]
theorem push_set {p:PSt} (h:p.set) (most r:Int) (l:List Ev):(p.pushC most r l).2.2.set:=by
 unfold PSt.pushC
 split
 ·exact h
 ·split
  ·exact h
  ·intro s hs
   rw [cutAt_len] at hs
   have hs2:s<p.sf.length:=by simpa using hs
   rw [cutAt_get]
   show (if _ then _ else _:Sf).to (leastR p.told s)=_
   by_cases he:r.toNat=s∧r.toNat<(p.sf.set r.toNat (⟨(p.sf.getD r.toNat Sf.none).all++((p.sf.getD r.toNat Sf.none).putS most l).2,(p.sf.getD r.toNat Sf.none).cut⟩:Sf)).length
   ·rw [if_pos he]
    obtain ⟨rfl,_⟩:=he
    exact Sf.to_to _ _
   ·rw [if_neg he,getD_set]
    have hne:¬ (r.toNat=s∧r.toNat<p.sf.length):=fun hh=>he ⟨hh.1,by rw [List.length_set];exact hh.2⟩
    rw [if_neg hne]
    exact h s hs2
theorem ack_set {p:PSt} (h:p.set) (r:Int) (c:Clk):(p.ack r c).2.set:=by
 unfold PSt.ack
 split
 ·exact h
 ·exact cutN_set (⟨p.told.set r.toNat ((p.told.getD r.toNat Clk.zero).join c),p.sf⟩:PSt)
theorem push_none {p:PSt} (h:p.set) (most r:Int) (l:List Ev) (he:(p.pushC most r l).1=p.lenF r.toNat) (h0:(p.pushC most r l).2.1=0):(p.pushC most r l).2.2=p:=by
 unfold PSt.pushC at he h0 ⊢
 split
 ·rfl
 rename_i hh
 rw [if_neg hh] at he h0
 split
 ·rfl
 rename_i h1
 rw [if_neg h1] at he h0
 have hr:p.has r:=by
  by_cases hr:p.has r
  ·exact hr
  ·exact absurd (.inl hr) hh
 have hr1:=hr.1
 have hr2:=hr.2
 have hlt:r.toNat<p.sf.length:=by omega
 simp only at he ⊢
 unfold PSt.lenF at he
 rw [if_pos hlt,List.length_append] at he
 have hnil:((p.sf.getD r.toNat Sf.none).putS most l).2=[]:=List.eq_nil_of_length_eq_zero rM
 have hself:(⟨(p.sf.getD r.toNat Sf.none).all++((p.sf.getD r.toNat Sf.none).putS most l).2,(p.sf.getD r.toNat Sf.none).cut⟩:Sf)=p.sf.getD r.toNat Sf.none:=by rw [hnil,List.append_nil]
 rw [hself,set_getD_self]
 show (⟨p.told,p.sf.set r.toNat ((p.sf.getD r.toNat Sf.none).to (leastR p.told r.toNat))⟩:PSt)=p
 rw [h _ hlt,set_getD_self]
theorem ack_none {p:PSt} (h:p.set) (r:Int) (c:Clk) (he:(p.ack r c).2.told.getD r.toNat Clk.zero=p.told.getD r.toNat Clk.zero) (ht:p.told.length=p.sf.length):(p.ack r c).2=p:=by
 unfold PSt.ack at he ⊢
 split
 ·rfl
 rename_i hh
 rw [if_neg hh] at he
 have hr:p.has r:=by
  by_cases hr:p.has r
  ·exact hr
  ·exact absurd hr hh
 have hr1:=hr.1
 have hr2:=hr.2
 have hlt:r.toNat<p.told.length:=by omega
 simp only at he ⊢
 rw [PSt.cutN_told] at he
 simp only at he
 rw [getD_set,if_pos ⟨rfl,hlt⟩] at he
 rw [he,set_getD_self]
 exact cutN_id h
theorem zero_set (c:Cfg):(PSt.zero c).set:=fun s hs=>by
 have:(PSt.zero c).sf.getD s Sf.none=Sf.none:=by
  rcases getD_mem_or (PSt.zero c).sf s Sf.none with h | h
  ·exact List.eq_of_mem_replicate h
  ·exact h
 rw [this]
 show (⟨[],(max ((0:Nat):Int) (min (leastR (PSt.zero c).told s) ((0:Nat):Int))).toNat⟩:Sf)=Sf.none
 unfold Sf.none
 simp only [Sf.mk.injEq,true_and]
 omega
theorem hpStep_set {c:Cfg} {p:PSt} (h:p.set) (x:Rcd):(hpStep c p x).set:=by
 unfold hpStep
 split
 ·exact push_set h _ _ _
 ·split
  ·exact ack_set h _ _
  ·exact h
theorem hreplay_set (c:Cfg) (recs:List Rcd):(hreplay c recs).set:=by
 have key:∀ (l:List Rcd) (p:PSt),p.set→(l.foldl (hpStep c) p).set:=by
  intro l
  induction l with
  | nil=>exact fun p h=>h
  | cons x l ih=>exact fun p h=>ih _ (hpStep_set h x)
 exact key recs _ (zero_set c)
theorem PStOk.mono {k k':Nat} {c:Cfg} {p:PSt} (h:PStOk k c p) (hk:k≤k'):PStOk k' c p :=
 ⟨h.n,h.t,fun x hx=>by have:=h.s x hx;exact ⟨this.1,by omega,this.2.2⟩,h.a⟩
theorem PStOk.cutN {k:Nat} {c:Cfg} {p:PSt} (h:PStOk k c p):∀ m,PStOk k c (p.cutN m):=fun m=>by
 refine ⟨by rw [PSt.cutN_len];exact h.n,by rw [PSt.cutN_len,PSt.cutN_told];exact h.t,fun x hx=>?_,by rw [PSt.cutN_told];exact h.a⟩
 obtain ⟨j,hj,rfl⟩:=List.getElem_of_mem hx
 rw [PSt.cutN_len] at hj
 have hg:=cutN_get p m j hj
 have e1:(p.cutN m).sf.getD j Sf.none=(p.cutN m).sf[j]'(by rw [PSt.cutN_len];exact hj):=by simp [List.getD_eq_getElem?_getD,PSt.cutN_len,hj]
 have e2:p.sf.getD j Sf.none=p.sf[j]'hj:=by simp [List.getD_eq_getElem?_getD,hj]
 have hs:=h.s _ (List.getElem_mem hj)
 rw [← e2] at hs
 rw [← e1,hg]
 split
 ·refine ⟨Sf.to_ok hs.1 _,hs.2.1,?_,hs.2.2.2⟩
  have:=hs.2.2.1
  unfold Sf.to
  simp only
  omega
 ·exact hs
theorem ackP_ok {k:Nat} {c:Cfg} {p:PSt} (h:PStOk k c p) (r:Int) (cl:Clk) (hc:∀ i,i<5→0≤cl.get i∧cl.get i≤1048576):PStOk k c (p.ack r cl).2:=by
 unfold PSt.ack
 split
 ·exact h
 ·refine PStOk.cutN (p:=⟨p.told.set r.toNat ((p.told.getD r.toNat Clk.zero).join cl),p.sf⟩) ⟨h.n,by show (p.told.set _ _).length=_;rw [List.length_set];exact h.t,h.s,fun x hx i hi=>?_⟩ _
  rcases List.mem_or_eq_of_mem_set hx with hx | rfl
  ·exact h.a x hx i hi
  ·rw [Clk.join_get _ _ _ hi]
   have h1:=hc i hi
   rcases getD_mem_or p.told r.toNat Clk.zero with hm | hm
   ·have:=h.a _ hm i hi
    omega
   ·rw [hm,zero_get]
    omega
theorem push_pok {k:Nat} {c:Cfg} {p:PSt} (h:PStOk k c p) (r:Int) (l:List Ev) (hl:l.length≤20) (hm:∀ e∈l,e.May):PStOk (k+1) c (p.pushC c.w r l).2.2:=by
 unfold PSt.pushC
 split
 ·exact h.mono rM
 rename_i hh
 split
 ·exact h.mono rM
 rename_i h1
 have hr:p.has r:=by
  by_cases hr:p.has r
  ·exact hr
  ·exact absurd (.inl hr) hh
 have hr1:=hr.1
 have hr2:=hr.2
 have hlt:r.toNat<p.sf.length:=by omega
 have hmem:p.sf.getD r.toNat Sf.none∈p.sf:=by
  rw [show p.sf.getD r.toNat Sf.none=p.sf[r.toNat]'hlt by simp [List.getD_eq_getElem?_getD,hlt]]
  exact List.getElem_mem hlt
 obtain ⟨o1,o2,o3,o4⟩:=h.s _ hmem
 obtain ⟨s,hs⟩:∃ s,s=p.sf.getD r.toNat Sf.none:=⟨_,rfl⟩
 rw [← hs] at o1 o2 o3 o4 h1 ⊢
 have hnew:(s.putS c.w l).2.length≤l.length∧(∀ e∈(s.putS c.w l).2,e∈l)∧((s.putS c.w l).2≠[]→((s.all.length - s.cut:Nat):Int)+(s.putS c.w l).2.length≤c.w):=by
  unfold Sf.putS putC
  split
  ·exact ⟨Nat.zero_le _,(fun e he=>by cases he),fun h=>absurd rfl h⟩
  ·split
   ·exact ⟨Nat.zero_le _,(fun e he=>by cases he),fun h=>absurd rfl h⟩
   ·rename_i hp
    refine ⟨List.length_filter_le ..,fun e he=>(List.mem_filter.1 he).1,fun hne=>?_⟩
    simp only at hne ⊢
    by_cases hw:c.w<((s.all.length - s.cut:Nat):Int)+(fresh s.all.length l).length
    ·exact absurd ⟨hne,hw⟩ hp
    ·omega
 obtain ⟨n1,n2,n3⟩:=hnew
 obtain ⟨new,hn⟩:∃ new,new=(s.putS c.w l).2:=⟨_,rfl⟩
 rw [← hn] at n1 n2 n3 ⊢
 have hlen:((⟨p.told,p.sf.set r.toNat ⟨s.all++new,s.cut⟩⟩:PSt).cutAt r.toNat).sf.length=p.sf.length:=by rw [cutAt_len];exact List.length_set ..
 refine ⟨by rw [hlen];exact h.n,by rw [hlen];exact h.t,fun x hx=>?_,h.a⟩
 have hx:x∈(p.sf.set r.toNat (⟨s.all++new,s.cut⟩:Sf)).set r.toNat (((p.sf.set r.toNat (⟨s.all++new,s.cut⟩:Sf)).getD r.toNat Sf.none).to (leastR p.told r.toNat)):=hx
 rw [getD_set,if_pos ⟨rfl,hlt⟩] at hx
 rcases List.mem_or_eq_of_mem_set hx with hx | rfl
 ·rcases List.mem_or_eq_of_mem_set hx with hx | rfl
  ·have:=h.s x hx
   exact ⟨this.1,by omega,this.2.2⟩
  ·unfold Sf.Ok at *
   refine ⟨by simp only [List.length_append];omega,by simp only [List.length_append];omega,?_,fun e he=>(List.mem_append.1 he).elim (o4 e) (fun h=>hm e (n2 e h))⟩
   simp only [List.length_append]
   by_cases hne:new=[]
   ·subst hne;simp only [List.length_nil];omega
   ·have:=n3 hne;omega
 ·unfold Sf.Ok at *
  unfold Sf.to
  simp only [List.length_append]
  refine ⟨by omega,by omega,?_,fun e he=>(List.mem_append.1 he).elim (o4 e) (fun h=>hm e (n2 e h))⟩
  by_cases hne:new=[]
  ·subst hne;simp only [List.length_nil];omega
  ·have:=n3 hne;omega
structure HDur (k:Nat) (c:Cfg) (recs:List Rcd) (tail:List UInt8):Prop where
 rm:∀ x∈recs,x.May
 tl:rcFirst tail=none
 size:(rcsB recs).length+tail.length≤500000 * k
 post:PStOk k c (hreplay c recs)
 lt:∀ x∈recs,x.r<c.n
structure HGd (k:Nat) (c:Cfg) (st:HSt):Prop where
 cm:c.May
 dur:HDur k c st.recs st.tail
 up:st.up=true→st.tail=[]∧hreplay c st.recs=st.post
theorem HGd.ok {k:Nat} {c:Cfg} {st:HSt} (g:HGd k c st):HOk k c st:=⟨g.cm,g.dur.rm,g.dur.tl,g.dur.size,g.dur.post,g.up,g.dur.lt⟩
theorem HDur.mono {k k':Nat} {c:Cfg} {recs:List Rcd} {tail:List UInt8} (d:HDur k c recs tail) (h:k≤k'):HDur k' c recs tail:=⟨d.rm,d.tl,by have:=d.size;omega,d.post.mono h,d.lt⟩
theorem HGd.mono {k k':Nat} {c:Cfg} {st:HSt} (g:HGd k c st) (h:k≤k'):HGd k' c st:=⟨g.cm,g.dur.mono h,g.up⟩
theorem HGd.down {k:Nat} {c:Cfg} {st:HSt} (cm:c.May) (d:HDur k c st.recs st.tail) (h:st.up=false):HGd k c st:=⟨cm,d,(fun hu=>by rw [h] at hu;cases hu)⟩
theorem HGd.crash {k:Nat} {c:Cfg} {st:HSt} (g:HGd k c st):HGd k c st.crash:=HGd.down (st:=st.crash) g.cm g.dur rfl
theorem HGd.cut {k:Nat} {c:Cfg} {st:HSt} (g:HGd k c st) (keep:Int):HGd k c (st.cut keep):=⟨g.cm,g.dur,g.up⟩
theorem HGd.start {k:Nat} {c:Cfg} {st:HSt} (g:HGd k c st):HGd k c (st.start c).1:=by
 unfold HSt.start
 split
 ·exact g
 ·have hs:=g.dur.size
  exact ⟨g.cm,⟨g.dur.rm,rfl,by simp only [List.length_nil];omega,g.dur.post,g.dur.lt⟩,fun _=>⟨rfl,rfl⟩⟩
theorem HDur.app {k:Nat} {c:Cfg} {recs:List Rcd} {x:Rcd} {tail:List UInt8} (d:HDur k c recs tail) (hx:x.May) (hr:x.r<c.n) (hp:PStOk (k+1) c (hpStep c (hreplay c recs) x)):HDur (k+1) c (recs++[x]) []:=by
 have hb:=(x.bytes_len hx).2
 have hm:=hx.m
 have hs2:=d.size
 refine ⟨fun y hy=>?_,rfl,?_,by rw [hreplay_snoc];exact hp,fun y hy=>?_⟩
 ·rcases List.mem_append.1 hy with hy | hy
  ·exact d.rm y hy
  ·simp at hy;subst hy;exact hx
 ·rw [rcsB_app,List.length_append]
  have:(rcsB [x]).length=x.bytes.length:=by simp [rcsB]
  simp only [List.length_nil]
  omega
 ·rcases List.mem_append.1 hy with hy | hy
  ·exact d.lt y hy
  ·simp at hy;subst hy;exact hr
theorem HDur.cutoff {k:Nat} {c:Cfg} {recs:List Rcd} {x:Rcd} {tail:List UInt8} (d:HDur k c recs tail) (hx:x.May) {m:Nat} (hm:m<x.bytes.length):HDur (k+1) c recs (x.bytes.take m):=by
 have hb:=(x.bytes_len hx).2
 have hm2:=hx.m
 have hs2:=d.size
 have hl:(x.bytes.take m).length=m:=by rw [List.length_take];omega
 refine ⟨d.rm,rcFirst_cut x hx _ (x.bytes.drop m) (List.take_append_drop ..).symm ?_,by omega,d.post.mono rM,d.lt⟩
 intro h
 have:=congrArg List.length h
 rw [List.length_drop] at this
 simp at this
 omega
theorem HGd.write {k:Nat} {c:Cfg} {st:HSt} (g:HGd k c st) (x:Rcd) (hx:x.May) (da:HDur (k+1) c (st.recs++[x]) []) :
  HDur (k+1) c (st.write x).1.recs (st.write x).1.tail∧((st.write x).2≠0→HGd (k+1) c (st.write x).1):=by
 cases hcut:st.cuts with
 | false =>
  rw [HSt.write_f hcut]
  refine ⟨⟨da.rm,g.dur.tl,?_,da.post,da.lt⟩,fun h=>absurd rfl h⟩
  have hb:=(x.bytes_len hx).2
  have hm2:=hx.m
  have hs2:=g.dur.size
  show (rcsB (st.recs++[x])).length+st.tail.length≤_
  rw [rcsB_app,List.length_append]
  have:(rcsB [x]).length=x.bytes.length:=by simp [rcsB]
  omega
 | true =>
  rw [HSt.write_t hcut]
  simp only
  split
  ·exact ⟨da,fun _=>HGd.down (st:={ st with up:=false,cuts:=false,recs:=st.recs++[x],tail:=[] }) g.cm da rfl⟩
  ·rename_i hlt
   have dc:=g.dur.cutoff hx (m:=keptOf st.keep x.bytes.length) rM
   exact ⟨dc,fun _=>HGd.down (st:={ st with up:=false,cuts:=false,tail:=x.bytes.take (keptOf st.keep x.bytes.length) }) g.cm dc rfl⟩
theorem hwrite_same {st:HSt} {x:Rcd} (h:(st.write x).2=0):(st.write x).1={ st with recs:=st.recs++[x] }:=(st.write_up x).1 h
theorem HGd.push {k:Nat} {c:Cfg} {st:HSt} (g:HGd k c st) (hk:k≤198) (hu:st.up=true) {f:Rcd} (hf:f.FMay) (hr:f.r<c.n):HGd (k+1) c (st.push c f.r f.l).1:=by
 have hrp:=(g.up hu).2
 have hset:=hreplay_set c st.recs
 have hpo:=g.dur.post
 rw [hrp] at hset hpo
 unfold HSt.push
 split
 ·exact g.mono rM
 rename_i h0
 have h0:(st.post.pushC c.w f.r f.l).2.1=0:=by simpa using h0
 split
 ·rename_i h1
  rw [push_none hset _ _ _ h1 h0]
  exact g.mono rM
 have hx:(rcEv 5 f.r f.l).May:=rcEv_may (.inr (.inr rfl)) hf.r (by have:=hf.m;omega) hf.l
 have hstep:hpStep c (hreplay c st.recs) (rcEv 5 f.r f.l)=(st.post.pushC c.w f.r f.l).2.2:=by rw [hrp];rfl
 have da:=g.dur.app hx hr (by rw [hstep];exact push_pok hpo f.r f.l hf.m hf.l)
 obtain ⟨gw1,gw2⟩:=g.write _ hx da
 split
 ·rename_i hwe;exact gw2 hwe
 rename_i hwe
 have hwe:(st.write (rcEv 5 f.r f.l)).2=0:=by simpa using hwe
 rw [hwrite_same hwe] at gw1 ⊢
 exact ⟨g.cm,gw1,fun _=>⟨(g.up hu).1,by show hreplay c (st.recs++[_])=_;rw [hreplay_snoc,hstep]⟩⟩
theorem HGd.ack {k:Nat} {c:Cfg} {st:HSt} (g:HGd k c st) (hk:k≤198) (hu:st.up=true) {f:Rcd} (hf:f.FMay) (hr:f.r<c.n):HGd (k+1) c (st.ack f.r f.c).1:=by
 have hrp:=(g.up hu).2
 have hset:=hreplay_set c st.recs
 have hpo:=g.dur.post
 rw [hrp] at hset hpo
 unfold HSt.ack
 split
 ·exact g.mono rM
 split
 ·rename_i h1
  rw [ack_none hset _ _ h1 hpo.t]
  exact g.mono rM
 have hx:(⟨6,f.r,0,f.c,[]⟩:Rcd).May:=ack_may hf.r hf.c
 have hstep:hpStep c (hreplay c st.recs) ⟨6,f.r,0,f.c,[]⟩=(st.post.ack f.r f.c).2:=by rw [hrp];rfl
 have da:=g.dur.app hx hr (by rw [hstep];exact (ackP_ok hpo f.r f.c hf.c).mono rM)
 obtain ⟨gw1,gw2⟩:=g.write _ hx da
 split
 ·rename_i hwe;exact gw2 hwe
 rename_i hwe
 have hwe:(st.write ⟨6,f.r,0,f.c,[]⟩).2=0:=by simpa using hwe
 rw [hwrite_same hwe] at gw1 ⊢
 exact ⟨g.cm,gw1,fun _=>⟨(g.up hu).1,by show hreplay c (st.recs++[_])=_;rw [hreplay_snoc,hstep]⟩⟩
theorem HGd.take {k:Nat} {c:Cfg} {st:HSt} (g:HGd k c st) (hk:k≤198) {f:Rcd×Int} (hf:f.2=0→f.1.FMay):HGd (k+1) c (st.take c f).1:=by
 unfold HSt.take
 split
 ·exact g.mono rM
 rename_i hu0
 have hu:st.up=true:=by cases h:st.up with
  | true=>rfl
  | false=>exact absurd h hu0
 split
 ·exact g.mono rM
 rename_i h2
 have hm:=hf (by simpa using h2)
 split
 ·exact g.mono rM
 rename_i h3
 split
 ·exact g.push hk hu hm rM
 split
 ·exact g.mono rM
 split
 ·exact g.ack hk hu hm rM
 ·exact g.mono rM
end
section
structure WGd (k:Nat) (c:Cfg) (w:WSt):Prop where
 n:(w.nodes.length:Int)=c.n
 nd:∀ r:Int,w.has r→NGd k c r (w.node r)
 hub:HGd k c w.hub
 fl:w.fl.length≤k∧∀ x∈w.fl,x.2.FMay
theorem node_of {w:WSt} {i:Nat} (h:i<w.nodes.length):w.has (i:Int)∧w.node (i:Int)=w.nodes[i]'h:=by
 refine ⟨⟨by omega,by omega⟩,?_⟩
 unfold WSt.node
 rw [show ((i:Int)).toNat=i from Int.toNat_natCast i]
 simp [List.getD_eq_getElem?_getD,h]
theorem WGd.ok {k:Nat} {c:Cfg} {w:WSt} (g:WGd k c w) (hk:k≤200):WOk k c w:=by
 refine ⟨g.n,fun i hi=>?_,g.hub.ok,by have:=g.fl.1;omega,g.fl.2⟩
 obtain ⟨h1,h2⟩:=node_of hi
 have:=(g.nd i h1).ok hk
 rwa [h2] at this
theorem WGd.mono {k k':Nat} {c:Cfg} {w:WSt} (g:WGd k c w) (h:k≤k'):WGd k' c w:=⟨g.n,fun r hr=>(g.nd r hr).mono h,g.hub.mono h,by have:=g.fl.1;omega,g.fl.2⟩
theorem upd_node {w:WSt} {r:Int} (hr:w.has r) (s:NSt) (q:Int) (hq:0≤q):(w.upd r s).node q=if q=r then s else w.node q:=by
 show (w.nodes.set r.toNat s).getD q.toNat NSt.fresh=_
 have h1:=hr.1
 have h2:=hr.2
 rw [getD_set]
 by_cases h:q=r
 ·subst h
  rw [if_pos ⟨rfl,by omega⟩,if_pos rfl]
 ·rw [if_neg (fun hh=>h rM),if_neg h]
  rfl
theorem upd_has (w:WSt) (r:Int) (s:NSt) (q:Int):(w.upd r s).has q↔w.has q:=by unfold WSt.has;rw [WSt.upd_len]
theorem WGd.upd {k k':Nat} {c:Cfg} {w:WSt} (g:WGd k c w) (hk:k≤k') {r:Int} {s:NSt} (hr:w.has r) (h:NGd k' c r s):WGd k' c (w.upd r s):=by
 refine ⟨by rw [WSt.upd_len];exact g.n,fun q hq=>?_,g.hub.mono hk,by have:=g.fl.1;show w.fl.length≤k';omega,g.fl.2⟩
 have hq2:=(upd_has w r s q).1 hq
 rw [upd_node hr s q hq2.1]
 split
 ·rename_i e;rw [e];exact h
 ·exact (g.nd q hq2).mono hk
theorem WGd.hubs {k k':Nat} {c:Cfg} {w:WSt} (g:WGd k c w) (hk:k≤k') {h:HSt} (hh:HGd k' c h):WGd k' c { w with hub:=h } :=
 ⟨g.n,fun r hr=>(g.nd r hr).mono hk,hh,by have:=g.fl.1;show w.fl.length≤k';omega,g.fl.2⟩
theorem WGd.fly {k:Nat} {c:Cfg} {w:WSt} (g:WGd k c w) (t:Int) {x:Rcd} (hx:x.FMay):WGd (k+1) c { w with fl:=w.fl++[(t,x)] }:=by
 refine ⟨g.n,fun r hr=>(g.nd r hr).mono rM,g.hub.mono rM,by have:=g.fl.1;show (w.fl++[_]).length≤_;rw [List.length_append,List.length_singleton];omega,fun y hy=>?_⟩
 rcases List.mem_append.1 hy with hy | hy
 ·exact g.fl.2 y hy
 ·simp at hy;subst hy;exact hx
theorem WGd.send {k:Nat} {c:Cfg} {w:WSt} (g:WGd k c w) {p:Rcd×Int} (hp:p.2=0→p.1.FMay):WGd (k+1) c (w.send p).1:=by
 unfold WSt.send
 simp only
 split
 ·rename_i h;exact g.fly 5 (hp h)
 ·exact g.mono rM
theorem WGd.arrive {k:Nat} {c:Cfg} {w:WSt} (g:WGd k c w) (hk:k≤198) (to:Int) {f:Rcd×Int} (hf:f.2=0→f.1.FMay):WGd (k+1) c (w.arrive c to f).1:=by
 unfold WSt.arrive
 split
 ·rename_i h
  exact g.upd rM h ((g.nd to h).take hk hf)
 ·have hh:=g.hub.take hk hf
  have hm:=htake_may g.hub.ok hk hf
  simp only
  split
  ·rename_i h
   have g2:=g.hubs rM (k':=k+1) hh
   have:=h.2
   refine ⟨g2.n,g2.nd,g2.hub,by have:=g.fl.1;show (w.fl++[_]).length≤_;rw [List.length_append,List.length_singleton];omega,fun y hy=>?_⟩
   rcases List.mem_append.1 hy with hy | hy
   ·exact g.fl.2 y hy
   ·simp at hy;subst hy;exact hm h.1 h.2.1
  ·exact g.hubs rM hh
theorem burstF_may {x:Rcd} (hx:x.FMay) (bit mask:Int):(burstF x bit mask).2=0→(burstF x bit mask).1.FMay:=by
 unfold burstF
 split
 ·exact fun _=>hx
 ·exact fun h=>by cases h
theorem fl_getD {k:Nat} {c:Cfg} {w:WSt} (g:WGd k c w) {i:Int} (h:0≤i∧i<w.fl.length):(w.fl.getD i.toNat (0,Rcd.zero)).2.FMay:=by
 have hi:i.toNat<w.fl.length:=by omega
 rw [show w.fl.getD i.toNat (0,Rcd.zero)=w.fl[i.toNat]'hi by simp [List.getD_eq_getElem?_getD,hi]]
 exact g.fl.2 _ (List.getElem_mem hi)
theorem tkA_mem {α:Type} {l:List α} {i:Int} {y:α} (h:y∈tkA l i):y∈l:=by
 unfold tkA at h
 split at h
 ·rcases List.mem_append.1 h with h | h
  ·exact List.mem_of_mem_take h
  ·exact List.mem_of_mem_drop h
 ·exact h
theorem WGd.flight {k:Nat} {c:Cfg} {w:WSt} (g:WGd k c w) (hk:k≤198) (s:Stp):WGd (k+1) c (w.flight c s).1:=by
 unfold WSt.flight
 split
 ·rename_i h
  have hx:=fl_getD g h
  have g2:WGd k c (if s.kind=5 then w else { w with fl:=tkA w.fl s.at_ }):=by
   split
   ·exact g
   ·exact ⟨g.n,g.nd,g.hub,by have:=g.fl.1;have:=tkA_len w.fl s.at_;show (tkA w.fl s.at_).length≤k;omega,fun y hy=>g.fl.2 y (tkA_mem hy)⟩
  simp only
  split
  ·exact g2.mono rM
  ·refine g2.arrive hk _ ?_
   split
   ·exact burstF_may hx _ _
   ·exact fun _=>hx
 ·exact g.mono rM
theorem WGd.power {k:Nat} {c:Cfg} {w:WSt} (g:WGd k c w) (s:Stp):WGd k c (w.power c s).1:=by
 unfold WSt.power
 split
 ·rename_i h
  have gn:=g.nd s.r h
  split
  ·exact g.upd (Nat.le_refl _) h gn.crash
  ·split
   ·exact g.upd (Nat.le_refl _) h gn.start
   ·exact g.upd (Nat.le_refl _) h (gn.cut _)
 ·split
  ·split
   ·exact g.hubs (Nat.le_refl _) g.hub.crash
   ·split
    ·exact g.hubs (Nat.le_refl _) g.hub.start
    ·exact g.hubs (Nat.le_refl _) (g.hub.cut _)
  ·exact g
theorem WGd.step {k:Nat} {c:Cfg} {w:WSt} (g:WGd k c w) (hk:k≤198) (s:Stp):WGd (k+1) c (w.step c s).1:=by
 unfold WSt.step
 split
 ·exact g.flight hk s
 split
 ·exact (g.power s).mono rM
 split
 ·exact g.mono rM
 rename_i hh
 have hh:w.has s.r:=by
  by_cases h:w.has s.r
  ·exact h
  ·exact absurd h hh
 have gn:=g.nd s.r hh
 have ok:=gn.ok rM
 split
 ·exact g.upd rM hh (gn.edit hk _)
 split
 ·exact g.send (push_fmay ok)
 split
 ·exact g.send (tell_fmay ok rM (.inl rfl))
 split
 ·exact g.send (tell_fmay ok rM (.inr rfl))
 split
 ·exact g.upd rM hh (gn.state hk)
 ·exact g.mono rM
theorem WGd.once {k:Nat} {c:Cfg} {w:WSt} (g:WGd k c w) (hk:k≤198) {p:Rcd×Int} (hp:p.2=0→p.1.FMay):WGd (k+1) c (w.once c p):=by
 unfold WSt.once
 split
 ·exact g.mono rM
 rename_i h0
 have hf:(p.1,(0:Int)).2=0→(p.1,(0:Int)).1.FMay:=fun _=>hp (by simpa using h0)
 have hh:=g.hub.take hk hf
 have hm:=htake_may g.hub.ok hk hf
 simp only
 split
 ·rename_i h
  have h2:w.has (w.hub.take c (p.1,0)).2.1:=h.2
  exact (g.hubs rM hh).upd (Nat.le_refl _) h.2 ((g.nd _ h2).take hk (fun _=>hm h.1 h2.1))
 ·exact g.hubs rM hh
theorem WGd.tellK {k:Nat} {c:Cfg} {w:WSt} (g:WGd k c w) (hk:k≤198) {r:Int} (hr:w.has r) (j:Nat):(w.tellK c r j).2=0→(w.tellK c r j).1.FMay:=by
 have ok:=(g.nd r hr).ok rM
 unfold WSt.tellK
 split
 ·exact push_fmay ok
 split
 ·exact tell_fmay ok rM (.inl rfl)
 ·exact tell_fmay ok rM (.inr rfl)
theorem WGd.roundK {k:Nat} {c:Cfg} {w:WSt} (g:WGd k c w):∀ i,i≤3 * w.nodes.length→k+i≤198→WGd (k+i) c (w.roundK c i)
 | 0,_,_=>g
 | i+1,hi,hk=>by
  have ih:=g.roundK i rM rM
  show WGd (k+i+1) c (WSt.once _ c _)
  refine ih.once rM (ih.tellK rM ?_ _)
  have:=roundK_len w c i
  exact ⟨by omega,by omega⟩
theorem WGd.reN {k:Nat} {c:Cfg} {w:WSt} (g:WGd k c w):∀ j,j≤w.nodes.length→WGd k c (w.reN c j)
 | 0,_=>g
 | j+1,hj=>by
  have ih:=g.reN j rM
  have hl:=w.reN_len c j
  have hh:(w.reN c j).has (j:Nat):=⟨by omega,by omega⟩
  exact ih.upd (Nat.le_refl _) hh ((ih.nd _ hh).crash.start)
theorem WGd.re {k:Nat} {c:Cfg} {w:WSt} (g:WGd k c w):WGd k c (w.re c):=(g.reN _ (Nat.le_refl _)).hubs (Nat.le_refl _) g.hub.crash.start
theorem WGd.new {c:Cfg} (hc:c.May):WGd 0 c (WSt.new c):=by
 have hn:=hc.n
 have hl:(WSt.new c).nodes.length=c.n.toNat:=by unfold WSt.new;simp
 refine ⟨by rw [hl];omega,fun r hr=>?_,?_,Nat.le_refl _,fun x hx=>by cases hx⟩
 ·have h1:=hr.1
  have h2:=hr.2
  rw [hl] at h2
  have e:(WSt.new c).node r=(NSt.fresh.start c r).1:=by
   unfold WSt.node WSt.new
   have:r.toNat<c.n.toNat:=by omega
   simp only [List.getD_eq_getElem?_getD,List.getElem?_map,List.getElem?_range this,Option.map_some,Option.getD_some]
   rw [show ((r.toNat:Nat):Int)=r by omega]
  rw [e]
  exact (NGd.fresh hc ⟨h1,by omega⟩).start
 ·have ok:=HSt.fresh_ok hc
  exact HGd.start (st:=HSt.fresh c) (HGd.down (st:=HSt.fresh c) hc ⟨ok.recs,ok.tail,ok.size,ok.post,ok.ok⟩ rfl)
theorem WGd.loopOk {c:Cfg}:∀ (n k:Nat) (w:WSt),WGd k c w→∀ kk,k+15 * n≤kk→kk≤198→w.loopOk kk c n
 | 0,k,w,g,kk,h,hk=>(g.mono rM).ok rM
 | n+1,k,w,g,kk,h,hk=>by
  have hn:=g.n
  have h5:=g.hub.cm.n
  refine ⟨fun i hi=>((g.roundK i hi rM).mono rM).ok rM,fun _=>?_⟩
  exact WGd.loopOk n (k+15) _ ((g.roundK _ (Nat.le_refl _) rM).mono rM) kk rM hk
theorem WGd.rdOk {c:Cfg} {k:Nat} {w:WSt} (g:WGd k c w) (n:Nat) (h:k+15 * n≤198):RdOk 198 c w n :=
 ⟨(g.mono rM).ok rM,fun j hj=>((g.reN j hj).mono rM).ok rM,WGd.loopOk n k _ g.re 198 h (Nat.le_refl _)⟩
end
section
def Pur (p:Prop) (A:Assn):Assn:=fun h=>p∧A h
theorem Fn.pur {P:Program} {k:FuncId} {args:Array Value} {p:Prop} {A:Assn} {M:List Assn} {R:Value→List Assn→Prop} (h:p→Fn P k args (A::M) R):Fn P k args (Pur p A::M) R:=fun F w0 ww rr ⟨x,⟨hp,a⟩,d,s⟩=>h hp F w0 ww rr ⟨x,a,d,s⟩
theorem Pur.cls {p:Prop} (hp:p) {A:Assn} (M:List Assn):Sub (Pur p A::M) (A::M):=Sub.cons' (fun _ a=>⟨hp,a⟩) (Sub.refl M)
theorem Pur.exL {P:Program} {n:Nat} {ops:Array Oper} {l:List Oper} {Q:Post} {f:Nat→Value} {p:Prop} {A:Assn} {M:List Assn} (h:p→ExL P n ops l Q f (A::M)):ExL P n ops l Q f (Pur p A::M):=fun D F w0 f0 ws a ww ⟨rr,ag,⟨x,⟨hp,b⟩,d,s⟩,kk⟩ hc =>
 h hp D F w0 f0 ws a ww ⟨rr,ag,⟨x,b,d,s⟩,kk⟩ hc
def WSt.after (w:WSt) (c:Cfg) (l:List Stp) (j:Nat):WSt:=(l.take j).foldl (fun w s=>(w.step c s).1) w
theorem after_succ (w:WSt) (c:Cfg) (l:List Stp) {j:Nat} (h:j<l.length):w.after c l (j+1)=((w.after c l j).step c (l[j]'h)).1:=by
 unfold WSt.after
 rw [List.take_succ_eq_append_getElem h,List.foldl_append]
 rfl
theorem WGd.after {c:Cfg} {w:WSt} {k:Nat} (g:WGd k c w) (l:List Stp):∀ j,j≤l.length→k+j≤198→WGd (k+j) c (w.after c l j)
 | 0,_,_=>g
 | j+1,hj,hk=>by
  rw [after_succ w c l rM]
  exact (g.after l j rM rM).step rM _
set_option maxRecDepth 20000 attribute [local irreducible] Ex ExL Fn thn inb rnd fin meet Tab Mix mxEnd Val Sats RdT Rd RowT Row Blk Sub Fac ResV RVal Evs subs subs3 Hid Capd
section
attribute [local irreducible] Star NodeA HubA LkA nodesA WldA SiteV.own
theorem hNew_no (c:Cfg) (M:List Assn) (hc:mayC c=false):Fn Tryz.prog 55 #[.agg (Rep.cells c).toArray] M fun v L'=>v=.tuple #[.pointer none,.int .i64 1]∧L'=M:=by
 refine Fn.of_ex Tryz.func55 rfl Tryz.ntmps55 rfl ?_
 (refine rn ?_;intros)
 refine st_callIs [] rJ Tryz.call119 rJ rJ (may_F c _) ?_
 rintro _ _ ⟨rfl,rfl⟩
 rw [hc]
 exact re1
theorem wNew_no (c:Cfg) (M:List Assn) (hc:mayC c=false):Fn Tryz.prog 21 #[.agg (Rep.cells c).toArray] M fun v L'=>v=.tuple #[.pointer none,.int .i64 1]∧L'=M:=by
 refine Fn.of_ex Tryz.func21 rfl Tryz.ntmps21 rfl ?_
 (refine rn ?_;intros)
 refine st_callIs [] rJ Tryz.call55 rJ rJ (hNew_no c _ hc) ?_
 rintro _ _ ⟨rfl,rfl⟩
 exact re1
theorem played_no (c:Cfg) (v0:Value) (o0:v0.oneCell'=true) (M:List Assn) (hc:mayC c=false):Fn Tryz.prog 86 #[.agg (Rep.cells c).toArray,v0] M fun v L'=>v=.tuple #[.pointer none,.slice none 0 0,.int .i64 1]∧L'=M:=by
 refine Fn.of_ex Tryz.func86 rfl Tryz.ntmps86 rfl ?_
 (refine rn ?_;intros)
 refine st_callIs [] rJ Tryz.call21 rJ rJ (wNew_no c _ hc) ?_
 rintro _ _ ⟨rfl,rfl⟩
 exact re1
def repC (u1 u2:Value) (h:HsU) (n:Int):List Value:=[u1,u2]++Rep.cells h++[.int .i64 n]
def HsU.zero:HsU:=⟨false,⟨Clk.zero,Clk.zero,Clk.zero,Clk.zero,Clk.zero,Clk.zero,Clk.zero⟩⟩
theorem Run_no (c:Cfg) (v0:Value) (o0:v0.oneCell'=true) (M:List Assn) (hc:mayC c=false):Fn Tryz.prog 32 #[.agg (Rep.cells c).toArray,v0] M fun v L'=>v=.tuple #[.agg (repC (.slice none 0 0) (.slice none 0 0) HsU.zero 0).toArray,.int .i64 1]∧L'=M:=by
 refine Fn.of_ex Tryz.func32 rfl Tryz.ntmps32 rfl ?_
 (refine rn ?_;intros)
 refine st_callIs [] rJ Tryz.call86 rJ rJ (played_no c v0 o0 _ hc) ?_
 rintro _ _ ⟨rfl,rfl⟩
 exact re1
end
end
end Go.Proofs.YtogcfijlhpaeeaaGreat
