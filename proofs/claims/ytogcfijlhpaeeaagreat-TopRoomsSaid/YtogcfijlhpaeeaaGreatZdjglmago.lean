/- Texts, one behind the other. No condition. -/
import Derived.Test.YtogcfijlhpaeeaaGreatZbjildoce
import Derived.Test.YtogcfijlhpaeeaaGreatZcdhpjgdh
import Derived.Test.YtogcfijlhpaeeaaGreatZehjcikgl
open Go.RowKit
set_option linter.unusedSimpArgs false
set_option linter.unusedVariables false
set_option linter.unusedSectionVars false
set_option maxHeartbeats 32000000
namespace Go.Proofs.YtogcfijlhpaeeaaGreat
section
set_option maxRecDepth 20000 attribute [local irreducible] Ex ExL Fn thn inb rnd fin meet Tab Mix mxEnd Val Sats RdT Rd RowT Row Blk Sub Fac ResV RVal Evs subs subs3 Hid Capd
section
attribute [local irreducible] DkA DvA
theorem nPush_down (gn:Nat) (c:Cfg) (r:Int) (dv vl:Value) (sent:Int) (b i o:Value) (M:List Assn) :
  Fn Tryz.prog 42 #[ptrV gn] (NdB gn c r false dv vl sent b i o::M)
   fun v L'=>v=.tuple #[.slice none 0 0,.int .i64 18]∧L'=NdB gn c r false dv vl sent b i o::M:=by
 refine Fn.of_ex Tryz.func42 rfl Tryz.ntmps42 rfl ?_
 exact re0
theorem nPush_none (gn go:Nat) (c:Cfg) (r:Int) (dv vl:Value) (sent:Int) (b i:Value) (most size s0:Int) (v0:Value) (M:List Assn) :
  Fn Tryz.prog 42 #[ptrV gn] (OxO go most size s0 v0::Evs_ v0 []::NdB gn c r true dv vl sent b i (ptrV go)::M)
   fun v L'=>v=.tuple #[.slice none 0 0,.int .i64 24]∧L'=OxO go most size s0 v0::Evs_ v0 []::NdB gn c r true dv vl sent b i (ptrV go)::M:=by
 refine Fn.of_ex Tryz.func42 rfl Tryz.ntmps42 rfl ?_
 (refine rn ?_;intros)
 refine st_callIs [] rJ Tryz.call108 rE rJ (outbox_Len go most size s0 v0 [] _) ?_
 rintro _ _ ⟨rfl,rfl⟩
 exact re0
theorem nPush_some (gn go:Nat) (c:Cfg) (r:Int) (dv vl:Value) (sent:Int) (b i:Value) (most size s0:Int) (v0:Value) (wait x:List Ev) (M:List Assn) (hw:wait≠[]) (hwl:wait.length≤1000000)
  (hx:x=wait.take (min (max size 0) wait.length).toNat) (hs:∀ e∈x,e.ed.key.length≤1000∧e.ed.value.length≤1000) (hm:(rcEv 1 r x).FMay) :
  Fn Tryz.prog 42 #[ptrV gn] (OxO go most size s0 v0::Evs_ v0 wait::NdB gn c r true dv vl sent b i (ptrV go)::M)
   fun v L'=>∃ u,u.oneCell'=true∧v=.tuple #[u,.int .i64 0]∧L'=Bys u (rcEv 1 r x).fbytes::OxO go most size s0 v0::Evs_ v0 wait::NdB gn c r true dv vl sent b i (ptrV go)::M:=by
 have hw0:wait.length≠0:=fun h=>hw (List.eq_nil_of_length_eq_zero h)
 have hxl:x.length≤1000000:=by rw [hx,List.length_take];omega
 refine Fn.of_ex Tryz.func42 rfl Tryz.ntmps42 rfl ?_
 (refine rn ?_;intros)
 refine st_callIs [] rJ Tryz.call108 rE rJ (outbox_Len go most size s0 v0 wait _) ?_
 rintro _ _ ⟨rfl,rfl⟩
 (refine rn ?_;intros)
 (refine mu13 ?_;intros)
 (refine mx_act rJ rJ rJ ?_;refine st_callIs [] rJ Tryz.call110 rE rJ (outbox_Batch go most size s0 v0 wait _ rM) ?_)
 rintro vb _ ⟨ob,rfl⟩
 rw [← hx]
 (refine mw ?_;intros)
 (repeat' (first | (refine m1 ?_;intros) | (refine mx_gsplit rJ rJ rJ (fun h=>?_) (fun h=>?_) <;> try (exfalso;omega))))
 (refine mx_act rJ rJ rJ ?_;refine st_callIs [] rJ Tryz.call109 rE rJ (fput_F (rcEv 1 r x) vb _ rD ob (by show x.length≤_;omega) hs) ?_)
 rintro _ _ (⟨hn,_,_⟩ | ⟨_,u,ou,rfl,rfl⟩)
 ·exact absurd hm hn
 (refine mw ?_;intros)
 (repeat' (first | (refine m1 ?_;intros) | (refine mx_gsplit rJ rJ rJ (fun h=>?_) (fun h=>?_) <;> try (exfalso;omega))))
 (refine rn ?_;intros)
 (refine fr ?_)
 exact ⟨_,rB,u,ou,rfl,rfl⟩
end
section
attribute [local irreducible] DkA DvA
theorem npushed_same (gn gi:Nat) (c:Cfg) (r upto:Int) (dv vl:Value) (sent:Int) (b o:Value) (most:Int) (clk:Clk) (v0:Value) (held:List Ev) (M:List Assn) (hr:0≤r∧r<5)
  (he:max sent (min upto (clk.get r.toNat))=sent) :
  Fn Tryz.prog 139 #[ptrV gn,.int .i64 upto] (InO gi most clk v0::Evs_ v0 held::NdB gn c r true dv vl sent b (ptrV gi) o::M)
   fun v L'=>v=.int .i64 0∧L'=InO gi most clk v0::Evs_ v0 held::NdB gn c r true dv vl sent b (ptrV gi) o::M:=by
 refine Fn.of_ex Tryz.func139 rfl Tryz.ntmps139 rfl ?_
 (refine rn ?_;intros)
 (refine mu17 ?_;intros)
 (refine mx_act rJ rJ rJ ?_;refine st_callIs [] rJ Tryz.call100 rE rJ (inbox_Clock gi most clk v0 held _) ?_)
 rintro _ _ ⟨rfl,rfl⟩
 (refine mw ?_;intros)
 (repeat' (first | (refine m1 ?_;intros) | (refine mx_gsplit rJ rJ rJ (fun h=>?_) (fun h=>?_) <;> try (exfalso;omega))))
 refine mx_val rJ rJ rJ (vl_indexC rJ rJ rJ rJ rJ hr.1 hr.2) ?_
 (repeat' (first | (refine m1 ?_;intros) | (refine mx_gsplit rJ rJ rJ (fun h=>?_) (fun h=>?_) <;> try (exfalso;omega))))
 have he2:max sent (min upto ((⟨clk.a,clk.b,clk.c,clk.d,clk.e⟩:Clk).get r.toNat))=sent:=he
 rw [he2]
 exact re0
end
section
attribute [local irreducible] DkA DvA
theorem npushed_down (gn gi go:Nat) (c:Cfg) (r upto ns:Int) (dv vl:Value) (sent:Int) (b:Value) (most:Int) (clk:Clk) (v0 vw:Value) (held wait:List Ev) (m2 size s0:Int) (s:DS) (M:List Assn) (hr:0≤r∧r<5)
  (he:max sent (min upto (clk.get r.toNat))=ns) (hne:ns≠sent) (hm:(⟨3,r,ns,Clk.zero,[]⟩:Rcd).May) (hb:s.b.length+(⟨3,r,ns,Clk.zero,[]⟩:Rcd).bytes.length≤140737488355328)
  (hw:(s.write (⟨3,r,ns,Clk.zero,[]⟩:Rcd).bytes).2=18) :
  Fn Tryz.prog 139 #[ptrV gn,.int .i64 upto] (InO gi most clk v0::Evs_ v0 held::NdB gn c r true dv vl sent b (ptrV gi) (ptrV go)::DvA dv s::M)
   fun v L'=>∃ gd,v=.int .i64 18∧L'=NdB gn c r false (ptrV gd) vl sent b (ptrV gi) (ptrV go)::DkA gd (s.write (⟨3,r,ns,Clk.zero,[]⟩:Rcd).bytes).1::InO gi most clk v0::Evs_ v0 held::M:=by
 refine Fn.of_ex Tryz.func139 rfl Tryz.ntmps139 rfl ?_
 (refine rn ?_;intros)
 (refine mu17 ?_;intros)
 (refine mx_act rJ rJ rJ ?_;refine st_callIs [] rJ Tryz.call100 rE rJ (inbox_Clock gi most clk v0 held _) ?_)
 rintro _ _ ⟨rfl,rfl⟩
 (refine mw ?_;intros)
 (repeat' (first | (refine m1 ?_;intros) | (refine mx_gsplit rJ rJ rJ (fun h=>?_) (fun h=>?_) <;> try (exfalso;omega))))
 refine mx_val rJ rJ rJ (vl_indexC rJ rJ rJ rJ rJ hr.1 hr.2) ?_
 (repeat' (first | (refine m1 ?_;intros) | (refine mx_gsplit rJ rJ rJ (fun h=>?_) (fun h=>?_) <;> try (exfalso;omega))))
 have he2:max sent (min upto ((⟨clk.a,clk.b,clk.c,clk.d,clk.e⟩:Clk).get r.toNat))=ns:=he
 rw [he2]
 (refine rn ?_;intros)
 refine st_callIs [3,3] rJ Tryz.call103 rE rJ (nwrite_F gn c r true dv vl sent b (ptrV gi) (ptrV go) s ⟨3,r,ns,Clk.zero,[]⟩ (.slice none 0 0) _ (RdT.nil _) rfl (by simp) (by simp) hm hb) ?_
 rintro _ _ ⟨gd,rfl,rfl⟩
 rw [hw]
 (refine rn ?_;intros)
 (refine fr ?_)
 exact ⟨_,rB,gd,rfl,rfl⟩
theorem npushed_ok (gn gi go:Nat) (c:Cfg) (r upto ns:Int) (dv vl:Value) (sent:Int) (b:Value) (most:Int) (clk:Clk) (v0 vw:Value) (held wait:List Ev) (m2 size:Int) (s:DS) (M:List Assn) (hr:0≤r∧r<5) (ow:vw.oneCell'=true)
  (he:max sent (min upto (clk.get r.toNat))=ns) (hne:ns≠sent) (hI:I64 ns) (hse:0≤sent∧sent≤1000000000) (hwl:wait.length≤1000000000) (hm:(⟨3,r,ns,Clk.zero,[]⟩:Rcd).May) (hb:s.b.length+(⟨3,r,ns,Clk.zero,[]⟩:Rcd).bytes.length≤140737488355328)
  (hw:(s.write (⟨3,r,ns,Clk.zero,[]⟩:Rcd).bytes).2=0) :
  Fn Tryz.prog 139 #[ptrV gn,.int .i64 upto] (InO gi most clk v0::Evs_ v0 held::NdB gn c r true dv vl sent b (ptrV gi) (ptrV go)::DvA dv s::OxO go m2 size sent vw::Evs_ vw wait::M)
   fun v L'=>∃ gd v',v=.int .i64 0∧v'.oneCell'=true∧L'=OxO go m2 size (sentR sent wait ns) v'::Evs_ v' (wait.drop (sentR sent wait ns - sent).toNat)::NdB gn c r true (ptrV gd) vl (sentR sent wait ns) b (ptrV gi) (ptrV go)::DkA gd (s.write (⟨3,r,ns,Clk.zero,[]⟩:Rcd).bytes).1::InO gi most clk v0::Evs_ v0 held::M:=by
 refine Fn.of_ex Tryz.func139 rfl Tryz.ntmps139 rfl ?_
 (refine rn ?_;intros)
 (refine mu17 ?_;intros)
 (refine mx_act rJ rJ rJ ?_;refine st_callIs [] rJ Tryz.call100 rE rJ (inbox_Clock gi most clk v0 held _) ?_)
 rintro _ _ ⟨rfl,rfl⟩
 (refine mw ?_;intros)
 (repeat' (first | (refine m1 ?_;intros) | (refine mx_gsplit rJ rJ rJ (fun h=>?_) (fun h=>?_) <;> try (exfalso;omega))))
 refine mx_val rJ rJ rJ (vl_indexC rJ rJ rJ rJ rJ hr.1 hr.2) ?_
 (repeat' (first | (refine m1 ?_;intros) | (refine mx_gsplit rJ rJ rJ (fun h=>?_) (fun h=>?_) <;> try (exfalso;omega))))
 have he2:max sent (min upto ((⟨clk.a,clk.b,clk.c,clk.d,clk.e⟩:Clk).get r.toNat))=ns:=he
 rw [he2]
 (refine rn ?_;intros)
 refine st_callIs [3,3] rJ Tryz.call103 rE rJ (nwrite_F gn c r true dv vl sent b (ptrV gi) (ptrV go) s ⟨3,r,ns,Clk.zero,[]⟩ (.slice none 0 0) _ (RdT.nil _) rfl (by simp) (by simp) hm hb) ?_
 rintro _ _ ⟨gd,rfl,rfl⟩
 rw [hw]
 (refine rn ?_;intros)
 refine st_callIs [5,5] rJ Tryz.call200 rE rJ (outbox_Sent go m2 size sent ns vw wait _ hI hse hwl ow) ?_
 rintro _ _ ⟨rfl,v',o',rfl⟩
 (refine rn ?_;intros)
 (refine fr ?_)
 exact ⟨_,rB,gd,v',rfl,o',rfl⟩
end
section
def fitC (c:Cfg):Cfg:=⟨1+(c.n.tmod 5+5) % 5,1+(c.w.tmod 4+4) % 4,1+(c.q.tmod 8+8) % 8,1+(c.h.tmod 20+20) % 20,1+(c.l.tmod 4+4) % 4,1+(c.p.tmod 3+3) % 3⟩
structure Cfg.May (c:Cfg):Prop where
 n:1≤c.n∧c.n≤5
 w:1≤c.w∧c.w≤4
 q:1≤c.q∧c.q≤8
 h:1≤c.h∧c.h≤20
 l:1≤c.l∧c.l≤4
 p:1≤c.p∧c.p≤3
theorem fitC_may (c:Cfg):(fitC c).May:=by
 refine ⟨?_,?_,?_,?_,?_,?_⟩ <;> simp only [fitC] <;> omega
theorem tmod_bd (n:Int) (k:Int) (hk:0<k):-k<n.tmod k∧n.tmod k<k:=⟨Int.lt_tmod_of_pos n hk,Int.tmod_lt_of_pos n hk⟩
theorem fitC_F (c:Cfg) (L:List Assn):Fn Tryz.prog 11 #[.agg (Rep.cells c).toArray] L fun v L'=>v=.agg (Rep.cells (fitC c)).toArray∧L'=L:=by
 have h5:=tmod_bd c.n 5 rM
 have h4:=tmod_bd c.w 4 rM
 have h8:=tmod_bd c.q 8 rM
 have h20:=tmod_bd c.h 20 rM
 have h42:=tmod_bd c.l 4 rM
 have h3:=tmod_bd c.p 3 rM
 refine Fn.of_ex Tryz.func11 rfl Tryz.ntmps11 rfl ?_
 exact re0
end
end
section
instance (c:Clk) (e:Ev):Decidable (e.rdy c):=by unfold Ev.rdy;infer_instance
def nextC (c:Clk) (l:List Ev):Nat→Nat→Option Nat
 | 0,_=>none
 | k+1,m=>match l.findIdx? (fun e=>decide (e.rdy c) && decide (e.r=(m:Int))) with
  | some i=>some i
  | none=>nextC c l k (m+1)
def drainC:Nat→Clk→List Ev→List Ev×List Ev×Clk
 | 0,c,l=>([],l,c)
 | n+1,c,l=>match nextC c l 5 0 with
  | none=>([],l,c)
  | some i=>match l[i]? with
   | none=>([],l,c)
   | some e=>(e::(drainC n (c.set e.r.toNat e.n) (l.eraseIdx i)).1,(drainC n (c.set e.r.toNat e.n) (l.eraseIdx i)).2)
theorem nextC_some (c:Clk) (l:List Ev):∀ (k m i:Nat),(∀ e∈l,e.rdy c→(m:Int)≤e.r)→nextC c l k m=some i→NextI c l i
 | 0,_,_,_,h=>by cases h
 | k+1,m,i,hm,h=>by
  unfold nextC at h
  split at h
  ·rename_i j hj
   obtain rfl:j=i:=by simpa using h
   obtain ⟨hl,hp,_⟩:=List.findIdx?_eq_some_iff_getElem.1 hj
   simp only [Bool.and_eq_true,decide_eq_true_eq] at hp
   exact ⟨hl,hp.1,fun x hx hr=>by rw [hp.2];exact hm _ (List.getElem_mem hx) hr⟩
  ·rename_i hn
   refine nextC_some c l k (m+1) i (fun e he hr=>?_) h
   have h1:=hm e he hr
   have h2:=List.findIdx?_eq_none_iff.1 hn e he
   simp only [Bool.and_eq_false_iff,decide_eq_false_iff_not] at h2
   rcases h2 with h2 | h2
   ·exact absurd hr h2
   ·omega
theorem nextC_none (c:Clk) (l:List Ev):∀ (k m:Nat),nextC c l k m=none→∀ e∈l,e.rdy c→e.r<m∨(m+k:Int)≤e.r
 | 0,m,_,e,_,_=>by omega
 | k+1,m,h,e,he,hr=>by
  unfold nextC at h
  split at h
  ·cases h
  ·rename_i hn
   have h2:=List.findIdx?_eq_none_iff.1 hn e he
   simp only [Bool.and_eq_false_iff,decide_eq_false_iff_not] at h2
   have:=nextC_none c l k (m+1) h e he hr
   rcases h2 with h2 | h2
   ·exact absurd hr h2
   ·omega
theorem drainC_eq:∀ (n:Nat) (c:Clk) (l:List Ev),l.length≤n→Dst l→drainC n c l=drain c l
 | 0,c,l,hl,hd=>by
  obtain rfl:=List.eq_nil_of_length_eq_zero (Nat.le_zero.1 hl)
  rw [drain_stop (fun i ⟨h,_⟩=>by simp at h)]
  rfl
 | n+1,c,l,hl,hd=>by
  unfold drainC
  split
  ·rename_i hn
   refine (drain_stop fun i hi=>?_).symm
   obtain ⟨hlt,hr,_⟩:=hi
   have:=nextC_none c l 5 0 hn _ (List.getElem_mem hlt) hr
   have h1:=hr.1
   have h2:=hr.2.1
   omega
  ·rename_i i hs
   have hx:=nextC_some c l 5 0 i (fun e _ hr=>hr.1) hs
   obtain ⟨hlt,_⟩:=id hx
   rw [List.getElem?_eq_getElem hlt]
   simp only
   rw [drainC_eq n _ (l.eraseIdx i) (by rw [List.length_eraseIdx,if_pos hlt];omega) (hd.erase i)]
   rw [drain_step hd hlt hx]
def drainL (c:Clk) (l:List Ev):List Ev×List Ev×Clk:=drainC (freshL c l).length c (freshL c l)
theorem drainL_eq (c:Clk) (l:List Ev):drainL c l=drain c (freshL c l):=drainC_eq _ c _ (Nat.le_refl _) (freshL_dst c _ [] List.Pairwise.nil)
def NSt.eventsC (st:NSt) (c:Cfg) (r:Int) (l:List Ev):NSt×Int :=
 if c.h<(drainL st.clk (st.held++l)).2.1.length then (st,22) else
 if (drainL st.clk (st.held++l)).1=[] then ({ st with clk:=(drainL st.clk (st.held++l)).2.2,held:=(drainL st.clk (st.held++l)).2.1 },0) else
 if (st.write (rcEv 2 r (drainL st.clk (st.held++l)).1)).2≠0 then ((st.write (rcEv 2 r (drainL st.clk (st.held++l)).1)).1,18) else
 ({ (st.write (rcEv 2 r (drainL st.clk (st.held++l)).1)).1 with clk:=(drainL st.clk (st.held++l)).2.2,held:=(drainL st.clk (st.held++l)).2.1,log:=st.log++(drainL st.clk (st.held++l)).1 },0)
def NSt.takeC (st:NSt) (c:Cfg) (r:Int) (f:Rcd×Int):NSt×Int :=
 if st.up=false then (st,18) else
 if f.2≠0 then (st,f.2) else
 if f.1.r≠r then (st,23) else
 if (f.1.l.any fun e=>decide (e.r=r∨c.n≤e.r))=true then (st,23) else
 if f.1.kind=2 then st.pushed r f.1.upto else if f.1.kind=4 then st.eventsC c r f.1.l else (st,23)
structure NOk (k:Nat) (c:Cfg) (r:Int) (st:NSt):Prop where
 cm:c.May
 rg:0≤r∧r<c.n
 recs:∀ x∈st.recs,x.May
 tail:rcFirst st.tail=none
 size:(rcsB st.recs).length+st.tail.length≤500000 * k
 rlen:(replay st.recs).1.length≤50 * k
 revs:∀ e∈(replay st.recs).1,e.May
 rsent:0≤(replay st.recs).2∧(replay st.recs).2≤1048576
 up:st.up=true→st.tail=[]∧replay st.recs=(st.log,st.sent)
 clk:st.up=true→∀ i,i<5→0≤st.clk.get i∧st.clk.get i≤50 * k
 held:st.up=true→(st.held.length:Int)≤c.h∧∀ e∈st.held,e.May
 wait:st.up=true→Wait st.sent st.wait∧(st.wait.length:Int)≤c.q∧∀ e∈st.wait,e.May∧e.r=r
structure DsOk (st:NSt) (ds:DS):Prop where
 b:ds.b=rcsB st.recs++st.tail
 up:st.up=true→ds.down=false
 cut:ds.cut=st.cuts
 keep:st.cuts=true→ds.keep=st.keep
theorem NSt.write_f {st:NSt} (h:st.cuts=false) (x:Rcd):st.write x=({ st with recs:=st.recs++[x] },0):=by
 unfold NSt.write;rw [if_neg (by rw [h];simp)]
theorem NSt.write_t {st:NSt} (h:st.cuts=true) (x:Rcd):st.write x=((if x.bytes.length≤keptOf st.keep x.bytes.length then { st with up:=false,cuts:=false,recs:=st.recs++[x],tail:=[] }
     else { st with up:=false,cuts:=false,tail:=x.bytes.take (keptOf st.keep x.bytes.length) }),18):=by
  unfold NSt.write;rw [if_pos h]
theorem DsOk.write {st:NSt} {ds:DS} (h:DsOk st ds) (hu:st.up=true) (ht:st.tail=[]) (x:Rcd):DsOk (st.write x).1 (ds.write x.bytes).1∧(ds.write x.bytes).2=(st.write x).2:=by
 obtain ⟨b,down,cut,keep⟩:=ds
 obtain ⟨hb,hd,hc,hk⟩:=h
 simp only at hb hd hc hk
 rw [ht,List.append_nil] at hb
 have hd':=hd hu
 subst hd'
 cases hcut:st.cuts with
 | false =>
  rw [NSt.write_f hcut]
  rw [hcut] at hc
  subst hc
  refine ⟨⟨?_,fun _=>rfl,hcut.symm,hk⟩,rfl⟩
  show b++x.bytes=rcsB (st.recs++[x])++st.tail
  rw [rcsB_app,hb,ht];simp [rcsB]
 | true =>
  rw [NSt.write_t hcut]
  have hkk:=hk hcut
  rw [hcut] at hc
  subst hc
  subst hkk
  refine ⟨?_,rfl⟩
  simp only
  by_cases hl:x.bytes.length≤keptOf st.keep x.bytes.length
  ·rw [if_pos hl]
   refine ⟨?_,(fun hx=>by cases hx),rfl,(fun hx=>by cases hx)⟩
   show b++x.bytes.take (keptOf st.keep x.bytes.length)=rcsB (st.recs++[x])++[]
   rw [List.take_of_length_le hl,rcsB_app,hb];simp [rcsB]
  ·rw [if_neg hl]
   refine ⟨?_,(fun hx=>by cases hx),rfl,(fun hx=>by cases hx)⟩
   show b++x.bytes.take (keptOf st.keep x.bytes.length)=rcsB st.recs++_
   rw [hb]
theorem NSt.write_e (st:NSt) (x:Rcd):(st.write x).2=0∨(st.write x).2=18:=by unfold NSt.write;split <;> simp
theorem NSt.write_up (st:NSt) (x:Rcd):((st.write x).2=0→(st.write x).1={ st with recs:=st.recs++[x] })∧((st.write x).2≠0→(st.write x).1.up=false):=by
 unfold NSt.write
 split
 ·refine ⟨fun h=>by simp at h,fun _=>?_⟩
  simp only
  split <;> rfl
 ·exact ⟨fun _=>rfl,fun h=>absurd rfl h⟩
def frB (p:Rcd×Int):List UInt8:=if p.2=0 then p.1.fbytes else []
end
section
theorem Ev.May.lens {e:Ev} (h:e.May):e.ed.key.length≤8∧e.ed.value.length≤12:=by
 have he:=h.ed
 unfold Ed.err at he
 split at he
 ·cases he
 ·split at he
  ·exact absurd he (by assumption)
  ·rename_i hk
   have hk:keyE e.ed.key=0:=by omega
   have h1:e.ed.key.length≤8:=by
    unfold keyE at hk
    split at hk
    ·rename_i h;exact h.2.1
    ·cases hk
   refine ⟨h1,?_⟩
   split at he
   ·split at he
    ·cases he
    ·split at he
     ·cases he
     ·rename_i hv;simp at hv;rw [hv];simp
   ·split at he
    ·rename_i hl;exact absurd he hl
    ·unfold valueE at he
     split at he
     ·rename_i h;exact h.2
     ·cases he
theorem lvUpd_len (k:List UInt8) (f:List Ev→List Ev):∀ m:KMap,(lvUpd k f m).length≤m.length+1
 | []=>by unfold lvUpd;split <;> simp
 | p::m=>by
  unfold lvUpd
  split
  ·split
   ·simp;omega
   ·simp
  ·have:=lvUpd_len k f m
   simp;omega
theorem lvUpd_keys (k:List UInt8) (f:List Ev→List Ev):∀ (m:KMap) (p:List UInt8×List Ev),p∈lvUpd k f m→p.1=k∨∃ q∈m,q.1=p.1
 | [],p,h=>by
  unfold lvUpd at h
  split at h
  ·simp at h
  ·simp at h;exact .inl (by rw [h])
 | q::m,p,h=>by
  unfold lvUpd at h
  split at h
  ·split at h
   ·exact .inr ⟨p,List.mem_cons_of_mem _ h,rfl⟩
   ·rcases List.mem_cons.1 h with rfl | h
    ·exact .inl rfl
    ·exact .inr ⟨p,List.mem_cons_of_mem _ h,rfl⟩
  ·rcases List.mem_cons.1 h with rfl | h
   ·exact .inr ⟨p,List.mem_cons_self ..,rfl⟩
   ·rcases lvUpd_keys k f m p h with h | ⟨x,h1,h2⟩
    ·exact .inl h
    ·exact .inr ⟨x,List.mem_cons_of_mem _ h1,h2⟩
theorem lvOf_bd (log:List Ev):(lvOf log).length≤log.length∧lvTot (lvOf log)≤log.length∧∀ p∈lvOf log,∃ e∈log,e.ed.key=p.1:=by
 have key:∀ (l:List Ev) (m:KMap),(l.foldl lvApply m).length≤m.length+l.length∧∀ p∈l.foldl lvApply m,(∃ q∈m,q.1=p.1)∨∃ e∈l,e.ed.key=p.1:=by
  intro l
  induction l with
  | nil=>exact fun m=>⟨Nat.le_refl _,fun p hp=>.inl ⟨p,hp,rfl⟩⟩
  | cons e l ih =>
   intro m
   obtain ⟨h1,h2⟩:=ih (lvApply m e)
   have h3:(lvApply m e).length≤m.length+1:=lvUpd_len ..
   refine ⟨by rw [List.foldl_cons,List.length_cons];omega,fun p hp=>?_⟩
   rcases h2 p hp with ⟨q,hq,hqe⟩ | ⟨x,hx,hxe⟩
   ·rcases lvUpd_keys _ _ m q hq with h | ⟨y,hy,hye⟩
    ·exact .inr ⟨e,List.mem_cons_self ..,by rw [← hqe,h]⟩
    ·exact .inl ⟨y,hy,by rw [hye,hqe]⟩
   ·exact .inr ⟨x,List.mem_cons_of_mem _ hx,hxe⟩
 have h1:=key log []
 have h2:=lvApplies_tot log []
 refine ⟨by have:=h1.1;simp at this;exact this,by have h0:lvTot []=0:=rfl;rw [h0] at h2;unfold lvOf;omega,fun p hp=>?_⟩
 rcases h1.2 p hp with ⟨q,hq,_⟩ | h
 ·simp at hq
 ·exact h
theorem lvGet_tot (k:List UInt8):∀ m:KMap,(lvGet k m).length≤lvTot m
 | []=>by simp [lvGet]
 | p::m=>by
  have h:lvTot (p::m)=p.2.length+lvTot m:=rfl
  have:=lvGet_tot k m
  unfold lvGet
  split <;> omega
theorem ctSet_len (key:List UInt8) (label:Int) (ws:List Ev):(ctSet key label ws).length≤ws.length:=by
 unfold ctSet
 have h1:=cmpK_len (sortK ((ctAdds key label ws).map fun e=>e.ed.value))
 rw [(sortK_perm _).length_eq,List.length_map] at h1
 have h2:(ctAdds key label ws).length≤ws.length:=List.length_filter_le ..
 omega
theorem lvList_bd (m:KMap):(lvList m).length≤m.length * lvTot m∧∀ c∈lvList m,c.s0.length≤lvTot m∧c.s1.length≤lvTot m:=by
 constructor
 ·unfold lvList
  have key:∀ l:List (List UInt8),(l.flatMap fun k=>bkOf (lvGet k m)).length≤l.length * lvTot m:=by
   intro l
   induction l with
   | nil=>simp
   | cons k l ih =>
    have h1:=bkOf_len (lvGet k m)
    have h2:=lvGet_tot k m
    rw [List.flatMap_cons,List.length_append,List.length_cons,Nat.add_mul]
    omega
  have:=key (sortK (m.map (·.1)))
  rwa [(sortK_perm _).length_eq,List.length_map] at this
 ·intro c hc
  unfold lvList at hc
  rw [List.mem_flatMap] at hc
  obtain ⟨k,_,hc⟩:=hc
  unfold bkOf at hc
  rw [List.mem_map] at hc
  obtain ⟨q,_,rfl⟩:=hc
  have h1:(bkCounting (lvGet k m) (bkLiving (lvGet k m))).length≤(lvGet k m).length:=List.length_filter_le ..
  have h2:=lvGet_tot k m
  have h3:=ctSet_len q 0 (bkCounting (lvGet k m) (bkLiving (lvGet k m)))
  have h4:=ctSet_len q 1 (bkCounting (lvGet k m) (bkLiving (lvGet k m)))
  exact ⟨by show (ctSet q 0 _).length≤_;omega,by show (ctSet q 1 _).length≤_;omega⟩
theorem height_may {l:List Ev} (h:∀ e∈l,e.May) (c:Clk):1≤heightP l c∧heightP l c≤16777217∧IntKind.i64.wrap (heightP l c)=heightP l c:=by
 have:=height_bd (c:=c) (fun e he=>(h e he).h) (show (0:Int)≤16777216 by omega)
 have h1:heightP l c=(l.foldl (heightS c) (0,false)).1+1:=rfl
 refine ⟨by omega,by omega,wrap_in ?_⟩
 unfold I64;omega
theorem drain_mem (c:Clk) (l:List Ev):Dst l→∀ e∈(drain c l).1,e∈l:=by
 refine drain_induct (motive:=fun c l=>Dst l→∀ e∈(drain c l).1,e∈l) (fun c l h hd e he=>?_) (fun c l i hi hn ih hd e he=>?_) c l
 ·rw [drain_stop h] at he;simp at he
 ·rw [drain_step hd hi hn] at he
  rcases List.mem_cons.1 he with rfl | he
  ·exact List.getElem_mem hi
  ·exact List.mem_of_mem_eraseIdx (ih (hd.erase i) e he)
theorem frTake_may {b:List UInt8} (h:(frTake b).2=0):(frTake b).1.FMay∧(frTake b).1.fbytes=b:=by
 unfold frTake at h ⊢
 split
 ·rename_i h1;rw [if_pos h1] at h;cases h
 ·rename_i h1
  rw [if_neg h1] at h
  split
  ·rename_i h2;rw [h2] at h;cases h
  ·rename_i q h2
   rw [h2] at h
   simp only at h
   split
   ·rename_i h3;rw [h3] at h;cases h
   ·rename_i x h3
    rw [h3] at h
    simp only at h
    split
    ·rename_i h4;exact h4
    ·rename_i h4;rw [if_neg h4] at h;cases h
theorem Ev.May.I {e:Ev} (h:e.May):I64 e.n∧I64 e.h:=by
 have h1:=h.n
 have h2:=h.h
 unfold I64
 omega
theorem NSt.mk1_may {k:Nat} {c:Cfg} {r:Int} {st:NSt} {e:Ed} (ok:NOk k c r st) (hk:k≤200) (hu:st.up=true) (he:e.err=0) (hn:st.clk.get r.toNat<1048576) (hh:heightP st.log st.clk≤16777216):(st.mk1 r e).May:=by
 have h1:=ok.rg
 have h2:=ok.cm.n
 have h3:=ok.clk hu r.toNat rM
 have hl:∀ x∈st.log,x.May:=by
  have:=ok.revs
  rw [(ok.up hu).2] at this
  exact this
 refine ⟨by show 0≤r∧r<5;omega,by show 1≤st.clk.get r.toNat+1∧st.clk.get r.toNat+1≤1048576;omega,⟨(height_may hl st.clk).1,hh⟩,fun i hi=>?_,by show st.clk.get r.toNat=st.clk.get r.toNat+1 - 1;omega,he⟩
 have:=ok.clk hu i hi
 show 0≤st.clk.get i∧st.clk.get i≤1048576
 omega
end
section
theorem Star.opens:∀ (As M:List Assn),Sub (As++M) (Star As::M)
 | [],M=>Sub.drop _ (Sub.refl _)
 | A::As,M=>Sub.trans (Sub.cons A (Star.opens As M)) (Star.open1 M)
theorem Star.closes:∀ (As M:List Assn),Sub (Star As::M) (As++M)
 | [],M=>Star.nil M
 | A::As,M=>Sub.trans (Star.close1 M) (Sub.cons A (Star.closes As M))
theorem Sub.pick {A:Assn} {T L:List Assn} (i:Nat) (e:L[i]?=some A) (h:Sub T (L.eraseIdx i)):Sub (A::T) L:=Sub.trans (Sub.cons A h) (Sub.front i e)
theorem Sub.nilL:∀ L:List Assn,Sub [] L
 | []=>Sub.refl []
 | A::L=>Sub.drop A (Sub.nilL L)
theorem rP {p:Prop} (h:p:=by (repeat (first | exact Sub.refl _ | refine Sub.pick 0 rfl ?_ | refine Sub.pick 1 rfl ?_ | refine Sub.pick 2 rfl ?_ | refine Sub.pick 3 rfl ?_ | refine Sub.pick 4 rfl ?_ | refine Sub.pick 5 rfl ?_ | refine Sub.pick 6 rfl ?_ | refine Sub.pick 7 rfl ?_ | refine Sub.pick 8 rfl ?_ | refine Sub.pick 9 rfl ?_ | refine Sub.pick 10 rfl ?_ | refine Sub.pick 11 rfl ?_ | refine Sub.pick 12 rfl ?_ | refine Sub.pick 13 rfl ?_ | refine Sub.pick 14 rfl ?_ | refine Sub.pick 15 rfl ?_ | refine Sub.drop _ ?_))):p:=h
structure NX where
 gb:Nat
 gi:Nat
 go:Nat
 vl:Value
 v0:Value
 vw:Value
structure NX.One (x:NX):Prop where
 l:x.vl.oneCell'=true
 h:x.v0.oneCell'=true
 w:x.vw.oneCell'=true
@[reducible] def ndUp (gn:Nat) (c:Cfg) (r:Int) (st:NSt) (dv:Value) (ds:DS) (x:NX) (M:List Assn):List Assn :=
  InO x.gi c.h st.clk x.v0::Evs_ x.v0 st.held::NdB gn c r true dv x.vl st.sent (ptrV x.gb) (ptrV x.gi) (ptrV x.go)::DvA dv ds ::
   OxO x.go c.q c.w st.sent x.vw::Evs_ x.vw st.wait::Evs_ x.vl st.log::LvA x.gb (lvOf st.log)::M
@[reducible] def ndDn (gn:Nat) (c:Cfg) (r:Int) (dv:Value) (ds:DS) (vl:Value) (sent:Int) (b i o:Value) (M:List Assn):List Assn :=
 NdB gn c r false dv vl sent b i o::DvA dv ds::M
def NodeA (gn:Nat) (c:Cfg) (r:Int) (st:NSt):Assn:=fun h =>
 (st.up=true∧∃ dv ds x,DsOk st ds∧x.One∧Star (ndUp gn c r st dv ds x []) h) ∨
 (st.up=false∧∃ dv ds vl sent b i o,DsOk st ds∧Star (ndDn gn c r dv ds vl sent b i o []) h)
theorem NodeA.fn {P:Program} {k:FuncId} {args:Array Value} {gn:Nat} {c:Cfg} {r:Int} {st:NSt} {M:List Assn} {R:Value→List Assn→Prop}
  (hd:st.up=false→∀ dv ds vl sent b i o,DsOk st ds→Fn P k args (ndDn gn c r dv ds vl sent b i o M) R)
  (hu:st.up=true→∀ dv ds x,DsOk st ds→x.One→Fn P k args (ndUp gn c r st dv ds x M) R):Fn P k args (NodeA gn c r st::M) R:=fun F w0 w rr ⟨h,a,d,s⟩=>by
 rcases a with ⟨u,dv,ds,x,ok,o,a⟩ | ⟨u,dv,ds,vl,sent,b,i,o,ok,a⟩
 ·exact hu u dv ds x ok o F w0 w rr (Star.opens _ _ w F ⟨h,a,d,s⟩)
 ·exact hd u dv ds vl sent b i o ok F w0 w rr (Star.opens _ _ w F ⟨h,a,d,s⟩)
theorem NodeA.cls_up {gn:Nat} {c:Cfg} {r:Int} {st:NSt} {dv:Value} {ds:DS} (x:NX) (hu:st.up=true) (ok:DsOk st ds) (o:x.One) (M:List Assn) :
  Sub (NodeA gn c r st::M) (ndUp gn c r st dv ds x M) :=
 Sub.trans (Sub.cons' (fun _ a=>.inl ⟨hu,dv,ds,x,ok,o,a⟩) (Sub.refl M)) (Star.closes (ndUp gn c r st dv ds x []) M)
theorem NodeA.cls_upK {gn:Nat} {c:Cfg} {r:Int} {st:NSt} {gd:Nat} {ds:DS} (x:NX) (hu:st.up=true) (ok:DsOk st ds) (o:x.One) (M:List Assn) :
    Sub (NodeA gn c r st::M) (InO x.gi c.h st.clk x.v0::Evs_ x.v0 st.held::NdB gn c r true (ptrV gd) x.vl st.sent (ptrV x.gb) (ptrV x.gi) (ptrV x.go)::DkA gd ds ::
   OxO x.go c.q c.w st.sent x.vw::Evs_ x.vw st.wait::Evs_ x.vl st.log::LvA x.gb (lvOf st.log)::M) :=
  Sub.trans (NodeA.cls_up x hu ok o M) (Sub.cons _ (Sub.cons _ (Sub.cons _ (DvA.of _))))
theorem NodeA.cls_dn {gn:Nat} {c:Cfg} {r:Int} {st:NSt} {dv:Value} {ds:DS} {vl:Value} {sent:Int} {b i o:Value} (hu:st.up=false) (ok:DsOk st ds) (M:List Assn) :
  Sub (NodeA gn c r st::M) (ndDn gn c r dv ds vl sent b i o M) :=
 Sub.trans (Sub.cons' (fun _ a=>.inr ⟨hu,dv,ds,vl,sent,b,i,o,ok,a⟩) (Sub.refl M)) (Star.closes (ndDn gn c r dv ds vl sent b i o []) M)
theorem NodeA.cls_dnK {gn:Nat} {c:Cfg} {r:Int} {st:NSt} {gd:Nat} {ds:DS} {vl:Value} {sent:Int} {b i o:Value} (hu:st.up=false) (ok:DsOk st ds) (M:List Assn) :
  Sub (NodeA gn c r st::M) (NdB gn c r false (ptrV gd) vl sent b i o::DkA gd ds::M) :=
 Sub.trans (NodeA.cls_dn hu ok M) (Sub.cons _ (DvA.of _))
theorem Bys.nil (M:List Assn):Sub (Bys (.slice none 0 0) []::M) M:=Sub.empty (α:=UInt8) none 5 M
def NdO (gn:Nat) (c:Cfg) (r:Int) (vl:Value) (sent:Int) (b i o:Value):Assn:=fun h=>∃ up d,NdB gn c r up d vl sent b i o h
theorem NdO.val {P:Program} {op:Oper} {f:Nat→Value} {gn:Nat} {c:Cfg} {r:Int} {vl:Value} {sent:Int} {b i o:Value} {M:List Assn} {v:Value}
  (h:∀ up d,Val P op f (NdB gn c r up d vl sent b i o::M) v):Val P op f (NdO gn c r vl sent b i o::M) v:=fun F w ⟨x,⟨up,d,a⟩,dd,s⟩=>h up d F w ⟨x,a,dd,s⟩
theorem NdO.fac {gn:Nat} {c:Cfg} {r:Int} {up:Bool} {d vl:Value} {sent:Int} {b i o:Value} {L M:List Assn} (h:Sub L M) :
  Fac (NdO gn c r vl sent b i o::L) (NdB gn c r up d vl sent b i o::M):=Fac.of (Sub.cons' (fun x a=>⟨up,d,a⟩) h)
end
section
theorem NOk.log {k:Nat} {c:Cfg} {r:Int} {st:NSt} (ok:NOk k c r st) (hu:st.up=true):st.log.length≤50 * k∧∀ e∈st.log,e.May:=by
 have h1:=ok.rlen
 have h2:=ok.revs
 rw [(ok.up hu).2] at h1 h2
 exact ⟨h1,h2⟩
theorem NOk.r5 {k:Nat} {c:Cfg} {r:Int} {st:NSt} (ok:NOk k c r st):0≤r∧r<5:=by
 have h1:=ok.rg
 have h2:=ok.cm.n
 omega
theorem DsOk.mem {st st':NSt} {ds:DS} (h:DsOk st ds) (h1:st'.recs=st.recs) (h2:st'.tail=st.tail) (h3:st'.up=st.up) (h4:st'.cuts=st.cuts) (h5:st'.keep=st.keep):DsOk st' ds :=
 ⟨by rw [h1,h2];exact h.b,by rw [h3];exact h.up,by rw [h4];exact h.cut,by rw [h4,h5];exact h.keep⟩
theorem rcEv_may {k r:Int} {l:List Ev} (hk:k=1∧l.length=1∨k=2∨k=5) (hr:0≤r∧r<5) (hl:l.length≤4096) (hm:∀ e∈l,e.May):(rcEv k r l).May:=by
 refine ⟨by show 1≤k∧k≤6;omega,hr,⟨Int.le_refl _,by show (0:Int)≤1048576;omega⟩,hl,fun i hi=>?_,fun _=>rfl,fun _=>rfl,fun h=>?_,hm,fun h=>?_⟩
 ·have:Clk.zero.get i=0:=by
   match i,hi with
   | 0,_=>rfl
   | 1,_=>rfl
   | 2,_=>rfl
   | 3,_=>rfl
   | 4,_=>rfl
  show 0≤Clk.zero.get i∧Clk.zero.get i≤1048576
  omega
 ·exfalso
  apply h
  show k=1∨k=2∨k=5∨k=4
  omega
 ·have:k=1:=h
  show l.length=1
  omega
theorem NOk.disk {k:Nat} {c:Cfg} {r:Int} {st:NSt} {ds:DS} (ok:NOk k c r st) (hk:k≤200) (dok:DsOk st ds):ds.b.length≤100000000:=by
 have:=ok.size
 rw [dok.b,List.length_append]
 omega
theorem NOk.clkB {k:Nat} {c:Cfg} {r:Int} {st:NSt} (ok:NOk k c r st) (hk:k≤200) (hu:st.up=true):∀ i,i<5→0≤st.clk.get i∧st.clk.get i≤1048576:=fun i hi=>by
 have:=ok.clk hu i hi
 omega
theorem NOk.sent {k:Nat} {c:Cfg} {r:Int} {st:NSt} (ok:NOk k c r st) (hu:st.up=true):0≤st.sent∧st.sent≤1048576:=by
 have:=ok.rsent
 rw [(ok.up hu).2] at this
 exact this
theorem NOk.cI {k:Nat} {c:Cfg} {r:Int} {st:NSt} (ok:NOk k c r st) (hk:k≤200) (hu:st.up=true):st.clk.I:=fun i hi=>by
 have:=ok.clkB hk hu i hi
 unfold I64
 omega
theorem chkC_err {L P:Int} {l:List Con} {e:Ed} (h:chkC L P l e=0):e.err=0:=by
 unfold chkC at h
 split at h
 ·exact h
 ·rename_i h1;simpa using h1
end
section
set_option maxRecDepth 20000 attribute [local irreducible] Ex ExL Fn thn inb rnd fin meet Tab Mix mxEnd Val Sats RdT Rd RowT Row Blk Sub Fac ResV RVal Evs subs subs3 Hid Capd
section
attribute [local irreducible] DkA DvA NdO
theorem nState_up (gn:Nat) (c:Cfg) (r:Int) (dv vl:Value) (sent:Int) (b i o:Value) (s:DS) (log:List Ev) (M:List Assn)
  (ol:vl.oneCell'=true) (hll:log.length≤4096) (hs:∀ e∈log,e.ed.key.length≤1000∧e.ed.value.length≤1000) (hm:(⟨4,r,sent,Clk.zero,log⟩:Rcd).May)
  (hb:s.b.length+(⟨4,r,sent,Clk.zero,log⟩:Rcd).bytes.length≤140737488355328) :
  Fn Tryz.prog 45 #[ptrV gn] (NdB gn c r true dv vl sent b i o::DvA dv s::Evs_ vl log::M)
   fun v L'=>∃ gd,v=.int .i64 (s.write (⟨4,r,sent,Clk.zero,log⟩:Rcd).bytes).2∧L'=NdB gn c r (true && decide ((s.write (⟨4,r,sent,Clk.zero,log⟩:Rcd).bytes).2=0)) (ptrV gd) vl sent b i o::DkA gd (s.write (⟨4,r,sent,Clk.zero,log⟩:Rcd).bytes).1::Evs_ vl log::M:=by
 refine Fn.of_ex Tryz.func45 rfl Tryz.ntmps45 rfl ?_
 (refine rn ?_;(repeat (first | intro (o:O1 _) | intro h)))
 refine Ex.mixA 15 [NdO gn c r vl sent b i o] rfl rQ (NdO.fac (Sub.nilL _)) ?_
 (refine mn ?_;(repeat (first | intro (o:O1 _) | intro h)))
 refine mx_val rJ rJ rJ (NdO.val fun up d=>rV) ?_
 (refine mn ?_;(repeat (first | intro (o:O1 _) | intro h)))
 refine mx_val rJ rJ rJ (NdO.val fun up d=>rV) ?_
 (refine mn ?_;(repeat (first | intro (o:O1 _) | intro h)))
 refine mx_val rJ rJ rJ (NdO.val fun up d=>rV) ?_
 (refine mn ?_;(repeat (first | intro (o:O1 _) | intro h)))
 (refine mx_act rJ rJ rJ ?_;refine st_callIs [] rJ Tryz.call103 rE rJ (nwrite_F gn c r true dv vl sent b i o s ⟨4,r,sent,Clk.zero,log⟩ vl _ rD ol (by show log.length≤_;omega) hs hm hb) ?_)
 rintro _ _ ⟨gd,rfl,rfl⟩
 refine ExL.nil ?_
 refine mxEnd_n (NdO.fac (Sub.nilL _)) ?_
 (refine mn ?_;intros)
 (refine rn ?_;intros)
 (refine fr ?_)
 exact ⟨_,rB,gd,rfl,rfl⟩
end
end
end Go.Proofs.YtogcfijlhpaeeaaGreat
