/- Texts, one behind the other. No condition. -/
import Derived.Test.YtogcfijlhpaeeaaGreatZccaibcad
import Derived.Test.YtogcfijlhpaeeaaGreatZdjfmoged
import Derived.Test.YtogcfijlhpaeeaaGreatZehjcikgl
import Derived.Test.YtogcfijlhpaeeaaGreatZgaognfij
import Derived.Test.YtogcfijlhpaeeaaGreatZopgnkiea
open Go.RowKit
set_option linter.unusedSimpArgs false
set_option linter.unusedVariables false
set_option linter.unusedSectionVars false
set_option maxHeartbeats 32000000
namespace Go.Proofs.YtogcfijlhpaeeaaGreat
section
set_option maxRecDepth 20000 attribute [local irreducible] Ex ExL Fn thn inb rnd fin meet Tab Mix mxEnd Val Sats RdT Rd RowT Row Blk Sub Fac ResV RVal Evs subs subs3 Hid Capd
section
attribute [local irreducible] DkA DvA Star PoA
theorem hread_F {k:Nat} (g:Nat) (c:Cfg) (st:HSt) (up:Bool) (dv:Value) (ds:DS) (po:Value) (M:List Assn) (ok:HOk k c st) (hk:k≤200) (dok:HDsOk st ds) :
  Fn Tryz.prog 131 #[ptrV g] (HbB g c up dv po::DvA dv ds::M) fun v L'=>∃ (gd:Nat) (l:List Rcv),v.oneCell'=true∧l.map (·.x)=st.recs∧L'=Rcs_ v l::Star (l.map Rcv.ev)::HbB g c up (ptrV gd) po::DkA gd ⟨rcsB st.recs,false,false,ds.keep⟩::M:=by
 have hd:=ok.disk hk dok
 refine Fn.of_ex Tryz.func131 rfl Tryz.ntmps131 rfl ?_
 (refine rn ?_;(repeat (first | intro (g:Nat) | intro h)))
 refine st_callIs [] rJ Tryz.call129 rE rJ (hstore_F g c up dv po ds _) ?_
 rintro _ _ ⟨gd,rfl,rfl⟩
 (refine rn ?_;intros)
 refine st_callIs [1] rJ Tryz.call124 rE rJ (dk_Start gd ds _) ?_
 rintro _ _ rfl
 (refine rn ?_;intros)
 refine st_callIs [] rJ Tryz.call126 rE rJ (dk_Bytes gd ⟨ds.b,false,false,ds.keep⟩ _ (by show ds.b.length≤_;omega)) ?_
 rintro rb _ ⟨orb,rfl⟩
 (refine rn ?_;intros)
 refine st_callIs [] rJ Tryz.call125 rJ rJ (rall_F rb ds.b _ rD orb rM) ?_
 rintro _ _ ⟨l,n,u,hA,hn,ou,rfl,rfl⟩
 rw [dok.b] at hA
 obtain ⟨hl1,hn1⟩:=RcAll.of ok.tail ok.recs hA
 (refine rn ?_;intros)
 refine st_callIs [3] rJ Tryz.call127 rE rJ (dk_Trim gd ⟨ds.b,false,false,ds.keep⟩ n _ (by show ds.b.length≤_;omega)) ?_
 rintro _ _ rfl
 have htr:(⟨ds.b,false,false,ds.keep⟩:DS).trim n=⟨rcsB st.recs,false,false,ds.keep⟩:=by
  unfold DS.trim
  rw [if_pos ⟨by omega,by show (n:Int)≤(ds.b.length:Int);omega⟩]
  show (⟨ds.b.take (n:Int).toNat,_,_,_⟩:DS)=_
  rw [Int.toNat_natCast,dok.b,hn1,List.take_left]
 rw [htr]
 (refine rn ?_;intros)
 (refine fr ?_)
 exact ⟨_,rP,gd,l,ou,hl1,rfl⟩
theorem hStartA {k:Nat} (gh:Nat) (c:Cfg) (st:HSt) (M:List Assn) (ok:HOk k c st) (hk:k≤200):Fn Tryz.prog 63 #[ptrV gh] (HubA gh c st::M) fun v L'=>v=.int .i64 (st.start c).2∧L'=HubA gh c (st.start c).1::M:=by
 refine HubA.fn (fun hu dv ds po dok=>?_) (fun hu dv ds gp dok=>?_)
 case refine_2 =>
  have e:st.start c=(st,19):=by unfold HSt.start;rw [if_pos hu]
  rw [e]
  refine Fn.of_ex Tryz.func63 rfl Tryz.ntmps63 rfl ?_
  (refine rn ?_;(repeat (first | intro (g:Nat) | intro h)))
  (refine fr ?_)
  exact ⟨_,HubA.cls_up hu dok M,rfl,rfl⟩
 have hd:=ok.disk hk dok
 have hsz:=ok.size
 have hrl:=recs_len ok.recs
 have hpz:(⟨List.replicate (min (max c.n 0) 5).toNat Clk.zero,List.replicate (min (max c.n 0) 5).toNat Sf.none⟩:PSt)=PSt.zero c:=rfl
 refine Fn.of_ex Tryz.func63 rfl Tryz.ntmps63 rfl ?_
 (refine rn ?_;(repeat (first | intro (g:Nat) | intro h)))
 refine st_callIs [] rJ Tryz.call130 rJ rJ (post_NewA c _) ?_
 rw [hpz]
 rintro _ _ ⟨gp,rfl,rfl⟩
 (refine rn ?_;(repeat (first | intro (g:Nat) | intro h)))
 refine ExL.sub (L':=HbB gh c false dv (ptrV gp)::DvA dv ds::PoA gp c.w (PSt.zero c)::M) ?_ rP
 refine st_callIs [] rJ Tryz.call131 rE rJ (hread_F (k:=k) gh c st false dv ds (ptrV gp) _ ok hk dok) ?_
 rintro u _ ⟨gd,l,ou,hl1,rfl⟩
 have hll:l.length=st.recs.length:=by rw [← hl1,List.length_map]
 (refine rn ?_;(repeat (first | intro (g:Nat) | intro h)))
 refine Ex.sub (L':=PoA gp c.w (PSt.zero c)::HbB gh c false (ptrV gd) (ptrV gp)::Rcs_ u l::Star (l.map Rcv.ev)::DkA gd ⟨rcsB st.recs,false,false,ds.keep⟩::M) ?_ rP
 refine Ex.loop [23] (fun z vs L'=>∃ (j:Nat),j≤l.length∧z=l.length - j∧vs=[.int .i64 j]∧L'=PoA gp c.w (hreplay c (st.recs.take j))::HbB gh c false (ptrV gd) (ptrV gp)::Rcs_ u l::Star (l.map Rcv.ev)::DkA gd ⟨rcsB st.recs,false,false,ds.keep⟩::M) l.length ⟨0,by omega,rfl,rfl,rfl⟩ ?_
 rintro z vs g1 L1 ⟨j,hj,rfl,rfl,rfl⟩
 refine Ex.keep [0,21,22,23] rG (fun gk=>?_)
 by_cases hlt:j<l.length
 ·have hjr:j<st.recs.length:=by omega
  have hxe:st.recs[j]'hjr=(l[j]'hlt).x:=by simp [← hl1]
  have hrep:hreplay c (st.recs.take (j+1))=hpStep c (hreplay c (st.recs.take j)) (l[j]'hlt).x:=by rw [List.take_succ_eq_append_getElem hjr,hreplay_snoc,hxe]
  have hmx:(l[j]'hlt).x.May:=by rw [← hxe];exact ok.recs _ (List.getElem_mem hjr)
  have hmm:=hmx.m
  have hov:(l[j]'hlt).v.oneCell'=true:=(l[j]'hlt).o
  have hpk:=hreplay_pok ok.cm hk ok.post j
  have hrd:∀ L,RdT (Star (l.map Rcv.ev)::L) (l[j]'hlt).v (l[j]'hlt).x.l:=fun L=>(RdT.row (L:=Evs_ (l[j]'hlt).v (l[j]'hlt).x.l::Star ((l.map Rcv.ev).eraseIdx j)::L) 0 rfl).sub (Star.focus (As:=l.map Rcv.ev) (i:=j) L (by simp [hlt];rfl))
  generalize hreplay c (st.recs.take j)=p at *
  by_cases k5:(l[j]'hlt).x.kind=5
  ·have hst:hpStep c p (l[j]'hlt).x=(p.push c.w (l[j]'hlt).x.r (l[j]'hlt).x.l).2.2:=by unfold hpStep;rw [if_pos k5,pushC_eq]
   (refine rn ?_;(repeat (first | intro (g:Nat) | intro h)))
   revert g
   intro g4
   refine Ex.reord [1] rE ?_
   (refine Ex.mixA 9 (_::_::_::_::_::M) rfl rQ rF ?_;(refine mn ?_;(repeat (first | intro (g:Nat) | intro h))))
   (refine mx_act rJ rJ rJ ?_;refine st_callIs [] rJ Tryz.call132 rE rJ (post_PushA gp c.w p (l[j]'hlt).x.r (l[j]'hlt).v (l[j]'hlt).x.l _ hpk ((hrd []).sub (Sub.pick 3 rfl (Sub.nilL _))) rM (fun y hy=>(hmx.l y hy).I.1)) ?_)
   rintro _ _ ⟨rfl,rfl⟩
   (refine ExL.nil ?_;refine mxEnd_n rF ?_;(refine mn ?_;(repeat (first | intro (g:Nat) | intro h))))
   (refine rn ?_;(repeat (first | intro (g:Nat) | intro h)))
   refine rnd_n ⟨l.length - (j+1),PoA gp c.w (hreplay c (st.recs.take (j+1)))::HbB gh c false (ptrV gd) (ptrV gp)::Rcs_ u l::Star (l.map Rcv.ev)::DkA gd ⟨rcsB st.recs,false,false,ds.keep⟩::M,by omega,?_,j+1,by omega,rfl,lcons (vint rM) rfl,rfl⟩
   rw [hrep,hst]
   exact rP
  ·by_cases k6:(l[j]'hlt).x.kind=6
   ·have hst:hpStep c p (l[j]'hlt).x=(p.ack (l[j]'hlt).x.r (l[j]'hlt).x.c).2:=by unfold hpStep;rw [if_neg k5,if_pos k6]
    (refine rn ?_;(repeat (first | intro (g:Nat) | intro h)))
    revert g
    intro g4
    refine Ex.reord [1] rE ?_
    (refine Ex.mixA 9 (_::_::_::_::_::M) rfl rQ rF ?_;(refine mn ?_;intros))
    (refine mx_act rJ rJ rJ ?_;refine st_callIs [] rJ Tryz.call133 rE rJ (post_AckA gp c.w p (l[j]'hlt).x.r (l[j]'hlt).x.c _ hpk) ?_)
    rintro _ _ ⟨rfl,rfl⟩
    (refine mw ?_;intros)
    (refine rn ?_;intros)
    refine rnd_n ⟨l.length - (j+1),PoA gp c.w (hreplay c (st.recs.take (j+1)))::HbB gh c false (ptrV gd) (ptrV gp)::Rcs_ u l::Star (l.map Rcv.ev)::DkA gd ⟨rcsB st.recs,false,false,ds.keep⟩::M,by omega,?_,j+1,by omega,rfl,lcons (vint rM) rfl,rfl⟩
    rw [hrep,hst]
    exact rP
   ·have hst:hpStep c p (l[j]'hlt).x=p:=by unfold hpStep;rw [if_neg k5,if_neg k6]
    (refine rn ?_;intros)
    refine rnd_n ⟨l.length - (j+1),PoA gp c.w (hreplay c (st.recs.take (j+1)))::HbB gh c false (ptrV gd) (ptrV gp)::Rcs_ u l::Star (l.map Rcv.ev)::DkA gd ⟨rcsB st.recs,false,false,ds.keep⟩::M,by omega,?_,j+1,by omega,rfl,lcons (vint rM) rfl,rfl⟩
    rw [hrep,hst]
    exact rP
 ·obtain rfl:j=l.length:=by omega
  rw [hll,List.take_length]
  (refine rn ?_;intros)
  (refine fr ?_)
  have e:st.start c=({ st with up:=true,tail:=[],cuts:=false,post:=hreplay c st.recs },0):=by unfold HSt.start;rw [if_neg (by rw [hu];simp)]
  rw [e]
  exact ⟨_,Sub.trans (HubA.cls_upK (st:={ st with up:=true,tail:=[],cuts:=false,post:=hreplay c st.recs }) (gd:=gd) (gp:=gp) (ds:=⟨rcsB st.recs,false,false,ds.keep⟩) rfl ⟨by simp,fun _=>rfl,rfl,(fun h=>by cases h)⟩ M) rP,rfl,rfl⟩
def HSt.fresh (c:Cfg):HSt:=⟨false,[],[],false,0,PSt.zero c⟩
theorem HSt.fresh_ok {c:Cfg} (hc:c.May):HOk 0 c (HSt.fresh c):=by
 have h1:=hc.n
 refine ⟨hc,by simp [HSt.fresh],rfl,Nat.le_refl _,⟨?_,?_,fun x hx=>?_,fun x hx=>?_⟩,(fun h=>by cases h),by simp [HSt.fresh]⟩
 ·show ((List.replicate (min (max c.n 0) 5).toNat Sf.none).length:Int)=c.n
  rw [List.length_replicate];omega
 ·show (List.replicate (min (max c.n 0) 5).toNat Clk.zero).length=(List.replicate (min (max c.n 0) 5).toNat Sf.none).length
  rw [List.length_replicate,List.length_replicate]
 ·have:=List.eq_of_mem_replicate hx
  subst this
  refine ⟨Nat.le_refl _,Nat.le_refl _,?_,by simp [Sf.none]⟩
  have:=hc.w
  show ((0 - 0:Nat):Int)≤c.w
  omega
 ·have:=List.eq_of_mem_replicate hx
  subst this
  intro i hi
  rw [zero_get]
  omega
theorem hNewA (c:Cfg) (M:List Assn) (hc:c.May):Fn Tryz.prog 55 #[.agg (Rep.cells c).toArray] M
  fun v L'=>∃ gh,v=.tuple #[ptrV gh,.int .i64 0]∧L'=HubA gh c ((HSt.fresh c).start c).1::M:=by
 refine Fn.of_ex Tryz.func55 rfl Tryz.ntmps55 rfl ?_
 (refine rn ?_;(repeat (first | intro (g:Nat) | intro h)))
 refine st_callIs [] rJ Tryz.call119 rJ rJ (may_F c _) ?_
 rintro _ _ ⟨rfl,rfl⟩
 have hmay:mayC c=true:=by
  have h1:=hc.n
  have h2:=hc.w
  have h3:=hc.q
  have h4:=hc.h
  have h5:=hc.l
  have h6:=hc.p
  unfold mayC inB
  simp [*]
 rw [hmay]
 (refine rn ?_;(repeat (first | intro (g:Nat) | intro h)))
 revert g
 intro gh
 refine ExL.sub (L':=HubA gh c (HSt.fresh c)::M) ?_ (Sub.trans (HubA.cls_dn (st:=HSt.fresh c) (dv:=nilP) (ds:=DS.zero) (po:=nilP) rfl ⟨rfl,(fun h=>by cases h),rfl,(fun h=>by cases h)⟩ M) (Sub.trans (Sub.cons _ (DvA.nil_ M)) rP))
 refine st_callIs [] rJ Tryz.call63 rE rJ (hStartA (k:=0) gh c (HSt.fresh c) M (HSt.fresh_ok hc) rM) ?_
 rintro _ _ ⟨rfl,rfl⟩
 (refine rn ?_;intros)
 (refine fr ?_)
 exact ⟨_,rP,gh,rfl,rfl⟩
end
section
theorem getD_mem_or {α:Type} (l:List α) (i:Nat) (d:α):l.getD i d∈l∨l.getD i d=d:=by
 by_cases h:i<l.length
 ·left
  rw [show l.getD i d=l[i]'h by simp [List.getD_eq_getElem?_getD,h]]
  exact List.getElem_mem h
 ·right
  have h2:l.length≤i:=by omega
  simp [List.getD_eq_getElem?_getD,List.getElem?_eq_none h2]
theorem fetch_bd {k:Nat} {c:Cfg} {p:PSt} (h:PStOk k c p) (hc:c.May) (r:Int) (ck:Clk):(p.fetch r ck).1.length≤20∧∀ e∈(p.fetch r ck).1,e.May:=by
 have hw:=hc.w
 have hn:=hc.n
 have h1:∀ i,((above (ck.get i) ((p.sf.getD i Sf.none).all.drop (p.sf.getD i Sf.none).cut)).length:Int)≤c.w∧∀ e∈above (ck.get i) ((p.sf.getD i Sf.none).all.drop (p.sf.getD i Sf.none).cut),e.May:=fun i=>by
  rcases getD_mem_or p.sf i Sf.none with hm | hm
  ·have h2:=h.s _ hm
   have h3:(above (ck.get i) ((p.sf.getD i Sf.none).all.drop (p.sf.getD i Sf.none).cut)).length≤((p.sf.getD i Sf.none).all.drop (p.sf.getD i Sf.none).cut).length:=by unfold above;exact List.length_filter_le ..
   rw [List.length_drop] at h3
   refine ⟨by have:=h2.2.2.1;omega,fun e he=>h2.2.2.2 e ?_⟩
   unfold above at he
   exact List.mem_of_mem_drop (List.mem_filter.1 he).1
  ·rw [hm]
   refine ⟨by show ((above _ []).length:Int)≤c.w;simp [above];omega,fun e he=>by simp [Sf.none,above] at he⟩
 have key:∀ j,((p.getN r ck j).length:Int)≤j * c.w∧∀ e∈p.getN r ck j,e.May:=by
  intro j
  induction j with
  | zero=>exact ⟨by simp [PSt.getN],by simp [PSt.getN]⟩
  | succ j ih =>
   have h2:=h1 j
   have e1:((j+1:Nat):Int) * c.w=j * c.w+c.w:=by rw [Int.natCast_add,Int.add_mul];simp
   unfold PSt.getN
   split
   ·refine ⟨by rw [List.length_append,e1];omega,fun e he=>?_⟩
    rcases List.mem_append.1 he with he | he
    ·exact ih.2 e he
    ·exact h2.2 e he
   ·exact ⟨by rw [e1];omega,ih.2⟩
 unfold PSt.fetch
 split
 ·exact ⟨by simp,by simp⟩
 ·have h2:=key p.sf.length
  refine ⟨?_,h2.2⟩
  have h3:(p.sf.length:Int) * c.w≤5 * 4:=Int.mul_le_mul (by have:=h.n;omega) rM rM rM
  have:=h2.1
  simp only
  omega
theorem push_bd {k:Nat} {c:Cfg} {p:PSt} (h:PStOk k c p) (most r:Int) (l:List Ev):0≤(p.pushC most r l).1∧(p.pushC most r l).1≤50 * k+l.length∧((p.pushC most r l).2.1≠0→(p.pushC most r l).2.2=p):=by
 have h1:(p.sf.getD r.toNat Sf.none).all.length≤50 * k:=by
  rcases getD_mem_or p.sf r.toNat Sf.none with hm | hm
  ·exact (h.s _ hm).2.1
  ·rw [hm];exact Nat.zero_le _
 have h2:((p.sf.getD r.toNat Sf.none).putS most l).2.length≤l.length:=by
  unfold Sf.putS putC
  split
  ·exact Nat.zero_le _
  ·split
   ·exact Nat.zero_le _
   ·exact List.length_filter_le ..
 unfold PSt.pushC
 split
 ·exact ⟨Int.le_refl _,by simp only;omega,fun _=>rfl⟩
 ·split
  ·exact ⟨Int.le_refl _,by simp only;omega,fun _=>rfl⟩
  ·refine ⟨by simp only;omega,by simp only [List.length_append];omega,fun h=>absurd rfl h⟩
theorem pushed_may {r u:Int} (hr:0≤r∧r<5) (hu:0≤u∧u≤1048576):(⟨2,r,u,Clk.zero,[]⟩:Rcd).FMay:=by
 refine ⟨by show (1:Int)≤2∧(2:Int)≤5;omega,hr,hu,fun h=>absurd rfl h,fun _=>rfl,fun _=>rfl,fun i hi=>?_,by simp,fun h=>?_,by simp,by simp⟩
 ·show 0≤Clk.zero.get i∧Clk.zero.get i≤1048576
  rw [zero_get];omega
 ·have:(2:Int)=1:=h
  omega
theorem evs_may {r:Int} {l:List Ev} (hr:0≤r∧r<5) (hl:l.length≤20) (hm:∀ e∈l,e.May):(⟨4,r,0,Clk.zero,l⟩:Rcd).FMay:=by
 refine ⟨by show (1:Int)≤4∧(4:Int)≤5;omega,hr,by show (0:Int)≤0∧(0:Int)≤1048576;omega,fun _=>rfl,fun _=>rfl,fun h=>absurd (.inr rfl) h,fun i hi=>?_,hl,fun h=>?_,hm,fun h=>?_⟩
 ·show 0≤Clk.zero.get i∧Clk.zero.get i≤1048576
  rw [zero_get];omega
 ·have:(4:Int)=1:=h
  omega
 ·have:(4:Int)=1:=h
  omega
attribute [local irreducible] DkA DvA Star PoA
theorem hreply_F (f:Rcd) (v0:Value) (M:List Assn) (hm:f.FMay) (hr:RdT M v0 f.l) (o0:v0.oneCell'=true):Fn Tryz.prog 198 #[.agg (rcC f v0).toArray] M
  fun v L'=>∃ u,u.oneCell'=true∧v=.tuple #[.int .i64 f.r,u,.int .i64 0]∧L'=Bys u f.fbytes::M:=by
 have hfl:=hm.m
 refine Fn.of_ex Tryz.func198 rfl Tryz.ntmps198 rfl ?_
 (refine rn ?_;intros)
 refine st_callIs [] rJ Tryz.call109 rJ rJ (fput_F f v0 _ (hr.sub rB) o0 rM (fun y hy=>by have:=(hm.l y hy).lens;omega)) ?_
 rintro _ _ (⟨hn,_,_⟩ | ⟨_,u,ou,rfl,rfl⟩)
 ·exact absurd hm hn
 (refine rn ?_;intros)
 (refine fr ?_)
 exact ⟨_,rP,u,ou,rfl,rfl⟩
theorem hfetch_F {k:Nat} (gh gp:Nat) (c:Cfg) (st:HSt) (f:Rcd) (v0:Value) (dv:Value) (ds:DS) (M:List Assn) (ok:HOk k c st) (hk:k≤200) (hu:st.up=true) (dok:HDsOk st ds) (hm:f.FMay) (o0:v0.oneCell'=true) (hrn:f.r<c.n) :
  Fn Tryz.prog 137 #[ptrV gh,.agg (rcC f v0).toArray] (hbUp gh gp c st dv ds M)
  fun v L'=>∃ u,u.oneCell'=true∧v=.tuple #[.int .i64 (st.fetch f.r f.c).1,u,.int .i64 (st.fetch f.r f.c).2.2]∧L'=Bys u (frB (st.fetch f.r f.c).2)::HubA gh c st::M:=by
 have hpo:=ok.post
 rw [(ok.up hu).2] at hpo
 have hpk:=ok.pok hk hu
 obtain ⟨hf1,hf2⟩:=fetch_bd hpo ok.cm f.r f.c
 have hr5:=hm.r
 have hpn:=hpo.n
 have hhas:(st.post.fetch f.r f.c).2=0:=by unfold PSt.fetch;rw [if_neg (fun h=>h ⟨hr5.1,by omega⟩)]
 have e:st.fetch f.r f.c=(f.r,(⟨4,f.r,0,Clk.zero,(st.post.fetch f.r f.c).1⟩,0)):=by unfold HSt.fetch;rw [if_neg (by rw [hhas];simp)]
 rw [e]
 refine Fn.of_ex Tryz.func137 rfl Tryz.ntmps137 rfl ?_
 (refine rn ?_;(repeat (first | intro (g:Nat) | intro h)))
 revert g
 intro g3
 refine Ex.reord [3] rE ?_
 (refine mu13 ?_;intros)
 (refine mx_act rJ rJ rJ ?_;refine st_callIs [] rJ Tryz.call199 rE rJ (post_FetchA gp c.w st.post f.r f.c _ hpk) ?_)
 rintro _ _ ⟨u,ou,rfl,rfl⟩
 rw [hhas]
 (refine mw ?_;intros)
 (repeat' (first | (refine m1 ?_;intros) | (refine mx_gsplit rJ rJ rJ (fun h=>?_) (fun h=>?_) <;> try (exfalso;omega))))
 (refine rn ?_;intros)
 refine st_callIs [] rJ Tryz.call198 rJ rJ (hreply_F ⟨4,f.r,0,Clk.zero,(st.post.fetch f.r f.c).1⟩ u _ (evs_may hr5 hf1 hf2) rD ou) ?_
 rintro _ _ ⟨u2,ou2,rfl,rfl⟩
 (refine rn ?_;intros)
 (refine fr ?_)
 exact ⟨_,Sub.cons _ (Sub.trans (HubA.cls_up hu dok M) rP),u2,ou2,rfl,rfl⟩
theorem clkOf_len (p:PSt) (r:Int) (hr:0≤r∧r<5):(clkOf p.lenF).get r.toNat=p.lenF r.toNat:=clkOf_get _ _ rM
theorem hpush_F {k:Nat} (gh gp:Nat) (c:Cfg) (st:HSt) (f:Rcd) (v0:Value) (dv:Value) (ds:DS) (M:List Assn) (ok:HOk k c st) (hk:k≤198) (hu:st.up=true) (dok:HDsOk st ds) (hm:f.FMay) (hk1:f.kind=1) (hr:RdT M v0 f.l) (o0:v0.oneCell'=true) (hrn:f.r<c.n) :
  Fn Tryz.prog 136 #[ptrV gh,.agg (rcC f v0).toArray] (hbUp gh gp c st dv ds M)
  fun v L'=>∃ u,u.oneCell'=true∧v=.tuple #[.int .i64 (st.push c f.r f.l).2.1,u,.int .i64 (st.push c f.r f.l).2.2.2]∧L'=Bys u (frB (st.push c f.r f.l).2.2)::HubA gh c (st.push c f.r f.l).1::M:=by
 have hpo:=ok.post
 rw [(ok.up hu).2] at hpo
 have hpk:=ok.pok rM hu
 have hr5:=hm.r
 have hm20:=hm.m
 have hsite:st.post.site=⟨clkOf st.post.baseF,clkOf st.post.lenF,st.post.told.getD 0 Clk.zero,st.post.told.getD 1 Clk.zero,st.post.told.getD 2 Clk.zero,st.post.told.getD 3 Clk.zero,st.post.told.getD 4 Clk.zero⟩:=rfl
 have hln:=clkOf_len st.post f.r hr5
 refine Fn.of_ex Tryz.func136 rfl Tryz.ntmps136 rfl ?_
 (refine rn ?_;(repeat (first | intro (g:Nat) | intro h)))
 revert g
 intro g3
 refine Ex.reord [3] rE ?_
 (refine mu9 ?_;intros)
 (refine mx_act rJ rJ rJ ?_;refine st_callIs [] rJ Tryz.call92 rE rJ (post_SiteA gp c.w st.post _ hpk) ?_)
 rintro _ _ ⟨rfl,rfl⟩
 rw [hsite]
 generalize clkOf st.post.baseF=z0 at *
 generalize clkOf st.post.lenF=z1 at *
 generalize st.post.told.getD 0 Clk.zero=z2
 generalize st.post.told.getD 1 Clk.zero=z3
 generalize st.post.told.getD 2 Clk.zero=z4
 generalize st.post.told.getD 3 Clk.zero=z5
 generalize st.post.told.getD 4 Clk.zero=z6
 (refine mw ?_;intros)
 (repeat' (first | (refine m1 ?_;intros) | (refine mx_gsplit rJ rJ rJ (fun h=>?_) (fun h=>?_) <;> try (exfalso;omega))))
 refine mx_val rJ rJ rJ (vl_fieldV rJ rJ rJ rJ rJ rJ rE) ?_
 (repeat' (first | (refine m1 ?_;intros) | (refine mx_gsplit rJ rJ rJ (fun h=>?_) (fun h=>?_) <;> try (exfalso;omega))))
 refine mx_val rJ rJ rJ (vl_indexC rJ rJ rJ rJ rJ hr5.1 hr5.2) ?_
 (repeat' (first | (refine m1 ?_;intros) | (refine mx_gsplit rJ rJ rJ (fun h=>?_) (fun h=>?_) <;> try (exfalso;omega))))
 have hln2:(⟨z1.a,z1.b,z1.c,z1.d,z1.e⟩:Clk).get f.r.toNat=st.post.lenF f.r.toNat:=hln
 rw [hln2]
 clear hsite hln hln2
 (refine rn ?_;intros)
 (refine Ex.mixA 13 (_::_::_::M) rfl rQ rF ?_;(refine mn ?_;intros))
 (refine mx_act rJ rJ rJ ?_;refine st_callIs [] rJ Tryz.call132 rE rJ (post_PushA gp c.w st.post f.r v0 f.l _ hpk (hr.sub rP) rM (fun y hy=>(hm.l y hy).I.1)) ?_)
 rintro _ _ ⟨rfl,rfl⟩
 rw [pushC_eq]
 have hpb:=push_bd hpo c.w f.r f.l
 have hpe:∀ n er p2,st.post.pushC c.w f.r f.l=(n,er,p2)→st.push c f.r f.l=if er≠0 then (st,-1,(Rcd.zero,er)) else if n=st.post.lenF f.r.toNat then ({ st with post:=p2 },f.r,(⟨2,f.r,n,Clk.zero,[]⟩,0)) else
   if (st.write (rcEv 5 f.r f.l)).2≠0 then ((st.write (rcEv 5 f.r f.l)).1,-1,(Rcd.zero,18)) else ({ (st.write (rcEv 5 f.r f.l)).1 with post:=p2 },f.r,(⟨2,f.r,n,Clk.zero,[]⟩,0)):=fun n er p2 h=>by
  unfold HSt.push;rw [h]
 obtain ⟨⟨n,er,p2⟩,hp⟩:∃ p,st.post.pushC c.w f.r f.l=p:=⟨_,rfl⟩
 rw [hpe n er p2 hp]
 rw [hp] at hpb ⊢
 clear hpe
 simp only at hpb
 (refine mw ?_;intros)
 (repeat' (first | (refine m1 ?_;intros) | (refine mx_gsplit rJ rJ rJ (fun h=>?_) (fun h=>?_) <;> try (exfalso;omega))))
 by_cases her:er=0
 case neg =>
  rw [if_pos her]
  obtain rfl:=hpb.2.2 her
  (refine rn ?_;intros)
  (refine fr ?_)
  exact ⟨_,Sub.trans (Bys.nil _) (Sub.trans (HubA.cls_up hu dok M) rP),.slice none 0 0,rfl,rfl,by unfold frB;rw [if_neg her]⟩
 subst her
 rw [if_neg (by simp)]
 by_cases hnl:n=st.post.lenF f.r.toNat
 ·rw [if_pos hnl]
  (refine rn ?_;intros)
  refine st_callIs [] rJ Tryz.call198 rJ rJ (hreply_F ⟨2,f.r,n,Clk.zero,[]⟩ (.slice none 0 0) _ (pushed_may hr5 rM) (RdT.nil _) rfl) ?_
  rintro _ _ ⟨u2,ou2,rfl,rfl⟩
  (refine rn ?_;intros)
  (refine fr ?_)
  exact ⟨_,Sub.cons _ (Sub.trans (HubA.cls_up (st:={ st with post:=p2 }) hu (dok.mem rfl rfl rfl rfl rfl) M) rP),u2,ou2,rfl,rfl⟩
 ·rw [if_neg hnl]
  have hrm:=rcEv_may (k:=5) (l:=f.l) (.inr (.inr rfl)) hr5 rM hm.l
  have hb:=Rcd.bytes_len _ hrm
  have hd:=ok.disk rM dok
  have hl0:(rcEv 5 f.r f.l).l.length=f.l.length:=rfl
  obtain ⟨d1,d2⟩:=dok.write hu (ok.up hu).1 (rcEv 5 f.r f.l)
  obtain ⟨w1,w2⟩:=st.write_up (rcEv 5 f.r f.l)
  (refine rn ?_;intros)
  refine Ex.sub (L':=HbB gh c true dv (ptrV gp)::DvA dv ds::PoA gp c.w p2::Blk g3 192 (rcC f v0)::M) ?_ rP
  refine Ex.mixA 9 [Blk g3 192 (rcC f v0)] rfl rQ (Fac.of (Sub.pick 3 rfl (Sub.nilL _))) ?_
  (refine mn ?_;intros)
  (refine mx_act rJ rJ rJ ?_;refine st_callIs [] rJ Tryz.call197 rE rJ (hwrite_F gh c true dv (ptrV gp) ds (rcEv 5 f.r f.l) v0 _ (hr.sub rP) o0 rM (fun y hy=>by have:=(hm.l y hy).lens;omega) hrm rM) ?_)
  rintro _ _ ⟨gd,rfl,rfl⟩
  rw [d2]
  refine ExL.nil ?_
  refine mxEnd_n (Fac.of (Sub.pick 3 rfl (Sub.nilL _))) ?_
  (refine mn ?_;intros)
  rcases st.write_e (rcEv 5 f.r f.l) with h0 | h0
  ·have w1:=w1 h0
   rw [if_neg (by rw [h0];simp),h0,w1]
   rw [w1] at d1
   have e2:(true && decide ((0:Int)=0))=true:=rfl
   rw [e2]
   (refine rn ?_;intros)
   refine st_callIs [] rJ Tryz.call198 rJ rJ (hreply_F ⟨2,f.r,n,Clk.zero,[]⟩ (.slice none 0 0) _ (pushed_may hr5 rM) (RdT.nil _) rfl) ?_
   rintro _ _ ⟨u2,ou2,rfl,rfl⟩
   (refine rn ?_;intros)
   (refine fr ?_)
   exact ⟨_,Sub.cons _ (Sub.trans (HubA.cls_upK (st:={ st with recs:=st.recs++[rcEv 5 f.r f.l],post:=p2 }) hu (d1.mem rfl rfl rfl rfl rfl) M) rP),u2,ou2,rfl,rfl⟩
  ·rw [if_pos (by rw [h0];simp),h0]
   have e2:(true && decide ((18:Int)=0))=false:=rfl
   rw [e2]
   (refine rn ?_;intros)
   (refine fr ?_)
   exact ⟨_,Sub.trans (Bys.nil _) (Sub.trans (HubA.cls_dnK (w2 (by rw [h0];simp)) d1 M) rP),.slice none 0 0,rfl,rfl,rfl⟩
end
end
section
section
variable {P:Program} {f:Nat→Value} {L:List Assn} {d:Nat} {ty:TypeId} {pos:String} {af:Array Edge} {gd:Option (Nat×Bool)}
theorem vl_indexK {t e:TypeId} {x y:Operand} {k:IntKind} {j:Int} {c0 c1 c2 c3 c4:Clk} (hx:evalF f x=.agg (Rep.cells c0++Rep.cells c1++Rep.cells c2++Rep.cells c3++Rep.cells c4).toArray) (hy:evalF f y=.int k j) (hu:P.underlying t=some (.array 5 e)) (hA:aggB P e=some true) (hs:P.cellsOf e=5) (h0:0≤j) (h1:j<5) :
  Val P ⟨some d,.index t x y,ty,pos,af,gd⟩ f L (.agg (Rep.cells ([c0,c1,c2,c3,c4].getD j.toNat Clk.zero)).toArray):=fun F w h=>by
 obtain ⟨i,rfl⟩:=Int.eq_ofNat_of_zero_le h0
 have hi:i=0∨i=1∨i=2∨i=3∨i=4:=by omega
 rcases hi with rfl | rfl | rfl | rfl | rfl <;>
 ·simp [execOp,hx,hy,Instr.index,run_underlying hu,asIntOf,part,run_isAgg w hA,run_sizeOf' w hs rM]
  rfl
end
theorem ack_pok {B:Nat} {p:PSt} (h:p.Ok B) (r:Int) (c:Clk):(p.ack r c).2.Ok B:=by
 have hle:=ack_le p r c
 have ha:=ack_alls p r c
 have hok:=ack_ok (p:=p) (fun x hx=>(h.s x hx).1) r c
 refine ⟨by rw [← hle.1];exact h.n,by rw [← hle.1,← hle.2.1];exact h.t,fun x hx=>⟨hok x hx,?_⟩⟩
 have hm:x.all∈(p.ack r c).2.alls:=List.mem_map_of_mem hx
 rw [ha] at hm
 obtain ⟨y,hy,he⟩:=List.mem_map.1 hm
 rw [← he]
 exact (h.s y hy).2
theorem acks_get (told:List Clk) {r:Int} (hr:0≤r∧r<5):[told.getD 0 Clk.zero,told.getD 1 Clk.zero,told.getD 2 Clk.zero,told.getD 3 Clk.zero,told.getD 4 Clk.zero].getD r.toNat Clk.zero=told.getD r.toNat Clk.zero:=by
 have hi:r.toNat=0∨r.toNat=1∨r.toNat=2∨r.toNat=3∨r.toNat=4:=by omega
 rcases hi with h | h | h | h | h <;> rw [h] <;> rfl
theorem ack_may {r:Int} {c:Clk} (hr:0≤r∧r<5) (hc:∀ i,i<5→0≤c.get i∧c.get i≤1048576):(⟨6,r,0,c,[]⟩:Rcd).May:=by
 refine ⟨by show (1:Int)≤6∧(6:Int)≤6;omega,hr,by show (0:Int)≤0∧(0:Int)≤1048576;omega,by simp,hc,fun _=>rfl,fun h=>absurd rfl h,fun _=>rfl,by simp,fun h=>?_⟩
 have:(6:Int)=1:=h
 omega
set_option maxRecDepth 20000 attribute [local irreducible] Ex ExL Fn thn inb rnd fin meet Tab Mix mxEnd Val Sats RdT Rd RowT Row Blk Sub Fac ResV RVal Evs subs subs3 Hid Capd
attribute [local irreducible] DkA DvA Star PoA
theorem hack_F {k:Nat} (gh gp:Nat) (c:Cfg) (st:HSt) (f:Rcd) (v0:Value) (dv:Value) (ds:DS) (M:List Assn) (ok:HOk k c st) (hk:k≤198) (hu:st.up=true) (dok:HDsOk st ds) (hm:f.FMay) (o0:v0.oneCell'=true) (hrn:f.r<c.n) :
  Fn Tryz.prog 138 #[ptrV gh,.agg (rcC f v0).toArray] (hbUp gh gp c st dv ds M)
  fun v L'=>v=.int .i64 (st.ack f.r f.c).2∧L'=HubA gh c (st.ack f.r f.c).1::M:=by
 have hpo:=ok.post
 rw [(ok.up hu).2] at hpo
 have hpk:=ok.pok rM hu
 have hr5:=hm.r
 have hpn:=hpo.n
 have hhas:(st.post.ack f.r f.c).1=0:=by unfold PSt.ack;rw [if_neg (fun h=>h ⟨hr5.1,by omega⟩)]
 have hpk2:=ack_pok hpk f.r f.c
 have he:st.ack f.r f.c=if (st.post.ack f.r f.c).2.told.getD f.r.toNat Clk.zero=st.post.told.getD f.r.toNat Clk.zero then ({ st with post:=(st.post.ack f.r f.c).2 },0) else
   if (st.write ⟨6,f.r,0,f.c,[]⟩).2≠0 then ((st.write ⟨6,f.r,0,f.c,[]⟩).1,18) else ({ (st.write ⟨6,f.r,0,f.c,[]⟩).1 with post:=(st.post.ack f.r f.c).2 },0):=by
  unfold HSt.ack;rw [if_neg (by rw [hhas];simp)]
 rw [he]
 clear he
 have h1:=acks_get st.post.told hr5
 have h2:=acks_get (st.post.ack f.r f.c).2.told hr5
 have hs1:st.post.site=⟨clkOf st.post.baseF,clkOf st.post.lenF,st.post.told.getD 0 Clk.zero,st.post.told.getD 1 Clk.zero,st.post.told.getD 2 Clk.zero,st.post.told.getD 3 Clk.zero,st.post.told.getD 4 Clk.zero⟩:=rfl
 have hs2:(st.post.ack f.r f.c).2.site=⟨clkOf (st.post.ack f.r f.c).2.baseF,clkOf (st.post.ack f.r f.c).2.lenF,(st.post.ack f.r f.c).2.told.getD 0 Clk.zero,(st.post.ack f.r f.c).2.told.getD 1 Clk.zero,(st.post.ack f.r f.c).2.told.getD 2 Clk.zero,(st.post.ack f.r f.c).2.told.getD 3 Clk.zero,(st.post.ack f.r f.c).2.told.getD 4 Clk.zero⟩:=rfl
 generalize st.post.told.getD 0 Clk.zero=a0 at *
 generalize st.post.told.getD 1 Clk.zero=a1 at *
 generalize st.post.told.getD 2 Clk.zero=a2 at *
 generalize st.post.told.getD 3 Clk.zero=a3 at *
 generalize st.post.told.getD 4 Clk.zero=a4 at *
 generalize clkOf st.post.baseF=z0 at *
 generalize clkOf st.post.lenF=z1 at *
 generalize (st.post.ack f.r f.c).2.told.getD 0 Clk.zero=b0 at *
 generalize (st.post.ack f.r f.c).2.told.getD 1 Clk.zero=b1 at *
 generalize (st.post.ack f.r f.c).2.told.getD 2 Clk.zero=b2 at *
 generalize (st.post.ack f.r f.c).2.told.getD 3 Clk.zero=b3 at *
 generalize (st.post.ack f.r f.c).2.told.getD 4 Clk.zero=b4 at *
 generalize clkOf (st.post.ack f.r f.c).2.baseF=y0 at *
 generalize clkOf (st.post.ack f.r f.c).2.lenF=y1 at *
 refine Fn.of_ex Tryz.func138 rfl Tryz.ntmps138 rfl ?_
 (refine rn ?_;(repeat (first | intro (g:Nat) | intro h)))
 revert g
 intro g3
 refine Ex.reord [3] rE ?_
 (refine mu10 ?_;(repeat (first | intro (g:Nat) | intro h)))
 (refine mx_act rJ rJ rJ ?_;refine st_callIs [] rJ Tryz.call92 rE rJ (post_SiteA gp c.w st.post _ hpk) ?_)
 rintro _ _ ⟨rfl,rfl⟩
 rw [hs1]
 (refine ExL.nil ?_;refine mxEnd_n rF ?_;(refine mn ?_;(repeat (first | intro (g:Nat) | intro h))))
 (repeat' (first | (refine m1 ?_;(repeat (first | intro (g:Nat) | intro h))) | (refine mx_gsplit rJ rJ rJ (fun h=>?_) (fun h=>?_) <;> try (exfalso;omega))))
 refine mx_val rJ rJ rJ (vl_fieldV rJ rJ rJ rJ rJ rJ rE) ?_
 (repeat' (first | (refine m1 ?_;(repeat (first | intro (g:Nat) | intro h))) | (refine mx_gsplit rJ rJ rJ (fun h=>?_) (fun h=>?_) <;> try (exfalso;omega))))
 refine mx_val rJ rJ rJ (vl_indexK (c0:=a0) (c1:=a1) (c2:=a2) (c3:=a3) (c4:=a4) rJ rJ rJ rJ rJ hr5.1 hr5.2) ?_
 (repeat' (first | (refine m1 ?_;(repeat (first | intro (g:Nat) | intro h))) | (refine mx_gsplit rJ rJ rJ (fun h=>?_) (fun h=>?_) <;> try (exfalso;omega))))
 rw [h1]
 obtain ⟨was,hwas⟩:∃ was,was=st.post.told.getD f.r.toNat Clk.zero:=⟨_,rfl⟩
 rw [← hwas]
 (refine rn ?_;(repeat (first | intro (g:Nat) | intro h)))
 revert g
 intro g5
 refine Ex.reord [1] rE ?_
 (refine Ex.mixA 9 (_::_::_::_::M) rfl rQ rF ?_;(refine mn ?_;intros))
 (refine mx_act rJ rJ rJ ?_;refine st_callIs [] rJ Tryz.call133 rE rJ (post_AckA gp c.w st.post f.r f.c _ hpk) ?_)
 rintro _ _ ⟨rfl,rfl⟩
 rw [hhas]
 (refine mw ?_;intros)
 (repeat' (first | (refine m1 ?_;intros) | (refine mx_gsplit rJ rJ rJ (fun h=>?_) (fun h=>?_) <;> try (exfalso;omega))))
 (refine rn ?_;intros)
 (refine mu11 ?_;intros)
 (refine mx_act rJ rJ rJ ?_;refine st_callIs [] rJ Tryz.call92 rE rJ (post_SiteA gp c.w (st.post.ack f.r f.c).2 _ hpk2) ?_)
 rintro _ _ ⟨rfl,rfl⟩
 rw [hs2]
 (refine mw ?_;intros)
 (repeat' (first | (refine m1 ?_;intros) | (refine mx_gsplit rJ rJ rJ (fun h=>?_) (fun h=>?_) <;> try (exfalso;omega))))
 refine mx_val rJ rJ rJ (vl_fieldV rJ rJ rJ rJ rJ rJ rE) ?_
 (repeat' (first | (refine m1 ?_;intros) | (refine mx_gsplit rJ rJ rJ (fun h=>?_) (fun h=>?_) <;> try (exfalso;omega))))
 refine mx_val rJ rJ rJ (vl_indexK (c0:=b0) (c1:=b1) (c2:=b2) (c3:=b3) (c4:=b4) rJ rJ rJ rJ rJ hr5.1 hr5.2) ?_
 (repeat' (first | (refine m1 ?_;intros) | (refine mx_gsplit rJ rJ rJ (fun h=>?_) (fun h=>?_) <;> try (exfalso;omega))))
 rw [h2]
 obtain ⟨now,hnow⟩:∃ now,now=(st.post.ack f.r f.c).2.told.getD f.r.toNat Clk.zero:=⟨_,rfl⟩
 rw [← hnow]
 clear h1 h2 hs1 hs2
 by_cases hnw:now=was
 ·rw [if_pos hnw]
  subst hnw
  (repeat' (first | (refine m1 ?_;intros) | (refine mx_gsplit rJ rJ rJ (fun h=>?_) (fun h=>?_) <;> try (exfalso;omega))))
  rw [decide_eq_true (rfl:now=now)]
  (refine rn ?_;intros)
  (refine fr ?_)
  exact ⟨_,Sub.trans (HubA.cls_up (st:={ st with post:=(st.post.ack f.r f.c).2 }) hu (dok.mem rfl rfl rfl rfl rfl) M) rP,rfl,rfl⟩
 ·rw [if_neg hnw]
  have hrm:=ack_may (c:=f.c) hr5 hm.c
  have hb:=Rcd.bytes_len _ hrm
  have hd:=ok.disk rM dok
  have hl0:(⟨6,f.r,0,f.c,[]⟩:Rcd).l.length=0:=rfl
  obtain ⟨d1,d2⟩:=dok.write hu (ok.up hu).1 ⟨6,f.r,0,f.c,[]⟩
  obtain ⟨w1,w2⟩:=st.write_up ⟨6,f.r,0,f.c,[]⟩
  (repeat' (first | (refine m1 ?_;intros) | (refine mx_gsplit rJ rJ rJ (fun h=>?_) (fun h=>?_) <;> try (exfalso;omega))))
  rw [decide_eq_false hnw]
  (refine rn ?_;intros)
  refine Ex.sub (L':=HbB gh c true dv (ptrV gp)::DvA dv ds::PoA gp c.w (st.post.ack f.r f.c).2::Blk g3 192 (rcC f v0)::M) ?_ rP
  refine Ex.mixA 9 [Blk g3 192 (rcC f v0)] rfl rQ (Fac.of (Sub.pick 3 rfl (Sub.nilL _))) ?_
  (refine mn ?_;intros)
  (refine mx_act rJ rJ rJ ?_;refine st_callIs [] rJ Tryz.call197 rE rJ (hwrite_F gh c true dv (ptrV gp) ds ⟨6,f.r,0,f.c,[]⟩ (.slice none 0 0) _ (RdT.nil _) rfl (by simp) (by simp) hrm rM) ?_)
  rintro _ _ ⟨gd,rfl,rfl⟩
  rw [d2]
  refine ExL.nil ?_
  refine mxEnd_n (Fac.of (Sub.pick 3 rfl (Sub.nilL _))) ?_
  rcases st.write_e ⟨6,f.r,0,f.c,[]⟩ with h0 | h0
  ·have w1:=w1 h0
   rw [if_neg (by rw [h0];simp),h0,w1]
   rw [w1] at d1
   have e2:(true && decide ((0:Int)=0))=true:=rfl
   rw [e2]
   (refine mn ?_;intros)
   (refine rn ?_;intros)
   (refine fr ?_)
   exact ⟨_,Sub.trans (HubA.cls_upK (st:={ st with recs:=st.recs++[⟨6,f.r,0,f.c,[]⟩],post:=(st.post.ack f.r f.c).2 }) hu (d1.mem rfl rfl rfl rfl rfl) M) rP,rfl,rfl⟩
  ·rw [if_pos (by rw [h0];simp),h0]
   have e2:(true && decide ((18:Int)=0))=false:=rfl
   rw [e2]
   (refine mn ?_;intros)
   (refine rn ?_;intros)
   (refine fr ?_)
   exact ⟨_,Sub.trans (HubA.cls_dnK (w2 (by rw [h0];simp)) d1 M) rP,rfl,rfl⟩
def hfB (q:Int×(Rcd×Int)):List UInt8:=if q.1<0 then [] else frB q.2
theorem push_to (st:HSt) (c:Cfg) (r:Int) (l:List Ev):((st.push c r l).2.1=r∧(st.push c r l).2.2.2=0)∨((st.push c r l).2.1=-1∧(st.push c r l).2.2.2≠0):=by
 unfold HSt.push
 split
 ·rename_i h;exact .inr ⟨rfl,h⟩
 ·split
  ·exact .inl ⟨rfl,rfl⟩
  ·split
   ·exact .inr ⟨rfl,by simp⟩
   ·exact .inl ⟨rfl,rfl⟩
theorem hfB_push (st:HSt) (c:Cfg) (r:Int) (hr:0≤r) (l:List Ev):frB (st.push c r l).2.2=hfB (st.push c r l).2:=by
 unfold hfB
 rcases push_to st c r l with ⟨h1,h2⟩ | ⟨h1,h2⟩
 ·rw [if_neg rM]
 ·rw [if_pos rM]
  unfold frB
  rw [if_neg h2]
theorem hfB_fetch (st:HSt) (r:Int) (k:Clk) (hr:0≤r):frB (st.fetch r k).2=hfB (st.fetch r k):=by
 unfold hfB HSt.fetch
 split
 ·rename_i h
  rw [if_pos (by simp)]
  unfold frB
  rw [if_neg h]
 ·rw [if_neg (by simp only;omega)]
theorem hTakeA {k:Nat} (gh:Nat) (c:Cfg) (st:HSt) (v0:Value) (b:List UInt8) (M:List Assn) (ok:HOk k c st) (hk:k≤198) (hr:RdT M v0 b) (o0:v0.oneCell'=true) (hb:b.length≤1000000) :
  Fn Tryz.prog 66 #[ptrV gh,v0] (HubA gh c st::M)
  fun v L'=>∃ u,u.oneCell'=true∧v=.tuple #[.int .i64 (st.take c (frTake b)).2.1,u,.int .i64 (st.take c (frTake b)).2.2.2]∧L'=Bys u (hfB (st.take c (frTake b)).2)::HubA gh c (st.take c (frTake b)).1::M:=by
 have hm:=fun h=>(frTake_may (b:=b) h).1
 obtain ⟨⟨f,fe⟩,hf⟩:∃ f,frTake b=f:=⟨_,rfl⟩
 rw [hf] at hm ⊢
 simp only at hm
 refine HubA.fn (fun hu dv ds po dok=>?_) (fun hu dv ds gp dok=>?_)
 ·have e:st.take c (f,fe)=(st,-1,(Rcd.zero,18)):=by unfold HSt.take;rw [if_pos hu]
  rw [e]
  refine Fn.of_ex Tryz.func66 rfl Tryz.ntmps66 rfl ?_
  (refine rn ?_;intros)
  (refine fr ?_)
  exact ⟨_,Sub.trans (Bys.nil _) (Sub.trans (HubA.cls_dn hu dok M) rP),.slice none 0 0,rfl,rfl,rfl⟩
 ·refine Fn.of_ex Tryz.func66 rfl Tryz.ntmps66 rfl ?_
  (refine rn ?_;intros)
  refine st_callIs [] rJ Tryz.call135 rJ rJ (ftake_F v0 b _ (hr.sub rP) o0 rM) ?_
  rw [hf]
  rintro _ _ (⟨hne,⟨y,rfl⟩,rfl⟩ | ⟨he0,u,ou,rfl,rfl⟩)
  ·simp only at hne
   have e:st.take c (f,fe)=(st,-1,(Rcd.zero,fe)):=by unfold HSt.take;rw [if_neg (by rw [hu];simp),if_pos hne]
   rw [e]
   (refine rn ?_;intros)
   (refine fr ?_)
   exact ⟨_,Sub.trans (Bys.nil _) (Sub.trans (HubA.cls_up hu dok M) rP),.slice none 0 0,rfl,rfl,rfl⟩
  ·simp only at he0 ⊢
   subst he0
   have hm:=hm rfl
   by_cases hR:c.n≤f.r
   ·have e:st.take c (f,0)=(st,-1,(Rcd.zero,23)):=by unfold HSt.take;rw [if_neg (by rw [hu];simp),if_neg (by simp),if_pos hR]
    rw [e]
    (refine rn ?_;intros)
    (refine mu8 ?_;intros)
    (refine rn ?_;intros)
    (refine fr ?_)
    exact ⟨_,Sub.trans (Bys.nil _) (Sub.trans (HubA.cls_up hu dok M) rP),.slice none 0 0,rfl,rfl,rfl⟩
   ·have e:st.take c (f,0)=if f.kind=1 then st.push c f.r f.l else if f.kind=3 then (st,st.fetch f.r f.c) else
      if f.kind=5 then ((st.ack f.r f.c).1,-1,(Rcd.zero,(st.ack f.r f.c).2)) else (st,-1,(Rcd.zero,23)):=by
     unfold HSt.take;rw [if_neg (by rw [hu];simp),if_neg (by simp),if_neg hR]
    rw [e]
    by_cases k1:f.kind=1
    ·rw [if_pos k1]
     (refine rn ?_;intros)
     (refine mu8 ?_;intros)
     (refine rn ?_;intros)
     refine ExL.sub (L':=hbUp gh gp c st dv ds (Evs_ u f.l::M)) ?_ rP
     refine st_callIs [] rJ Tryz.call136 rE rJ (hpush_F (k:=k) gh gp c st f u dv ds (Evs_ u f.l::M) ok hk hu dok hm k1 (RdT.row 0 rfl) ou rM) ?_
     rintro _ _ ⟨u2,ou2,rfl,rfl⟩
     rw [hfB_push st c f.r hm.r.1 f.l]
     (refine rn ?_;intros)
     (refine fr ?_)
     exact ⟨_,rP,u2,ou2,rfl,rfl⟩
    ·rw [if_neg k1]
     by_cases k3:f.kind=3
     ·rw [if_pos k3]
      (refine rn ?_;intros)
      (refine mu8 ?_;intros)
      (refine rn ?_;intros)
      refine ExL.sub (L':=hbUp gh gp c st dv ds M) ?_ rP
      refine st_callIs [] rJ Tryz.call137 rE rJ (hfetch_F (k:=k) gh gp c st f u dv ds M ok rM hu dok hm ou rM) ?_
      rintro _ _ ⟨u2,ou2,rfl,rfl⟩
      rw [hfB_fetch st f.r f.c hm.r.1]
      (refine rn ?_;intros)
      (refine fr ?_)
      exact ⟨_,rP,u2,ou2,rfl,rfl⟩
     ·rw [if_neg k3]
      by_cases k5:f.kind=5
      ·rw [if_pos k5]
       (refine rn ?_;intros)
       (refine mu8 ?_;intros)
       (refine rn ?_;intros)
       refine ExL.sub (L':=hbUp gh gp c st dv ds M) ?_ rP
       refine st_callIs [] rJ Tryz.call138 rE rJ (hack_F (k:=k) gh gp c st f u dv ds M ok hk hu dok hm ou rM) ?_
       rintro _ _ ⟨rfl,rfl⟩
       (refine rn ?_;intros)
       (refine fr ?_)
       exact ⟨_,Sub.trans (Bys.nil _) rP,.slice none 0 0,rfl,rfl,rfl⟩
      ·rw [if_neg k5]
       (refine rn ?_;intros)
       (refine mu8 ?_;intros)
       (refine rn ?_;intros)
       (refine fr ?_)
       exact ⟨_,Sub.trans (Bys.nil _) (Sub.trans (HubA.cls_up hu dok M) rP),.slice none 0 0,rfl,rfl,rfl⟩
end
end Go.Proofs.YtogcfijlhpaeeaaGreat
