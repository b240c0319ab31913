/- Texts. No condition. -/
import Derived.Test.YtogcfijlhpaeeaaGreatYpaj
open Go.RowKit Go.Proofs.Tryz
set_option linter.all false
set_option maxHeartbeats 32000000
namespace Go.Proofs.YtogcfijlhpaeeaaGreat
variable{k:Nat}{r:Int}
section
attribute [local irreducible] bG cC aA df
theorem OH(gn:Nat)(c:aJ)(r:Int)(st:aG)(n:Int)(M:List aa):Fn prog 370 #[ay gn,.int .i64 n] (bD gn c r st::M) λv L'=>L'=bD gn c r (st.cut n)::M:=by
 refine oD (λa dv ds vl sent b i o d=>?_) (λa dv ds x d e=>?_)
 ·refine(Oc gn c r false dv vl sent b i o ds n M).dD ?_;rintro v L' ⟨gd,rfl⟩;exact⟨_,sT (st:=st.cut n) (ds:=⟨ds.b,ds.down,true,n⟩) a ⟨d.b,(λh=>by rw[show(st.cut n).up=st.up from rfl,a]at h;cases h),rfl,λ_=>rfl⟩ M,rfl⟩
 ·refine((Oc gn c r true dv x.vl st.sent (ay x.gb) (ay x.gi) (ay x.go) ds n (dU x.gi c.h st.aT x.v0::aL x.v0 st.held::ec x.go c.q c.w st.sent x.vw::aL x.vw st.wait::aL x.vl st.log::df x.gb (cf st.log)::M)).sub rP).dD ?_;rintro v L' ⟨gd,rfl⟩;exact⟨_,ar (uW (st:=st.cut n) (gd:=gd) (ds:=⟨ds.b,ds.down,true,n⟩) x a ⟨d.b,d.up,rfl,λ_=>rfl⟩ e M) rP,rfl⟩
theorem G3(gn:Nat)(c:aJ)(r:Int)(st:aG)(M:List aa):Fn prog 60 #[ay gn] (bD gn c r st::M) λv L'=>L'=bD gn c r st.db::M:=by
 refine oD (λd dv ds vl sent b i o a=>?_) (λd dv ds x a e=>?_)
 ·refine(H2 gn c r false dv vl sent b i o ds M).dD ?_;rintro v L' ⟨gd,rfl⟩;exact⟨_,sT (st:=st.db) (ds:=⟨ds.b,true,false,ds.keep⟩) rfl ⟨a.b,(λh=>by cases h),rfl,(λh=>by cases h)⟩ M,rfl⟩
 ·refine((H2 gn c r true dv x.vl st.sent (ay x.gb) (ay x.gi) (ay x.go) ds (dU x.gi c.h st.aT x.v0::aL x.v0 st.held::ec x.go c.q c.w st.sent x.vw::aL x.vw st.wait::aL x.vl st.log::df x.gb (cf st.log)::M)).sub rP).dD ?_;rintro v L' ⟨gd,rfl⟩;exact⟨_,ar (sT (st:=st.db) (gd:=gd) (ds:=⟨ds.b,true,false,ds.keep⟩) (vl:=x.vl) (sent:=st.sent) (b:=ay x.gb) (i:=ay x.gi) (o:=ay x.go) rfl ⟨a.b,(λh=>by cases h),rfl,(λh=>by cases h)⟩ M) rP,rfl⟩
theorem ze{k:Int}{c:aj}(b:k=3\/k=5)(d:0<=r/\r<5)(a:∀i,i<5->0<=c.get i/\c.get i<=1048576):(⟨k,r,0,c,[]⟩:aF).cM:=by
 refine⟨by show 1<=k/\k<=5;omega,d,by simp,λ_=>rfl,λh=>?_,λ_=>rfl,a,by simp,λh=>?_,by simp,by simp⟩
 ·exact absurd b h
 ·have:k=1:=h;omega
theorem MG(gn:Nat)(c:aJ)(r:Int)(st:aG)(M:List aa)(f:eO k c r st)(g:k<=200):Fn prog 43 #[ay gn] (bD gn c r st::M)
  λv L'=>∃u,O1 u/\v=.tuple #[u,.int .i64 (st.tell r 3).2]/\L'=bB u (eU (st.tell r 3))::bD gn c r st::M:=by
 refine oD (λa dv ds vl sent b i o d=>?_) (λa dv ds x d j=>?_)
 ·refine(Uj gn c r dv vl sent b i o (cC dv ds::M)).dD ?_;rintro v L' ⟨rfl,rfl⟩;have e:st.tell r 3=(aF.zero,18):=by unfold aG.tell;rw[an a]
  rw[e];exact⟨_,ar (gX _) (qC a d M),.slice none 0 0,rfl,rfl,rfl⟩
 ·refine(SY gn x.gi c r dv x.vl st.sent (ay x.gb) (ay x.go) c.h st.aT x.v0 st.held (cC dv ds::ec x.go c.q c.w st.sent x.vw::aL x.vw st.wait::aL x.vl st.log::df x.gb (cf st.log)::M) (ze (.inl rfl) f.r5 (f.cP g a))).dD ?_;rintro v L' ⟨u,h,rfl,rfl⟩;have e:st.tell r 3=(⟨3,r,0,st.aT,[]⟩,0):=by unfold aG.tell;rw[ai (by rw[a];simp)]
  rw[e];exact⟨_,bl _ (kn x a d j M),u,h,rfl,rfl⟩
theorem Iq(gn:Nat)(c:aJ)(r:Int)(st:aG)(M:List aa)(f:eO k c r st)(g:k<=200):Fn prog 44 #[ay gn] (bD gn c r st::M)
  λv L'=>∃u,O1 u/\v=.tuple #[u,.int .i64 (st.tell r 5).2]/\L'=bB u (eU (st.tell r 5))::bD gn c r st::M:=by
 refine oD (λa dv ds vl sent b i o d=>?_) (λa dv ds x d j=>?_)
 ·refine(Vr gn c r dv vl sent b i o (cC dv ds::M)).dD ?_;rintro v L' ⟨rfl,rfl⟩;have e:st.tell r 5=(aF.zero,18):=by unfold aG.tell;rw[an a]
  rw[e];exact⟨_,ar (gX _) (qC a d M),.slice none 0 0,rfl,rfl,rfl⟩
 ·refine(WJ gn x.gi c r dv x.vl st.sent (ay x.gb) (ay x.go) c.h st.aT x.v0 st.held (cC dv ds::ec x.go c.q c.w st.sent x.vw::aL x.vw st.wait::aL x.vl st.log::df x.gb (cf st.log)::M) (ze (.inr rfl) f.r5 (f.cP g a))).dD ?_;rintro v L' ⟨u,h,rfl,rfl⟩;have e:st.tell r 5=(⟨5,r,0,st.aT,[]⟩,0):=by unfold aG.tell;rw[ai (by rw[a];simp)]
  rw[e];exact⟨_,bl _ (kn x a d j M),u,h,rfl,rfl⟩
theorem LM{l:List Ev}(f:0<=r/\r<5)(c:l.length<=20)(d:l≠[])(b:∀e∈l,e.aW/\e.r=r):(bw 1 r l).cM:=by
 refine⟨by show(1:Int)<=1/\(1:Int)<=5;omega,f,by show(0:Int)<=0/\(0:Int)<=1048576;omega,λ_=>rfl,λ_=>rfl,λh=>?_,λi hi=>?_,c,λ_=>d,λe a=>(b e a).1,λ_ e a=>(b e a).2⟩
 ·exact absurd (.inl rfl) h
 ·have:aj.zero.get i=0:=nT i;show 0<=aj.zero.get i/\aj.zero.get i<=1048576;omega
theorem KL(gn:Nat)(c:aJ)(r:Int)(st:aG)(M:List aa)(j:eO k c r st)(w:k<=200):Fn prog 42 #[ay gn] (bD gn c r st::M)
  λv L'=>∃u,O1 u/\v=.tuple #[u,.int .i64 (st.push c r).2]/\L'=bB u (eU (st.push c r))::bD gn c r st::M:=by
 refine oD (λa dv ds vl sent b i o g=>?_) (λa dv ds x g n=>?_)
 ·refine(Yh gn c r dv vl sent b i o (cC dv ds::M)).dD ?_;rintro v L' ⟨rfl,rfl⟩;have e:st.push c r=(aF.zero,18):=by unfold aG.push;rw[an a]
  rw[e];exact⟨_,ar (gX _) (qC a g M),.slice none 0 0,rfl,rfl,rfl⟩
 ·obtain⟨z,A,p⟩:=j.wait a;have s:=j.cm.q;have t:=j.cm.w;by_cases d:st.wait=[]
  ·have e:st.push c r=(aF.zero,24):=by unfold aG.push;rw[ai (by rw[a];simp),an d]
   rw[e];refine((PN gn x.go c r dv x.vl st.sent (ay x.gb) (ay x.gi) c.q c.w st.sent x.vw (dU x.gi c.h st.aT x.v0::aL x.v0 st.held::cC dv ds::aL x.vl st.log::df x.gb (cf st.log)::M)).sub (by rw[<-d];exact rP)).dD ?_;rw[<-d];rintro v L' ⟨rfl,rfl⟩;exact⟨_,ar (gX _) (ar (kn x a g n M) rP),.slice none 0 0,rfl,rfl,rfl⟩
  ·have e:st.push c r=(bw 1 r (st.wait.take (min (max c.w 0) st.wait.length).toNat),0):=by unfold aG.push;rw[ai (by rw[a];simp),ai d]
   rw[e];obtain⟨xs,f⟩:∃xs,xs=st.wait.take (min (max c.w 0) st.wait.length).toNat:=⟨_,rfl⟩;have C:st.wait.length≠0:=λh=>d (dZ h);have l:xs.length<=20/\xs≠[]:=by
    refine⟨by rw[f,dy];omega,λh=>?_⟩;have:xs.length=0:=by rw[h];rfl
    rw[f,dy]at this;omega
   have m:∀y∈xs,y.aW/\y.r=r:=λy hy=>p y (by rw[f]at hy;exact mM hy);rw[<-f];refine((UL gn x.go c r dv x.vl st.sent (ay x.gb) (ay x.gi) c.q c.w st.sent x.vw st.wait xs (dU x.gi c.h st.aT x.v0::aL x.v0 st.held::cC dv ds::aL x.vl st.log::df x.gb (cf st.log)::M) d U f
    (λy hy=>by have:=(m y hy).1.lens;omega) (LM j.r5 l.1 l.2 m)).sub rP).dD ?_
   rintro v L' ⟨u,q,rfl,rfl⟩;exact⟨_,bl _ (ar (kn x a g n M) rP),u,q,rfl,rfl⟩
theorem VW{sent:Int}{l:List Ev}(c:0<=r/\r<5)(d:0<=sent/\sent<=1048576)(a:l.length<=4096)(b:∀e∈l,e.aW):(⟨4,r,sent,aj.zero,l⟩:aF).aW:=by
 refine⟨by show(1:Int)<=4/\(4:Int)<=6;omega,c,d,a,λi hi=>?_,λh=>absurd (.inr rfl) h,λ_=>rfl,λh=>absurd (.inr (.inr (.inr rfl))) h,b,λh=>?_⟩
 ·have:aj.zero.get i=0:=nT i;show 0<=aj.zero.get i/\aj.zero.get i<=1048576;omega
 ·have:(4:Int)=1:=h;omega
theorem ZV{u:Int}(a:0<=r/\r<5)(b:0<=u/\u<=1048576):(⟨3,r,u,aj.zero,[]⟩:aF).aW:=by
 refine⟨by show(1:Int)<=3/\(3:Int)<=6;omega,a,b,by simp,λi hi=>?_,λh=>absurd (.inl rfl) h,λ_=>rfl,λ_=>rfl,by simp,λh=>?_⟩
 ·have:aj.zero.get i=0:=nT i;show 0<=aj.zero.get i/\aj.zero.get i<=1048576;omega
 ·have:(3:Int)=1:=h;omega
theorem Pw(gn:Nat)(c:aJ)(r:Int)(st:aG)(M:List aa)(g:eO k c r st)(t:k<=200):Fn prog 45 #[ay gn] (bD gn c r st::M)
  λv L'=>v=.int .i64 (st.state r).2/\L'=bD gn c r (st.state r).1::M:=by
 refine oD (λa dv ds vl sent b i o f=>?_) (λa dv ds x f j=>?_)
 ·refine(YI gn c r dv vl sent b i o (cC dv ds::M)).dD ?_;rintro v L' ⟨rfl,rfl⟩;have e:st.state r=(st,18):=by unfold aG.state;rw[an a]
  rw[e];exact⟨_,qC a f M,rfl,rfl⟩
 ·obtain⟨A,p⟩:=g.log a;by_cases h:4096<st.log.length
  ·refine((RJ gn c r dv x.vl st.sent (ay x.gb) (ay x.gi) (ay x.go) st.log (dU x.gi c.h st.aT x.v0::aL x.v0 st.held::cC dv ds::ec x.go c.q c.w st.sent x.vw::aL x.vw st.wait::df x.gb (cf st.log)::M) j.l h U).sub rP).dD ?_;rintro v L' ⟨rfl,rfl⟩;have e:st.state r=(st,1):=by unfold aG.state;rw[ai (by rw[a];simp),an h]
   rw[e];exact⟨_,ar (kn x a f j M) rP,rfl,rfl⟩
  ·have q:=VW g.r5 (g.sent a) U p;have z:=wz _ q;have hd:=g.pw t f;obtain⟨m,s⟩:=f.write a (g.up a).1 ⟨4,r,st.sent,aj.zero,st.log⟩;refine((Uc gn c r dv x.vl st.sent (ay x.gb) (ay x.gi) (ay x.go) ds st.log (dU x.gi c.h st.aT x.v0::aL x.v0 st.held::ec x.go c.q c.w st.sent x.vw::aL x.vw st.wait::df x.gb (cf st.log)::M) j.l U
    (λy hy=>by have:=(p y hy).lens;omega) q (by have w:(⟨4,r,st.sent,aj.zero,st.log⟩:aF).l.length<=4096:=(by show st.log.length<=4096;omega);omega)).sub rP).dD ?_
   rw[s];rintro v L' ⟨gd,rfl,rfl⟩;obtain⟨n,u⟩:=st.mq ⟨4,r,st.sent,aj.zero,st.log⟩;rcases st.tq ⟨4,r,st.sent,aj.zero,st.log⟩with d|d
   ·have e:st.state r=((st.write ⟨4,r,st.sent,aj.zero,st.log⟩).1,0):=by unfold aG.state;rw[ai (by rw[a];simp),ai h,ai (by rw[d];simp)]
    rw[e,d];have n:=n d;rw[n]at m⊢
    exact⟨_,ar (uW (st:={st with aE:=st.aE++[⟨4,r,st.sent,aj.zero,st.log⟩]}) x a m j M) rP,rfl,rfl⟩
   ·have e:st.state r=((st.write ⟨4,r,st.sent,aj.zero,st.log⟩).1,18):=by unfold aG.state;rw[ai (by rw[a];simp),ai h,an (by rw[d];simp)]
    rw[e,d];exact⟨_,ar (sT (u (by rw[d];simp)) m M) rP,rfl,rfl⟩
theorem Wv(gn:Nat)(c:aJ)(r a:Int)(st:aG)(dv:Value)(ds:DS)(x:NX)(M:List aa)(f:eO k c r st)(t:k<=200)(d:st.up=true)(o:jX st ds)(j:x.One):
  Fn prog 139 #[ay gn,.int .i64 a] (nX gn c r st dv ds x M) λv L'=>v=.int .i64 (st.iD r a).2/\L'=bD gn c r (st.iD r a).1::M:=by
 obtain⟨s,g⟩:∃s,max st.sent (min a (st.aT.get r.toNat))=s:=⟨_,rfl⟩;have i:=f.r5;have H:=f.sent d;have A:=f.cP t d r.toNat U;obtain⟨I,L,P⟩:=f.wait d;have C:=f.cm.q;by_cases h:s=st.sent
 ·refine(Yj gn x.gi c r a dv x.vl st.sent (ay x.gb) (ay x.go) c.h st.aT x.v0 st.held (cC dv ds::ec x.go c.q c.w st.sent x.vw::aL x.vw st.wait::aL x.vl st.log::df x.gb (cf st.log)::M) i (by rw[g,h])).dD ?_;rintro v L' ⟨rfl,rfl⟩;have e:st.iD r a=(st,0):=by unfold aG.iD;simp only[g];rw[an h]
  rw[e];exact⟨_,kn x d o j M,rfl,rfl⟩
 ·have p:=ZV (u:=s) i U;have z:=wz _ p;have hd:=f.pw t o;have F:(⟨3,r,s,aj.zero,[]⟩:aF).l.length=0:=rfl;obtain⟨n,q⟩:=o.write d (f.up d).1 ⟨3,r,s,aj.zero,[]⟩;obtain⟨m,y⟩:=st.mq ⟨3,r,s,aj.zero,[]⟩;rcases st.tq ⟨3,r,s,aj.zero,[]⟩with b|b
  ·refine(ZT gn x.gi x.go c r a s dv x.vl st.sent (ay x.gb) c.h st.aT x.v0 x.vw st.held st.wait c.q c.w ds (aL x.vl st.log::df x.gb (cf st.log)::M) i j.w g h (by unfold cD;omega) U U p U (by rw[q];exact b)).dD ?_;rintro v L' ⟨gd,w,rfl,o',rfl⟩;have m:=m b;have e:st.iD r a=({st with aE:=st.aE++[⟨3,r,s,aj.zero,[]⟩],sent:=fC st.sent st.wait s,wait:=st.wait.drop (fC st.sent st.wait s-st.sent).toNat},0):=by unfold aG.iD;simp only[g];rw[ai h,ai (by rw[b];simp),m]
   rw[m]at n;rw[e];exact⟨_,ar (uW (st:={st with aE:=st.aE++[⟨3,r,s,aj.zero,[]⟩],sent:=fC st.sent st.wait s,wait:=st.wait.drop (fC st.sent st.wait s-st.sent).toNat}) ⟨x.gb,x.gi,x.go,x.vl,x.v0,w⟩ d (n.mem rfl rfl rfl rfl rfl) ⟨j.l,j.h,o'⟩ M) rP,rfl,rfl⟩
  ·refine(QQ gn x.gi x.go c r a s dv x.vl st.sent (ay x.gb) c.h st.aT x.v0 x.vw st.held st.wait c.q c.w st.sent ds (ec x.go c.q c.w st.sent x.vw::aL x.vw st.wait::aL x.vl st.log::df x.gb (cf st.log)::M) i g h p U (by rw[q];exact b)).dD ?_;rintro v L' ⟨gd,rfl,rfl⟩;have e:st.iD r a=((st.write ⟨3,r,s,aj.zero,[]⟩).1,18):=by unfold aG.iD;simp only[g];rw[ai h,an (by rw[b];simp)]
   rw[e];exact⟨_,ar (sT (y (by rw[b];simp)) n M) rP,rfl,rfl⟩
end
section
set_option maxRecDepth 20000 attribute [local irreducible] Ex aM Fn bI bJ bV fin meet ch aX bZ aP aN aI Rd aK Row ao Sub bk bP bS bN bg bR Hid bY
section
attribute [local irreducible] bG cC aA df
theorem SG(gn:Nat)(c:aJ)(r:Int)(st:aG)(p:Value)(l:List Ev)(dv:Value)(ds:DS)(x:NX)(M:List aa)(d:eO k c r st)(hk:k<=198)(a:st.up=true)(n:jX st ds)(f:x.One)
  (hr:aI M p l)(o1:O1 p)(hl:l.length<=20)(hm:∀e∈l,e.aW):
  Fn prog 140 #[ay gn,p] (nX gn c r st dv ds x M) λv L'=>v=.int .i64 (st.jt c r l).2/\L'=bD gn c r (st.jt c r l).1::M:=by
 obtain⟨j8,j9⟩:=d.log a;obtain⟨j4,V⟩:=d.held a;have j3:=d.cm.h;have c9:=d.r5;have w:∀e∈st.held++l,e.aW:=λe m=>by
  rcases ct.1 m with h|h
  ·exact V e h
  ·exact hm e h
 have z:=qE st.aT (st.held++l) [] List.Pairwise.nil;have W:=BD st.aT (cK st.aT (st.held++l)) z;have S:=rT st.aT (st.held++l);rw[bo]at S;have o:∀e∈(drain st.aT (cK st.aT (st.held++l))).1,e.aW:=λe m=>by exact w e (xN st.aT _ e (II _ _ z e m))
 have j:=Bt st.aT (st.held++l);obtain⟨D,u⟩:∃D,drain st.aT (cK st.aT (st.held++l))=D:=⟨_,rfl⟩;rw[u]at j W o;refine fo func140 ntmps140 ?_;refine rn ?_;intros;refine ca [] call201 (PK x.gi c.h st.aT x.v0 p st.held l _ (hr.sub rP) f.h o1 U U (λe m=>(w e m).I.1) (d.cI U a)) ?_;unfold D2;rw[u];rintro _ _ (⟨g,rfl,rfl⟩|⟨g,H,L,C,F,rfl,rfl⟩)
 ·have e:st.jt c r l=(st,22):=by unfold aG.jt;rw[j,an g]
  rw[e];refine rn ?_;intros;refine fr ?_;exact⟨_,ar (kn x a n f M) rP,rfl,rfl⟩
 by_cases i:D.1=[]
 ·have e:st.jt c r l=({st with aT:=D.2.2,held:=D.2.1},0):=by unfold aG.jt;rw[j,ai g,an i]
  rw[e];have R:D.1.length=0:=by rw[i];rfl
  refine rn ?_;intros;refine fr ?_;exact⟨_,ar (kn (st:={st with aT:=D.2.2,held:=D.2.1}) ⟨x.gb,x.gi,x.go,x.vl,L,x.vw⟩ a (n.mem rfl rfl rfl rfl rfl) ⟨f.l,F,f.w⟩ M) rP,rfl,rfl⟩
 have R:D.1.length≠0:=λh=>i (dZ h);have A:=pb (k:=2) (l:=D.1) (.inr (.inl rfl)) c9 U o;have hb:=wz _ A;have hd:=d.pw U n;have j7:(bw 2 r D.1).l.length=D.1.length:=rfl;obtain⟨s,P⟩:=n.write a (d.up a).1 (bw 2 r D.1);obtain⟨q,w2⟩:=st.mq (bw 2 r D.1);obtain⟨b1,b2,b3⟩:=zt st.log;refine rn ?_;intros;refine bc [4,4] J call103 rE J (xP gn c r true dv x.vl st.sent (ay x.gb) (ay x.gi) (ay x.go) ds (bw 2 r D.1) H _ rD C U (λy hy=>by have:=(o y hy).lens;omega) A U) ?_;rintro _ _ ⟨gd,rfl,rfl⟩;rw[P];rcases st.tq (bw 2 r D.1)with b|b
 ·have q:=q b;have e:st.jt c r l=({st with aE:=st.aE++[bw 2 r D.1],aT:=D.2.2,held:=D.2.1,log:=st.log++D.1},0):=by unfold aG.jt;rw[j,ai g,ai i,ai (by rw[b];simp),q]
  rw[e,b];rw[q]at s;have t:(true&&decide ((0:Int)=0))=true:=rfl;rw[t];refine rn ?_;intros;refine bc [2,8,8] J call106 rE J (HL gn c r true (ay gd) x.vl st.sent x.gb (ay x.gi) (ay x.go) H st.log D.1 (cf st.log) _ rD C f.l U (λy hy=>by have h:=o y hy;have:=h.lens;exact⟨h,U,U⟩) U) ?_;rintro _ _ ⟨d8,d7,rfl⟩;refine rn ?_;intros;refine fr ?_;refine⟨_,ar (uW (st:={st with aE:=st.aE++[bw 2 r D.1],aT:=D.2.2,held:=D.2.1,log:=st.log++D.1}) (gd:=gd) (ds:=(ds.write (bw 2 r D.1).bytes).1) ⟨x.gb,x.gi,x.go,d8,L,x.vw⟩ a (s.mem rfl rfl rfl rfl rfl) ⟨d7,F,f.w⟩ M) ?_,rfl,rfl⟩;have Q:cf (st.log++D.1)=D.1.foldl ik (cf st.log):=by unfold cf;rw[js]
  show Sub (_::_::_::_::_::_::_::df x.gb (cf (st.log++D.1))::M) _;rw[Q];exact rP
 ·have e:st.jt c r l=((st.write (bw 2 r D.1)).1,18):=by unfold aG.jt;rw[j,ai g,ai i,an (by rw[b];simp)]
  rw[e,b];have t:(true&&decide ((18:Int)=0))=false:=rfl;rw[t];refine rn ?_;intros;refine fr ?_;exact⟨_,ar (sT (w2 (by rw[b];simp)) s M) rP,rfl,rfl⟩
end
section
attribute [local irreducible] bG cC aA df
theorem MU(gn:Nat)(c:aJ)(r:Int)(st:aG)(v0:Value)(b:List UInt8)(M:List aa)(R:eO k c r st)(s:k<=198)(hr:aI M v0 b)(o0:O1 v0)(hb:b.length<=1000000):
  Fn prog 67 #[ay gn,v0] (bD gn c r st::M) λv L'=>v=.int .i64 (st.dw c r (cV b)).2/\L'=bD gn c r (st.dw c r (cV b)).1::M:=by
 have n:=λh=>(xv (b:=b) h).1;obtain⟨⟨f,t⟩,I⟩:∃f,cV b=f:=⟨_,rfl⟩;rw[I]at n⊢
 simp only at n;refine oD (λa dv ds vl sent bb i o d=>?_) (λa dv ds x d p=>?_)
 ·have e:st.dw c r (f,t)=(st,18):=by unfold aG.dw;rw[an a]
  rw[e];refine fo func67 ntmps67 ?_;refine rn ?_;(repeat(first|intro(g:Nat)|intro h));refine fr ?_;exact⟨_,ar (qC a d M) rP,rfl,rfl⟩
 ·refine fo func67 ntmps67 ?_;refine rn ?_;(repeat(first|intro(g:Nat)|intro h));refine ca [] call135 (LG v0 b _ (hr.sub rP) o0 U) ?_;rw[I];rintro _ _ (⟨L,⟨y,rfl⟩,rfl⟩|⟨H,u,ou,rfl,rfl⟩)
  ·have e:st.dw c r (f,t)=(st,t):=by unfold aG.dw;rw[ai (by rw[a];simp),an L]
   rw[e];simp only at L⊢
   refine rn ?_;(repeat(first|intro(g:Nat)|intro h));refine fr ?_;exact⟨_,ar (kn x a d p M) rP,rfl,rfl⟩
  ·simp only at H⊢
   subst H;have n:=n rfl;by_cases A:f.r=r
   case neg=>
    have e:st.dw c r (f,0)=(st,23):=by unfold aG.dw;rw[ai (by rw[a];simp),ai (by simp),an A]
    rw[e];refine rn ?_;(repeat(first|intro(g:Nat)|intro h));refine pS ?_;(repeat(first|intro(g:Nat)|intro h));refine rn ?_;(repeat(first|intro(g:Nat)|intro h));refine fr ?_;exact⟨_,ar (kn x a d p M) rP,rfl,rfl⟩
   case pos=>
    refine rn ?_;(repeat(first|intro(g:Nat)|intro h));refine pS ?_;(repeat(first|intro(g:Nat)|intro h));refine rn ?_;(repeat(first|intro(g:Nat)|intro h));revert g;intro F;refine bm [32] (λz vs L'=>∃(j:Nat),j<=f.l.length/\(∀i (hi:i<f.l.length),i<j->¬((f.l[i]'hi).r=r\/c.n<=(f.l[i]'hi).r))/\z=f.l.length-j/\vs=[.int .i64 j]/\L'=ao F 192 (bH f u)::aL u f.l::nX gn c r st dv ds x M) f.l.length ⟨0,U,λi hi h=>by omega,rfl,rfl,rfl⟩ ?_;rintro z vs g1 L1 ⟨j,hj,q,rfl,rfl,rfl⟩;have j0:=n.m;refine bp [0,5,30,31,32] rG (λgk=>?_);by_cases m:j<f.l.length
    ·by_cases l:(f.l[j]'m).r=r\/c.n<=(f.l[j]'m).r
     ·have e:st.dw c r (f,0)=(st,23):=by unfold aG.dw;rw[ai (by rw[a];simp),ai (by simp),ai (by simp[A]),an (eR.2 ⟨_,bT m,by simpa using l⟩)]
      rw[e];clear q;rcases Classical.em ((f.l[j]'m).r=r)with w|w
      ·refine rn ?_;intros;refine pj ?_;intros;refine rn ?_;intros;refine fr ?_;exact⟨_,ar (kn x a d p M) rP,rfl,rfl⟩
      ·have S:c.n<=(f.l[j]'m).r:=l.resolve_left w;clear l;refine rn ?_;intros;refine pj ?_;intros;refine rn ?_;intros;refine fr ?_;exact⟨_,ar (kn x a d p M) rP,rfl,rfl⟩
     ·have w:¬(f.l[j]'m).r=r:=λh=>l (.inl h);have S:¬c.n<=(f.l[j]'m).r:=λh=>l (.inr h);have C:∀i (hi:i<f.l.length),i<j+1->¬((f.l[i]'hi).r=r\/c.n<=(f.l[i]'hi).r):=λi hi h=>by
       by_cases W:i=j
       ·subst W;exact l
       ·exact q i hi U
      replace C:=Lib.hid C
      clear q l;refine rn ?_;intros;refine pj ?_;intros;refine rn ?_;intros;refine aS ⟨f.l.length-(j+1),ao F 192 (bH f u)::aL u f.l::nX gn c r st dv ds x M,U,rP,j+1,U,C.out,rfl,av (aQ U) rfl,rfl⟩
    ·obtain rfl:j=f.l.length:=U;have V:(f.l.any λe=>decide (e.r=r\/c.n<=e.r))=false:=by rw[ra];intro y hy;obtain⟨i,hi,rfl⟩:=la hy;simpa using q i hi hi
     have s:st.dw c r (f,0)=if f.kind=2 then st.iD r f.upto else if f.kind=4 then st.jt c r f.l else(st,23):=by unfold aG.dw;rw[ai (by rw[a];simp),ai (by simp),ai (by simp[A]),ai (by rw[V];simp)]
     rw[s];clear q s;by_cases P:f.kind=2
     ·rw[an P];refine rn ?_;intros;refine cb (L':=nX gn c r st dv ds x M) ?_ rP;refine ca [] call139 (Wv (k:=k) gn c r f.upto st dv ds x M R U a d p) ?_;rintro _ _ ⟨rfl,rfl⟩;exact bh
     ·rw[ai P];by_cases Q:f.kind=4
      ·rw[an Q];refine rn ?_;intros;refine cb (L':=nX gn c r st dv ds x (aL u f.l::M)) ?_ rP;refine ca [] call140 (SG (k:=k) gn c r st u f.l dv ds x (aL u f.l::M) R s a d p (gr 0 rfl) ou n.m n.l) ?_;rintro _ _ ⟨rfl,rfl⟩;refine rn ?_;intros;refine fr ?_;exact⟨_,bl _ (iC _ (bW _)),rfl,rfl⟩
      ·rw[ai Q];refine rn ?_;intros;refine fr ?_;exact⟨_,ar (kn x a d p M) rP,rfl,rfl⟩
end
end
end Go.Proofs.YtogcfijlhpaeeaaGreat
