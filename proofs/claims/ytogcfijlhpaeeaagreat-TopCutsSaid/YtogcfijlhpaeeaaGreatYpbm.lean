/- Texts. No condition. -/
import Derived.Test.YtogcfijlhpaeeaaGreatRows
import Derived.Test.YtogcfijlhpaeeaaGreatYpbk
open Go.RowKit Go.Proofs.Tryz
set_option linter.all false
set_option maxHeartbeats 32000000
namespace Go.Proofs.YtogcfijlhpaeeaaGreat
variable{i:Nat}{r:Int}{c:aJ}{w:aD}{st s:aG}
section
set_option maxRecDepth 20000 attribute [local irreducible] Ex aM Fn bI bJ bV fin meet ch aX bZ aP aN aI Rd aK Row ao Sub bk bP bS bN bg bR Hid bY
section
theorem T0(r:Int)(y:Ev)(v0:Value)(M:List aa)(n:aI M v0 [y])(p:O1 v0)(l:0<=r/\r<5)(j:¬y.aW)(e:y.ed.key.length<=9223372036854775807)(k:y.ed.value.length<=9223372036854775807):
  Fn prog 81 #[.agg (bH ⟨1,r,0,aj.zero,[y]⟩ v0).toArray] M λv L'=>v=.bool false/\L'=M:=by
 refine fo func81 ntmps81 ?_;refine rn ?_;(repeat(first|intro(g:Nat)|intro h));revert g;intro a;refine ca [] call150 (AX 0 _ U) ?_;rintro _ _ ⟨rfl,rfl⟩;refine rn ?_;intros;refine bm [3] (λq vs L'=>∃i:Nat,i<=5/\q=5-i/\vs=[.int .i64 i]/\L'=ao a 88 (bH ⟨1,r,0,aj.zero,[y]⟩ v0)::M) 5 ⟨0,U,rfl,rfl,rfl⟩ ?_;rintro q vs c b ⟨i,hi,rfl,rfl,rfl⟩;refine bp [1,3] rG (λd=>?_);by_cases f:i<5
 ·refine rn ?_;intros;refine cH J J J (Cf 0 aj.zero J J J J f) ?_;refine rn ?_;intros;refine ca [] call150 (AX (aj.zero.get i) _ (by rw[nT];omega)) ?_;rintro _ _ ⟨rfl,rfl⟩;refine rn ?_;intros;exact aS ⟨5-(i+1),_,U,rB,i+1,U,rfl,av (aQ U) rfl,rfl⟩
 refine rn ?_;intros;refine bm [4] (λq vs L'=>q=1/\vs=[.int .i64 0]/\L'=ao a 88 (bH ⟨1,r,0,aj.zero,[y]⟩ v0)::M) 1 ⟨rfl,rfl,rfl⟩ ?_;rintro q vs c b ⟨rfl,rfl,rfl⟩;refine bp [1,4] rG (λd=>?_);have m:([y]:List Ev).length=1:=rfl;refine rn ?_;intros;refine ca [] call151 (BO y _ e k) ?_;rintro _ _ ⟨⟨x,hx,rfl⟩,rfl⟩;have o:x≠0:=λh=>j (hx.1 h);exact bh
theorem V1(r:Int)(y:Ev)(v0:Value)(M:List aa)(f:aI M v0 [y])(e:O1 v0)(a:0<=r/\r<5)(c:¬y.aW)(b:y.ed.key.length<=9223372036854775807)(d:y.ed.value.length<=9223372036854775807):
  Fn prog 28 #[.agg (bH ⟨1,r,0,aj.zero,[y]⟩ v0).toArray] M λv L'=>v=.tuple #[.slice none 0 0,.int .i64 1]/\L'=M:=by
 refine fo func28 ntmps28 ?_;refine rn ?_;intros;refine bc [] J call81 J J (T0 r y v0 _ rD e a c b d) ?_;rintro _ _ ⟨rfl,rfl⟩;exact bh
end
end
section
def fq(k r:Int):cB:=⟨k,r,⟨0,[],0,[]⟩,0,0,0,0⟩
theorem zo(w:aD)(r:Int)(a b:aG):(w.aZ r a).aZ r b=w.aZ r b:=by unfold aD.aZ;simp only[pD]
theorem PR(c:aJ)(h:w.has r):(w.step c (fq 8 r)).1=w.aZ r (w.node r).db:=by unfold aD.step aD.dj;rw[ai (c:=4<=(fq 8 r).kind/\(fq 8 r).kind<=7) (by show¬((4:Int)<=8/\(8:Int)<=7);omega),an (c:=8<=(fq 8 r).kind/\(fq 8 r).kind<=10) (by show(8:Int)<=8/\(8:Int)<=10;omega),an (c:=w.has (fq 8 r).r) h];rfl
theorem Nt(c:aJ)(h:w.has r):(w.step c (fq 9 r)).1=w.aZ r ((w.node r).start c r).1/\(w.step c (fq 9 r)).2=((w.node r).start c r).2:=by unfold aD.step aD.dj;rw[ai (c:=4<=(fq 9 r).kind/\(fq 9 r).kind<=7) (by show¬((4:Int)<=9/\(9:Int)<=7);omega),an (c:=8<=(fq 9 r).kind/\(fq 9 r).kind<=10) (by show(8:Int)<=9/\(9:Int)<=10;omega),an (c:=w.has (fq 9 r).r) h];exact⟨rfl,rfl⟩
theorem HG(c:aJ)(h:¬w.has 5):(w.step c (fq 8 5)).1={w with aO:=w.aO.db}/\(w.step c (fq 9 5)).1={w with aO:=(w.aO.start c).1}:=by
 unfold aD.step aD.dj;rw[ai (c:=4<=(fq 9 5).kind/\(fq 9 5).kind<=7) (by show¬((4:Int)<=9/\(9:Int)<=7);omega),an (c:=8<=(fq 9 5).kind/\(fq 9 5).kind<=10) (by show(8:Int)<=9/\(9:Int)<=10;omega),ai (c:=w.has (fq 9 5).r) h,
  ai (c:=4<=(fq 8 5).kind/\(fq 8 5).kind<=7) (by show¬((4:Int)<=8/\(8:Int)<=7);omega),an (c:=8<=(fq 8 5).kind/\(fq 8 5).kind<=10) (by show(8:Int)<=8/\(8:Int)<=10;omega),ai (c:=w.has (fq 8 5).r) h]
 exact⟨rfl,rfl⟩
theorem QI.cw{k:Nat}{c:aJ}{w:aD}(q:QI k c w):∀j:Nat,j<=w.nodes.length->k+2*j<=190->QI (k+2*j) c (w.cw c j)/\(w.cw c j).nodes.length=w.nodes.length
 |0,_,_=>⟨q,rfl⟩
 |j+1,hj,hk=>by
  obtain⟨l,h⟩:=q.cw j U U;have a:(w.cw c j).has (j:Int):=⟨U,U⟩;have b:=l.step U (fq 8 j);have e:=PR c a;rw[e]at b;have g:((w.cw c j).aZ j ((w.cw c j).node j).db).has (j:Int):=by
   unfold aD.has at*
   rw[nG];exact a
  have d:=b.step U (fq 9 j);have i:((w.cw c j).aZ j ((w.cw c j).node j).db).node (j:Int)=((w.cw c j).node j).db:=by rw[pA a _ _ U,an rfl]
  have f:(((w.cw c j).aZ j ((w.cw c j).node j).db).step c (fq 9 j)).1=w.cw c (j+1):=by rw[(Nt c g).1,i,zo];rfl
  rw[f]at d;refine⟨by rw[show k+2*(j+1)=k+2*j+1+1 by omega];exact d,?_⟩;show((w.cw c j).aZ _ _).nodes.length=_;rw[nG,h]
theorem QI.re{k:Nat}{c:aJ}{w:aD}(q:QI k c w)(l:k<=170):QI (k+12) c (w.re c):=by
 have n:=(q.gd.ok U).n5;obtain⟨h,m⟩:=q.cw w.nodes.length (bj _) U;have d:¬(w.cw c w.nodes.length).has 5:=λh=>by have:=h.2;omega
 have b:=h.step U (fq 8 5);have e:=(HG c d).1;rw[e]at b;have a:=b.step U (fq 9 5);have aO:∀j,(w.cw c j).aO=w.aO:=λj=>by
  induction j with
  |zero=>rfl
  |succ j ih=>exact ih
 have i:¬({w.cw c w.nodes.length with aO:=(w.cw c w.nodes.length).aO.db}:aD).has 5:=d;have f:(({w.cw c w.nodes.length with aO:=(w.cw c w.nodes.length).aO.db}:aD).step c (fq 9 5)).1=w.re c:=by rw[(HG c i).2];show({w.cw c w.nodes.length with aO:=((w.cw c w.nodes.length).aO.db.start c).1}:aD)=_;rw[aO];rfl
 rw[f]at a;have g:k+2*w.nodes.length+1+1<=k+12:=U;exact⟨a.gd.mono g,a.q,a.gv,a.ft⟩
theorem FP{c:aJ}{w:aD}:∀(j:Nat),j<=w.nodes.length->∀r:Int,w.has r->(w.cw c j).nodes.length=w.nodes.length/\(w.cw c j).node r=if r<j then((w.node r).db.start c r).1 else w.node r
 |0,_,r,hr=>⟨rfl,by rw[ai (by have:=hr.1;omega)];rfl⟩
 |j+1,hj,r,hr=>by
  obtain⟨e,f⟩:=FP (c:=c) (w:=w) j U r hr;obtain⟨_,g⟩:=FP (c:=c) (w:=w) j U (j:Int) ⟨U,U⟩;have d:(w.cw c j).has (j:Int):=⟨U,U⟩;refine⟨by show((w.cw c j).aZ _ _).nodes.length=_;rw[nG,e],?_⟩;show((w.cw c j).aZ (j:Int) _).node r=_;rw[pA d _ _ hr.1];by_cases b:r=(j:Int)
  ·subst b;rw[an rfl,an U,g,ai U]
  ·rw[ai b,f];by_cases a:r<(j:Int)
   ·rw[an a,an U]
   ·rw[ai a,ai U]
theorem NN(a:w.has r):(w.re c).has r/\(w.re c).node r=((w.node r).db.start c r).1:=by obtain⟨b,d⟩:=FP (c:=c) w.nodes.length (bj _) r a;refine⟨⟨a.1,by show r<((w.cw c w.nodes.length).nodes.length:Int);rw[b];exact a.2⟩,?_⟩;show(w.cw c w.nodes.length).node r=_;rw[d,an a.2]
structure CL(st:aG):Prop where
 up:st.up=true
 bE:st.bE=false
 held:st.held=[]
theorem Wm(a:w.has r):CL ((w.re c).node r):=by rw[(NN a).2];exact⟨rfl,rfl,rfl⟩
theorem OT(st:aG)(k:Int):(st.cut k).site=st.site:=rfl
theorem Qq{e:Ed}(f:CL st)(h:(st.edit c r e).2≠0)(k:Int):(st.cut k).edit c r e=(st.cut k,(st.edit c r e).2):=by
 have a:st.dg c r e≠0:=λg=>h (by unfold aG.edit;rw[ai (by rw[g];simp),aG.sO f.bE,ai (by simp)]);have b:st.edit c r e=(st,st.dg c r e):=by unfold aG.edit;rw[an a]
 have d:(st.cut k).dg c r e=st.dg c r e:=rfl;rw[b];unfold aG.edit;rw[d,an a]
theorem Ym{e:Ed}(g:cy i c r st)(M:i<=190)(f:CL st)(h:(st.edit c r e).2=0)(k:Int):
  (st.dm r e).aW/\((st.cut k).edit c r e).2=18/\((st.cut k).edit c r e).1.up=false/\((st.cut k).edit c r e).1.start c r=((((st.cut k).edit c r e).1.start c r).1,0)/\
  ((((st.cut k).edit c r e).1.start c r).1.site.held=[]/\(((st.cut k).edit c r e).1.start c r).1.site.sent=st.site.sent/\
   (((st.cut k).edit c r e).1.start c r).1.site.log=st.site.log++if((bw 1 r [st.dm r e]).bytes.length:Int)<=k then[⟨r,(st.dm r e).n⟩]else[]):=by
 have a:st.dg c r e=0:=nW λm=>by unfold aG.edit at h;rw[an m]at h;exact m h
 have o:(st.dm r e).aW:=by
  have C:=g.ok (show i<=200 by omega);unfold aG.dg at a;rw[ai (by rw[f.up];simp)]at a;split at a
  ·rename_i b;exact absurd a b
  rename_i b;split at a
  ·cases a
  split at a
  ·cases a
  rename_i H I;have L:=zn (l:=st.log) (by have:=g.dK.iZ;rw[(g.up f.up).2]at this;exact this) st.aT;exact aG.Aj C U f.up (Ce (by simpa using b)) U U
 have z:(bw 1 r [st.dm r e]).aW:=pb (.inl ⟨rfl,rfl⟩) g.r5 (by simp) (λy hy=>by rw[mJ.1 hy];exact o);have p:replay st.aE=(st.log,st.sent):=(g.up f.up).2;obtain⟨F,d,P,u⟩:=yd (st:=st.cut k) z rfl;have x:(st.cut k).edit c r e=(((st.cut k).write (bw 1 r [st.dm r e])).1,18):=by unfold aG.edit;have v:(st.cut k).dg c r e=st.dg c r e:=rfl;have w:(st.cut k).dm r e=st.dm r e:=rfl;rw[v,ai (by rw[a];simp),w,an (by rw[F];simp)]
 rw[x];simp only;obtain⟨t,A⟩:∃t,t=((st.cut k).write (bw 1 r [st.dm r e])).1:=⟨_,rfl⟩;rw[<-A]at d u⊢
 have j:t.start c r=({t with up:=true,tail:=[],bE:=false,log:=(replay t.aE).1,sent:=(replay t.aE).2,aT:=cr (replay t.aE).1,held:=[],wait:=ie c.q r (replay t.aE).2 (replay t.aE).1},0):=by unfold aG.start;rw[ai (by rw[d];simp)]
 have s:st.site=⟨true,st.aT,st.sent,st.held.map Ev.cj,st.log.map Ev.cj⟩:=by unfold aG.site;rw[an f.up]
 have q:replay t.aE=(st.log++(if((bw 1 r [st.dm r e]).bytes.length:Int)<=k then[st.dm r e]else[]),st.sent):=by
  rw[u];show replay (if((bw 1 r [st.dm r e]).bytes.length:Int)<=k then st.aE++[bw 1 r [st.dm r e]]else st.aE)=_;split
  ·rw[iR,p];rfl
  ·rw[p,ck]
 refine⟨o,trivial,d,by rw[j],?_⟩;rw[j];refine⟨rfl,?_,?_⟩
 ·rw[s];show(replay t.aE).2=st.sent;rw[q]
 ·rw[s];show(replay t.aE).1.map Ev.cj=st.log.map Ev.cj++_;rw[q];show(st.log++_).map Ev.cj=_;rw[dA];split<;>rfl
end
section
theorem rem_in(a:Int)(N:Nat)(h:1<=N):0<=(a.tmod N+N).tmod N/\(a.tmod N+N).tmod N<N:=by have c:=yX a (show(0:Int)<N by omega);have d:-(N:Int)<a.tmod N:=zO a U;have b:0<=a.tmod N+N:=U;exact⟨Int.tmod_nonneg _ b,yX _ U⟩
theorem yr{e:Ed}(k r a:Int)(h:e.key.length<=1000/\e.value.length<=1000):(⟨k,r,e,0,0,0,a⟩:cB).Ok:=⟨by unfold cD;show(-9223372036854775808:Int)<=0/\(0:Int)<=_;omega,by show(0:Int)<=0/\(0:Int)<4294967296;omega,h.1,h.2⟩
set_option maxRecDepth 20000 attribute [local irreducible] Ex aM Fn bI bJ bV fin meet ch aX bZ aP aN aI Rd aK Row ao Sub bk bP bS bN bg bR Hid bY
section
attribute [local irreducible] aA aV.own
theorem Nl(d f:Value)(ss a:List aV)(M:List aa)(P:ss.length=a.length)(I:ss.length<=5)(r:∀p∈ss.map aV.p,p.held.length<=10000/\p.log.length<=10000)(t:∀p∈a.map aV.p,p.held.length<=10000/\p.log.length<=10000)
  (r1:∀s∈ss,aI M s.u1 s.p.held/\aI M s.u2 s.p.log)(u:∀s∈a,aI M s.u1 s.p.held/\aI M s.u2 s.p.log):
  Fn prog 19 #[d,f] (cJ d ss::cJ f a::M)
   λv L'=>v=.bool (decide (ss.map aV.p=a.map aV.p))/\L'=cJ d ss::cJ f a::M:=by
 refine fo func19 ntmps19 ?_;refine rn ?_;intros;refine bm [5] (λz vs L'=>∃(j:Nat),j<=ss.length/\z=ss.length-j/\(ss.map aV.p).take j=(a.map aV.p).take j/\vs=[.int .i64 j]/\L'=cJ d ss::cJ f a::M) ss.length ⟨0,U,rfl,rfl,rfl,rfl⟩ ?_;rintro z vs F w ⟨j,L,rfl,l,rfl,rfl⟩;refine bp [0,1,5] rG (λH=>?_);by_cases b:j<ss.length
 ·have c:j<a.length:=U;have o:=r1 _ (bT b);have q:=u _ (bT c);have A:=r _ (fA.2 ⟨ss[j]'b,bT b,rfl⟩);have C:=t _ (fA.2 ⟨a[j]'c,bT c,rfl⟩);have i:j<(ss.map aV.p).length:=by rw[bC];exact b
  have k:j<(a.map aV.p).length:=by rw[bC];exact c
  have m:(ss.map aV.p)[j]'i=(ss[j]'b).p:=gT ..;have n:(a.map aV.p)[j]'k=(a[j]'c).p:=gT ..;refine rn ?_;intros;refine bU 9 _ rfl rQ (eb _) ?_;(repeat' (first|(refine m1 ?_;intros)|(refine cG J J J (λh=>?_) (λh=>?_)<;>try(exfalso;omega))));refine ma [] call54 (Kb (ss[j]'b).p (a[j]'c).p _ _ _ _ _ (o.1.sub rP) (o.2.sub rP) (q.1.sub rP) (q.2.sub rP) (ss[j]'b).o1 (ss[j]'b).o2 (a[j]'c).o1 (a[j]'c).o2 U U U U) ?_;rintro _ _ ⟨rfl,rfl⟩;by_cases g:(ss[j]'b).p=(a[j]'c).p
  ·rw[bf g];refine mw ?_;intros;refine rn ?_;intros;refine aS ⟨ss.length-(j+1),cJ d ss::cJ f a::M,U,rP,j+1,U,rfl,by rw[da i,da k,l,m,n,g],av (aQ U) rfl,rfl⟩
  ·have e:decide (ss.map aV.p=a.map aV.p)=false:=bd (CW i k (by rw[m,n];exact g));rw[bd g,e];refine mw ?_;intros;exact fX
 ·obtain rfl:j=ss.length:=U;have e:decide (ss.map aV.p=a.map aV.p)=true:=bf (by
   have x:(ss.map aV.p).length=ss.length:=bC ..;have y:(a.map aV.p).length=ss.length:=by rw[bC];omega
   rw[ic U,ic U]at l;exact l)
  rw[e];exact fX
def pB(r k:Int):cB:=⟨10,r,⟨0,[],0,[]⟩,0,0,0,k⟩
def oS(r:Int)(e:Ed):cB:=⟨0,r,e,0,0,0,0⟩
theorem Jg(c:aJ)(h:w.has r)(k:Int):w.step c (pB r k)=(w.aZ r ((w.node r).cut k),0):=by unfold aD.step aD.dj;rw[ai (c:=4<=(pB r k).kind/\(pB r k).kind<=7) (by show¬((4:Int)<=10/\(10:Int)<=7);omega),an (c:=8<=(pB r k).kind/\(pB r k).kind<=10) (by show(8:Int)<=10/\(10:Int)<=10;omega),an (c:=w.has (pB r k).r) h];rfl
theorem Nx(c:aJ)(h:w.has r)(e:Ed):w.step c (oS r e)=(w.aZ r ((w.node r).edit c r e).1,((w.node r).edit c r e).2):=by unfold aD.step;rw[ai (c:=4<=(oS r e).kind/\(oS r e).kind<=7) (by show¬((4:Int)<=0/\(0:Int)<=7);omega),ai (c:=8<=(oS r e).kind/\(oS r e).kind<=10) (by show¬((8:Int)<=0/\(0:Int)<=10);omega),ai (c:=¬w.has (oS r e).r) (λk=>k h),an (c:=(oS r e).kind=0) rfl];rfl
theorem CV(h:w.has r)(s:aG):(w.aZ r s).has r:=by unfold aD.has at*;rw[nG];exact h
theorem Ae(h:w.has r)(s:aG):(w.aZ r s).node r=s:=by rw[pA h _ _ h.1,an rfl]
theorem Nu(w:aD)(r:Int)(s:aG):(w.aZ r s).sites=w.sites.set r.toNat s.site:=oC ..
theorem F4(h:w.has r):w.sites[r.toNat]?=some (w.node r).site:=by have a:=h.1;have b:=h.2;have hi:r.toNat<w.nodes.length:=U;unfold aD.sites aD.node;simp[cu,hi]
theorem UY(h:w.has r)(a:s.site=(w.node r).site):(w.aZ r s).sites=w.sites:=by rw[Nu,a];have:=F4 h;obtain⟨hi,b⟩:=iA.1 this;rw[<-b,qB]
attribute [local irreducible] bD bL cx cQ bz fp.own wS bA cc cF cv cE dr
theorem VV(c0:aJ)(v1:Value)(l:List cB)(x:cB)(M:List aa)(hr:aI M v1 l)(o1:O1 v1)(hl:l.length<=140737488351232)(hs:∀s∈l,s.In)(hx:x.In):
  Fn prog 5 #[.agg (ab.cells c0).toArray,v1,.agg (ab.cells x).toArray] M λv L'=>v=.bool true/\L'=M:=by
 obtain⟨c,hc⟩:∃c,c=xd c0:=⟨_,rfl⟩;have hm:c.aW:=by rw[hc];exact Iy c0
 have K7:=hm.n;obtain⟨N,m8⟩:∃N:Nat,c.n=N:=⟨c.n.toNat,U⟩;refine fo func5 ntmps5 ?_;refine rn ?_;(repeat(first|intro(g:Nat)|intro(v:Value)|intro h));revert g;intro P;refine ca [] call10 (Jv _) ?_;rintro _ _ ⟨rfl,rfl⟩;refine rn ?_;(repeat(first|intro(g:Nat)|intro(v:Value)|intro h));refine ca [] call11 (Km c0 _) ?_;rintro _ _ ⟨rfl,rfl⟩;rw[<-hc];refine rn ?_;(repeat(first|intro(g:Nat)|intro(v:Value)|intro h));revert g;intro I;refine ca [] call12 (MB c _ hm) ?_;rintro _ _ ⟨d,gy,rfl,rfl⟩;have q0:=QI.new hm;refine rn ?_;(repeat(first|intro(g:Nat)|intro(v:Value)|intro h));rw[m8];refine bc [] J call13 J J (KG v1 l N _ rD o1 U U (λs h=>⟨by have:=(hs s h).key;omega,by have:=(hs s h).value;omega⟩)) ?_;rintro D8 _ ⟨L9,rfl⟩;have F9:=Jp N l hs;have I8:=Ko N l;obtain⟨f,hS⟩:∃f,f=pX N l:=⟨_,rfl⟩;rw[<-hS]at F9 I8⊢
 clear hS;refine rn ?_;(repeat(first|intro(g:Nat)|intro(v:Value)|intro h));refine bF (L':=bz d c (aD.new c)::dr gy c (aD.new c)::ao I 23 (ab.cells c)::aK D8 29 f::ao P 29 (ab.cells x)::M) ?_ rP;refine bm [12] (λz vs L'=>∃(j:Nat) (w:aD),j<=f.length/\z=f.length-j/\QI j c w/\vs=[.int .i64 j]/\L'=bz d c w::dr gy c w::ao I 23 (ab.cells c)::aK D8 29 f::ao P 29 (ab.cells x)::M) f.length ⟨0,aD.new c,U,rfl,q0,rfl,rfl⟩ ?_;rintro z vs C L1 ⟨j,w,hj,rfl,qj,rfl,rfl⟩;refine bp [5,8,9,10,11,12] rG (λgk=>?_);by_cases d7:j<f.length
 ·have G9:=F9 (f[j]'d7) (bT d7);have q2:=qj.step U (f[j]'d7);refine rn ?_;(repeat(first|intro(g:Nat)|intro(v:Value)|intro h));refine ca [] call17 (sI (k:=198) d c w (f[j]'d7) _ ((qj.gd.mono U).ok U) (bj _) G9) ?_;rintro _ _ ⟨rfl,rfl⟩;refine rn ?_;(repeat(first|intro(g:Nat)|intro(v:Value)|intro h));refine ca [1] call18 (Ol (k:=j) gy c w (f[j]'d7) _ qj U G9) ?_;rintro _ _ ⟨rfl,rfl⟩;refine rn ?_;(repeat(first|intro(g:Nat)|intro(v:Value)|intro h));exact aS ⟨f.length-(j+1),bz d c (w.step c (f[j]'d7)).1::dr gy c (w.step c (f[j]'d7)).1::ao I 23 (ab.cells c)::aK D8 29 f::ao P 29 (ab.cells x)::M,U,rP,j+1,(w.step c (f[j]'d7)).1,U,rfl,q2,av (aQ U) rfl,rfl⟩
 obtain rfl:j=f.length:=U;refine rn ?_;(repeat(first|intro(g:Nat)|intro(v:Value)|intro h));refine ca [] call24 (IE (kk:=198) d c w 0 _ (bj _) U (qj.gd.He 0 U)) ?_;rintro _ _ rfl;refine rn ?_;(repeat(first|intro(g:Nat)|intro(v:Value)|intro h));refine ca [1] call25 (Wk (k:=f.length) gy c w _ qj U) ?_;rintro _ _ rfl;have qu:=qj.re U;have y9:=λr (hr:w.has r)=>Wm (c:=c) hr;have z7:=λr (hr:w.has r)=>(NN (c:=c) hr).1;have L8:=qj.gd.n;have J4:w.mG c 0=w.re c:=rfl;rw[J4];generalize w.re c=u at qu y9 z7⊢
 refine rn ?_;(repeat(first|intro(g:Nat)|intro(v:Value)|intro h));refine bF (L':=bz d c u::dr gy c u::ao I 23 (ab.cells c)::ao P 29 (ab.cells x)::M) ?_ rP;have G7:=rem_in x.r N U;have I1:=yX x.r (show(0:Int)<N by omega);have I2:-(N:Int)<x.r.tmod N:=zO x.r U;have H4:=hx.r;unfold cD at H4;have K5:(N:Int)≠0:=U;refine sc ?_;(repeat(first|intro(g:Nat)|intro(v:Value)|intro h));rw[m8]
 (repeat' (first|(refine m1 ?_;(repeat(first|intro(g:Nat)|intro(v:Value)|intro h)))|(refine cG J J J (λh=>?_) (λh=>?_)<;>try(exfalso;omega))))
 refine rn ?_;(repeat(first|intro(g:Nat)|intro(v:Value)|intro h));rw[wrap_i64 U U];generalize (x.r.tmod N+N).tmod N=r at G7⊢
 clear I1 I2 H4;have H0:w.has r:=⟨G7.1,U⟩;have q:=z7 r H0;have hf:=y9 r H0;clear y9 z7;have I6:=Np x.ed;refine ca [] call26 (xB x.ed _ (by have:=hx.key;omega) (by have:=hx.value;omega)) ?_;rintro _ _ ⟨rfl,rfl⟩;rw[show x.ed.fit.val=.agg (ab.cells x.ed.fit).toArray from rfl];obtain⟨e,he⟩:∃e,e=x.ed.fit:=⟨_,rfl⟩;rw[<-he]at I6⊢
 refine rn ?_;(repeat(first|intro(g:Nat)|intro(v:Value)|intro h));revert g;intro m7;rw[m8];have q9:dE 198 c u:=(qu.gd.mono U).ok U;have L4:=qu.gd.n;have F6:=qu.gd.nd r q;refine ca [1] call16 (xa (k:=198) d c u _ q9 (bj _) N U) ?_;rintro n _ ⟨ss,M0,j5,rfl⟩;refine rn ?_;(repeat(first|intro(g:Nat)|intro(v:Value)|intro h));refine ca [2] call15 (xC (k:=198) d c u _ q9 (bj _)) ?_;rintro _ _ ⟨rfl,rfl⟩;generalize hH:u.aO.gg=Q;refine rn ?_;(repeat(first|intro(g:Nat)|intro(v:Value)|intro h));revert g;intro c9;refine bF (L':=dr gy c u::bz d c u::cJ n ss::aA (ss.map aV.own)::ao c9 53 (ab.cells Q)::ao m7 26 (ab.cells e)::ao I 23 (ab.cells c)::ao P 29 (ab.cells x)::M) ?_ rP;refine dr.ex λgh gl vs gs ov K8=>?_;have L6:r<gs.length:=U;refine bF (L':=bA (gs.getD r.toNat ⟨0⟩).g c r (u.node r)::cY gy c gh gl vs::di vs gs::ao m7 26 (ab.cells e)::bz d c u::cJ n ss::aA (ss.map aV.own)::ao c9 53 (ab.cells Q)::ao I 23 (ab.cells c)::ao P 29 (ab.cells x)::M) ?_ (ar rP (qz q (bz d c u::cJ n ss::aA (ss.map aV.own)::ao c9 53 (ab.cells Q)::ao m7 26 (ab.cells e)::ao I 23 (ab.cells c)::ao P 29 (ab.cells x)::M)));refine bU 14 (_::_::_::_::_::_::_::_::_::M) rfl rQ rF ?_;refine mn ?_;(repeat(first|intro(g:Nat)|intro(v:Value)|intro h));rw[<-pq U]
 (repeat' (first|(refine m1 ?_;(repeat(first|intro(g:Nat)|intro(v:Value)|intro h)))|(refine cG J J J (λh=>?_) (λh=>?_)<;>try(exfalso;omega))))
 refine ma [] call27 (KC (k:=f.length+12) _ c r (u.node r) e _ F6 (qu.q r q) (qu.zQ q) U U U) ?_;rintro _ _ ⟨y,rfl,u9,m6,rfl⟩;have n9:=Qq (c:=c) (r:=r) (e:=e) hf;have R:=Ym (c:=c) (e:=e) F6 U hf;have m6:=λh=>m6 ⟨hf.bE,h⟩;obtain⟨wd,J6⟩:∃wd,wd=((u.node r).edit c r e).2:=⟨_,rfl⟩;rw[<-J6]at u9 m6 n9 R⊢
 refine bn ?_;refine br rF ?_;refine mn ?_;(repeat(first|intro(g:Nat)|intro(v:Value)|intro h));revert g;intro l9;refine bX J J J ?_;(first|refine fO 0 J J rE rN J J rE rE ?_|refine fD 0 J J J rC J J J rE ?_|refine fQ 0 J J J rE J J rE ?_);refine bn ?_;refine br rF ?_;refine mn ?_;(repeat(first|intro(g:Nat)|intro(v:Value)|intro h));refine rn ?_;(repeat(first|intro(g:Nat)|intro(v:Value)|intro h));revert g;intro w7;refine cb (L':=aK (.slice (some ⟨w7,0,none⟩) 1 1) 80 [y]::bz d c u::ao P 29 (ab.cells x)::ao m7 26 (ab.cells e)::ao I 23 (ab.cells c)::ao l9 80 (ab.cells y)::cJ n ss::aA (ss.map aV.own)::ao c9 53 (ab.cells Q)::M) ?_ rP;have G0:0<=r/\r<5:=U;have j1:=q9.lens (bj _);rw[<-j5]at j1;by_cases C6:wd=0
 case neg=>
  have C7:=m6 C6;have n9:=n9 C6;clear u9 m6 R;rw[C7];refine bc [] J call28 J J (V1 r Ev.zero (.slice (some ⟨w7,0,none⟩) 1 1) _ rD rfl G0 (λh=>absurd h.n.1 (by decide)) (by decide) (by decide)) ?_;rintro _ _ ⟨rfl,rfl⟩;refine rn ?_;(repeat(first|intro(g:Nat)|intro(v:Value)|intro h));generalize bits BinOp.and IntKind.i64 x.keep 127=m;have C:=qu.gd.step U (pB r m);have e1:=Jg c q m;have u5:=CV q ((u.node r).cut m);have A:=Nx c u5 e;rw[Ae q,n9 m,zo]at A;rw[e1]at C;have F:=C.step U (oS r e);have j3:(u.aZ r ((u.node r).cut m)).sites=u.sites:=UY q (OT _ _);have F8:(u.aZ r ((u.node r).cut m)).nodes.length=u.nodes.length:=nG ..;simp only at C F A;obtain⟨t,u6⟩:∃t,t=u.aZ r ((u.node r).cut m):=⟨_,rfl⟩;rw[<-u6]at e1 A C F j3 F8;rw[A]at F;simp only at F;have p9:dE 198 c t:=(C.mono U).ok U;have B6:=yr (e:=⟨0,[],0,[]⟩) 10 r m (by decide);have B7:=yr (e:=e) 0 r 0 U;refine ca [1] call17 (sI (k:=198) d c u (pB r m) _ q9 (bj _) B6) ?_;rw[e1];rintro _ _ ⟨rfl,rfl⟩;refine rn ?_;(repeat(first|intro(g:Nat)|intro(v:Value)|intro h));refine ca [] call17 (sI (k:=198) d c t (oS r e) _ p9 (bj _) B7) ?_;rw[A];rintro _ _ ⟨rfl,rfl⟩;refine rn ?_;(repeat(first|intro(g:Nat)|intro(v:Value)|intro h));rw[m8];refine ca [] call16 (xa (k:=198) d c t _ p9 (bj _) N U) ?_;rintro H8 _ ⟨b,M3,d8,rfl⟩;refine rn ?_;(repeat(first|intro(g:Nat)|intro(v:Value)|intro h));have j4:b.length=ss.length/\b.length<=5:=by have a1:=cn List.length j5;have a2:=cn List.length d8;rw[bC]at a1 a2;rw[j3]at a2;unfold aD.sites at a1 a2;rw[bC]at a1 a2;omega
  have n8:=p9.lens (bj _);rw[<-d8]at n8;refine cb (L':=cJ H8 b::aA (b.map aV.own)::cJ n ss::aA (ss.map aV.own)::M) ?_ rP;refine ca [] call19 (LL H8 n b ss _ j4.1 j4.2 n8 j1) ?_;rintro _ _ ⟨rfl,rfl⟩;rw[bf (show b.map aV.p=ss.map aV.p by rw[d8,j5,j3])];refine rn ?_;(repeat(first|intro(g:Nat)|intro(v:Value)|intro h));refine fr ?_;exact⟨_,rP,rfl,rfl⟩
 subst C6;have C7:=u9 rfl;have R:=R rfl;clear u9 m6 n9;obtain⟨F0,_⟩:=R 0;rw[<-C7]at F0 R;have G6:(bw 1 r [y]).aW:=pb (.inl ⟨rfl,rfl⟩) G0 (by simp) (λz hz=>by rw[mJ.1 hz];exact F0);refine bc [] J call28 J J (Gk (bw 1 r [y]) (.slice (some ⟨w7,0,none⟩) 1 1) _ rD rfl G6) ?_;rintro _ _ ⟨vb,ob,rfl,rfl⟩;obtain⟨bb,I3⟩:∃bb,bb=(bw 1 r [y]).bytes:=⟨_,rfl⟩;have I4:=(bw 1 r [y]).lR G6;rw[<-I3]at I4 R⊢
 refine cb (L':=bB vb bb::bz d c u::ao P 29 (ab.cells x)::ao m7 26 (ab.cells e)::ao I 23 (ab.cells c)::ao l9 80 (ab.cells y)::cJ n ss::aA (ss.map aV.own)::ao c9 53 (ab.cells Q)::M) ?_ rP;refine rn ?_;(repeat(first|intro(g:Nat)|intro(v:Value)|intro h));generalize bits BinOp.and IntKind.i64 x.keep 127=m;obtain⟨_,y1,y2,y3,y4,y5,y6⟩:=R m;clear R;have C:=qu.gd.step U (pB r m);have e1:=Jg c q m;have u5:=CV q ((u.node r).cut m);have A:=Nx c u5 e;rw[Ae q,y1,zo]at A;rw[e1]at C;have F:=C.step U (oS r e);simp only at C F A;obtain⟨S,J1⟩:∃S,S=(((u.node r).cut m).edit c r e).1:=⟨_,rfl⟩;rw[<-J1]at A y2 y3 y4 y5 y6;have B8:=CV q S;have e3:=Nt c B8;rw[Ae q,y3,zo]at e3;obtain⟨s3,J3⟩:∃s3,s3=(S.start c r).1:=⟨_,rfl⟩;rw[<-J3]at e3 y4 y5 y6;obtain⟨t,u6⟩:∃t,t=u.aZ r ((u.node r).cut m):=⟨_,rfl⟩;rw[<-u6]at e1 A C F;obtain⟨u2,u7⟩:∃u2,u2=u.aZ r S:=⟨_,rfl⟩;have J0:u2.node r=S:=by rw[u7];exact Ae q S
 have K4:u2.aO=u.aO:=by rw[u7];rfl
 rw[<-u7]at A e3 B8;rw[A]at F;simp only at F;have g3:=F.step U (fq 9 r);rw[e3.1]at g3;have j3:(u.aZ r s3).sites=u.sites.set r.toNat s3.site:=Nu _ _ _;have E7:(u.aZ r s3).aO.gg=Q:=hH;obtain⟨V,B9⟩:∃V,V=u.aZ r s3:=⟨_,rfl⟩;have F8:V.nodes.length=u.nodes.length:=by rw[B9];exact nG ..
 rw[<-B9]at e3 g3 j3 E7;have p9:dE 198 c t:=(C.mono U).ok U;have H6:dE 198 c u2:=(F.mono U).ok U;have C8:dE 198 c V:=(g3.mono U).ok U;have B6:=yr (e:=⟨0,[],0,[]⟩) 10 r m (by decide);have B7:=yr (e:=e) 0 r 0 U;have J2:=yr (e:=⟨0,[],0,[]⟩) 9 r 0 (by decide);clear u5 u6 u7 B9;refine ca [1] call17 (sI (k:=198) d c u (pB r m) _ q9 (bj _) B6) ?_;rw[e1];rintro _ _ ⟨rfl,rfl⟩;refine rn ?_;(repeat(first|intro(g:Nat)|intro(v:Value)|intro h));refine ca [] call17 (sI (k:=198) d c t (oS r e) _ p9 (bj _) B7) ?_;rw[A];rintro _ _ ⟨rfl,rfl⟩;refine rn ?_;(repeat(first|intro(g:Nat)|intro(v:Value)|intro h));refine ca [] call22 (GU (k:=198) d c u2 r _ H6 (bj _) B8) ?_;rw[J0];rintro _ _ ⟨t,D7,M6,M7,rfl,rfl⟩;have G8:S.site.up=false:=by unfold aG.site;rw[ai (by rw[y2];simp)];rfl
 generalize S.site=sp at G8⊢
 refine rn ?_;(repeat(first|intro(g:Nat)|intro(v:Value)|intro h));revert g;intro w8;refine ca [3] call17 (sI (k:=198) d c u2 (fq 9 r) _ H6 (bj _) J2) ?_;rw[e3.1,e3.2];rintro _ _ ⟨rfl,rfl⟩;refine cb (L':=bz d c V::ao w8 65 (mB sp t D7)::bB vb bb::ao I 23 (ab.cells c)::ao l9 80 (ab.cells y)::cJ n ss::aA (ss.map aV.own)::ao c9 53 (ab.cells Q)::M) ?_ rP;refine rn ?_;(repeat(first|intro(g:Nat)|intro(v:Value)|intro h));rw[m8];refine ca [] call16 (xa (k:=198) d c V _ C8 (bj _) N U) ?_;rintro H _ ⟨b,M4,d8,rfl⟩;have j4:b.length=ss.length/\b.length<=5/\ss.length=N:=by have a1:=cn List.length j5;have a2:=cn List.length d8;rw[bC]at a1 a2;unfold aD.sites at a1 a2;rw[bC]at a1 a2;omega
 have n8:=C8.lens (bj _);rw[<-d8]at n8;have L:r.toNat<b.length:=U;have o:r.toNat<ss.length:=U;have s9:(b[r.toNat]'L).p=s3.site:=by have h:=cn (·[r.toNat]?) d8;simp only[kz,gV L,oF]at h;rw[j3,tM (by rw[<-j5,bC];exact o)]at h;exact Bx h
 have A9:(ss[r.toNat]'o).p=(u.node r).site:=by have h:=cn (·[r.toNat]?) j5;simp only[kz,gV o,oF]at h;rw[F4 q]at h;exact Bx h
 refine rn ?_;(repeat(first|intro(g:Nat)|intro(v:Value)|intro h));refine bF (L':=bz d c V::cJ H b::cJ n ss::ao w8 65 (mB sp t D7)::ao c9 53 (ab.cells Q)::aA (b.map aV.own)::aA (ss.map aV.own)::bB vb bb::ao l9 80 (ab.cells y)::M) ?_ rP;refine Ex.xH ((aV.rd L (bz d c V::cJ H b::cJ n ss::ao w8 65 (mB sp t D7)::ao c9 53 (ab.cells Q)::aA (ss.map aV.own)::bB vb bb::ao l9 80 (ab.cells y)::M)).1.sub rP).wv ?_;rw[s9,y4];intro K6;refine TS ?_;(repeat(first|intro(g:Nat)|intro(v:Value)|intro h));rw[G8]
 (repeat' (first|(refine m1 ?_;(repeat(first|intro(g:Nat)|intro(v:Value)|intro h)))|(refine cG J J J (λh=>?_) (λh=>?_)<;>try(exfalso;omega))))
 refine ma [] call15 (xC (k:=198) d c V _ C8 (bj _)) ?_;rintro _ _ ⟨rfl,rfl⟩;rw[E7];refine bn ?_;refine br rF ?_;refine mn ?_;(repeat(first|intro(g:Nat)|intro(v:Value)|intro h))
 (repeat' (first|(refine m1 ?_;(repeat(first|intro(g:Nat)|intro(v:Value)|intro h)))|(refine cG J J J (λh=>?_) (λh=>?_)<;>try(exfalso;omega))))
 refine cb (L':=cJ H b::cJ n ss::bB vb bb::ao l9 80 (ab.cells y)::aA (b.map aV.own)::aA (ss.map aV.own)::M) ?_ rP;have K0:=(aV.rd o M).2;have j8:=(aV.rd L (aA (ss.map aV.own)::M)).2;have I9:=(j1 _ (fA.2 ⟨_,bT o,rfl⟩)).2;have m9:=(n8 _ (fA.2 ⟨_,bT L,rfl⟩)).2;rw[A9]at K0 I9;rw[s9,y6]at j8;rw[s9,y6]at m9;generalize (u.node r).site.log=lg at*
 have L7:(b[r.toNat]'L).p.sent=(ss[r.toNat]'o).p.sent:=by rw[s9,A9,y5]
 have r9:(b.set r.toNat (ss[r.toNat]'o)).map aV.p=ss.map aV.p:=by have hg:=F4 q;obtain⟨hq,hv⟩:=iA.1 hg;rw[oC,d8,j3,pD,A9,j5,<-hv,qB]
 have C9:∀z∈ss,aI (aA (b.map aV.own)::aA (ss.map aV.own)::M) z.u1 z.p.held/\aI (aA (b.map aV.own)::aA (ss.map aV.own)::M) z.u2 z.p.log:=λz hz=>by obtain⟨i,hi,rfl⟩:=la hz;have h:=aV.rd hi M;exact⟨h.1.sub (iC _ (bW _)),h.2.sub (iC _ (bW _))⟩
 have H7:∀z∈b.set r.toNat (ss[r.toNat]'o),aI (aA (b.map aV.own)::aA (ss.map aV.own)::M) z.u1 z.p.held/\aI (aA (b.map aV.own)::aA (ss.map aV.own)::M) z.u2 z.p.log:=λz hz=>by
  rcases tZ hz with hz|rfl
  ·obtain⟨i,hi,rfl⟩:=la hz;exact aV.rd hi (aA (ss.map aV.own)::M)
  ·exact C9 _ (bT o)
 by_cases hk:(bb.length:Int)<=m
 ·rw[an hk]at j8 m9;refine rn ?_;(repeat(first|intro(g:Nat)|intro(v:Value)|intro h));refine pn (a:=(⟨r,y.n⟩:Mk)) J J J J (λg=>?_);refine rn ?_;(repeat(first|intro(v:Value)|intro h));obtain⟨W,hW⟩:∃W,W=lg++[(⟨r,y.n⟩:Mk)]:=⟨_,rfl⟩;rw[<-hW]at j8 m9⊢
  refine bF (L':=aK v 90 W::cJ H b::cJ n ss::aA (b.map aV.own)::aA (ss.map aV.own)::M) ?_ rP;refine Gs ?_;(repeat(first|intro(v:Value)|intro h));refine bX J J J ?_;refine bc [] J call29 rE J (AR (b[r.toNat]'L).u2 v W W _ (j8.sub rP) rD U U) ?_;rintro _ _ ⟨rfl,rfl⟩;rw[bf (rfl:W=W)];refine bn ?_;refine br rF ?_;refine mn ?_;(repeat(first|intro(v:Value)|intro h))
  (repeat' (first|(refine m1 ?_;(repeat(first|intro(v:Value)|intro h)))|(refine cG J J J (λh=>?_) (λh=>?_)<;>try(exfalso;omega))))
  refine rn ?_;(repeat(first|intro(v:Value)|intro h));refine zU 1 (i:=r.toNat) (xs:=b) (a:=ss[r.toNat]'o) (L':=aK v 90 W::cJ H (b.set r.toNat (ss[r.toNat]'o))::cJ n ss::aA (b.map aV.own)::aA (ss.map aV.own)::M) J J J J J L J ?_;refine rn ?_;(repeat(first|intro(v:Value)|intro h));refine cb (L':=cJ H (b.set r.toNat (ss[r.toNat]'o))::cJ n ss::aA (b.map aV.own)::aA (ss.map aV.own)::M) ?_ rP;refine ca [] call19 (Nl H n (b.set r.toNat (ss[r.toNat]'o)) ss (aA (b.map aV.own)::aA (ss.map aV.own)::M) (by rw[iw];exact j4.1) (by rw[iw];exact j4.2.1) (by rw[r9];exact j1) j1 H7 C9) ?_;rintro _ _ ⟨rfl,rfl⟩;rw[bf r9];refine rn ?_;(repeat(first|intro(v:Value)|intro h));refine fr ?_;exact⟨_,rP,rfl,rfl⟩
 ·rw[ai hk,ck]at j8 m9;refine rn ?_;(repeat(first|intro(v:Value)|intro h));obtain⟨W,hW⟩:∃W,W=lg:=⟨_,rfl⟩;rw[<-hW]at j8 m9⊢
  refine bF (L':=aK v 90 W::cJ H b::cJ n ss::aA (b.map aV.own)::aA (ss.map aV.own)::M) ?_ rP;refine Gs ?_;(repeat(first|intro(v:Value)|intro h));refine bX J J J ?_;refine bc [] J call29 rE J (AR (b[r.toNat]'L).u2 v W W _ (j8.sub rP) rD U U) ?_;rintro _ _ ⟨rfl,rfl⟩;rw[bf (rfl:W=W)];refine bn ?_;refine br rF ?_;refine mn ?_;(repeat(first|intro(v:Value)|intro h))
  (repeat' (first|(refine m1 ?_;(repeat(first|intro(v:Value)|intro h)))|(refine cG J J J (λh=>?_) (λh=>?_)<;>try(exfalso;omega))))
  refine rn ?_;(repeat(first|intro(v:Value)|intro h));refine zU 1 (i:=r.toNat) (xs:=b) (a:=ss[r.toNat]'o) (L':=aK v 90 W::cJ H (b.set r.toNat (ss[r.toNat]'o))::cJ n ss::aA (b.map aV.own)::aA (ss.map aV.own)::M) J J J J J L J ?_;refine rn ?_;intros;refine cb (L':=cJ H (b.set r.toNat (ss[r.toNat]'o))::cJ n ss::aA (b.map aV.own)::aA (ss.map aV.own)::M) ?_ rP;refine ca [] call19 (Nl H n (b.set r.toNat (ss[r.toNat]'o)) ss (aA (b.map aV.own)::aA (ss.map aV.own)::M) (by rw[iw];exact j4.1) (by rw[iw];exact j4.2.1) (by rw[r9];exact j1) j1 H7 C9) ?_;rintro _ _ ⟨rfl,rfl⟩;rw[bf r9];exact fX
theorem Tn(c0:aJ)(a:Value)(l:List cB)(x:cB)(W:World)(c:aI [ng W] a l)(e:O1 a)(b:l.length<=140737488351232)(d:∀s∈l,s.In)(hx:x.In):
  Fn prog 5 #[.agg (ab.cells c0).toArray,a,.agg (ab.cells x).toArray] [ng W] λv L'=>v=.bool true/\L'=[ng W]:=VV c0 a l x [ng W] c e b d hx
end
end
section
open Go.ChangeShapes Go.WideShapes Go.ChangeAt Go.RowKit
set_option maxRecDepth 20000 in
theorem UZ:(laidOutB prog)=true:=by kernel_rfl
set_option maxRecDepth 20000 in
theorem Pz:(mapsRowed prog)=true:=by kernel_rfl
set_option maxRecDepth 20000 in
theorem RW:(namedTie prog Rows.topCutsRow.named Rows.topCutsSpec.vars)=true:=by kernel_rfl
set_option maxRecDepth 20000 in
theorem Qb:((Rows.topCutsRow.inPlace==prog.inPlace 5))=true:=by kernel_rfl
set_option maxRecDepth 20000 in
theorem S9:((Rows.topCutsRow.unfollowed==prog.unfollowed 5))=true:=by kernel_rfl
set_option maxRecDepth 20000 in
theorem SQ:((Rows.topCutsRow.recurses==prog.recurses 5))=true:=by kernel_rfl
set_option maxRecDepth 20000 in
theorem Xf:((Rows.topCutsRow.named==prog.varsNamed 5))=true:=by kernel_rfl
set_option maxRecDepth 20000 in
theorem YJ:((Rows.topCutsRow.plainKeys==prog.plainKeys))=true:=by kernel_rfl
set_option maxRecDepth 20000 in
theorem Sx:((Rows.topCutsRow.lifted==prog.liftsFinal))=true:=by kernel_rfl
theorem fR{a b:Bool}(h:a=true)(k:b=true):(a&&b)=true:=by rw[h,k];rfl
set_option maxRecDepth 20000 in
theorem ZZ:joinedFacts prog 5 f5 Rows.topCutsSpec Rows.topCutsRow=true:=by unfold joinedFacts;exact(fR (fR (fR (fR (fR (fR (fR (fR (fR (fR (fR (fR (fR (fR (fR (fR (fR (fR (fR (fR (fR (fR (fR (fR (fR (fR (fR (fR (fR (fR (fR rQ UZ) Pz) rQ) RW) rQ) rQ) rQ) rQ) Qb) S9) SQ) Xf) rQ) rQ) rQ) rQ) rQ) rQ) rQ) rQ) rQ) YJ) rQ) rQ) rQ) Sx) rQ) rQ) rQ) rQ) rQ)
set_option maxRecDepth 20000 in
theorem Qs:f5.isInstance prog Rows.topCutsRow.origin Rows.topCutsRow.targs:=rU rQ
set_option maxRecDepth 20000 in
theorem TE:f5.isWrapper prog Rows.topCutsRow.wrapper Rows.topCutsRow.mainSum:=by unfold Func.isWrapper;first|(rw[an (by decide+kernel)];kernel_rfl)|(rw[ai (by decide+kernel)];exact⟨rfl,rfl⟩)
end
end Go.Proofs.YtogcfijlhpaeeaaGreat
