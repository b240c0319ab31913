/- Texts. No condition. -/
import Derived.Test.YtogcfijlhpaeeaaGreatYpau
open Go.RowKit Go.Proofs.Tryz
set_option linter.all false
set_option maxHeartbeats 32000000
namespace Go.Proofs.YtogcfijlhpaeeaaGreat
variable{k i n:Nat}{r:Int}{c:aJ}{M:List aa}{f:Nat->Value}{P:Program}{α:Type}{p:Prop}{q:List UInt8}{R:Value->List aa->Prop}{Q:bx}{aq:List aF}
section
theorem rR(l:List α)(i j:Nat)(a d:α):(l.set i a).getD j d=if i=j/\i<l.length then a else l.getD j d:=by
 simp only[cu,yS];by_cases h:i=j
 ·subst h;by_cases b:i<l.length
  ·simp[b]
  ·simp[b,pG (show l.length<=i by omega)]
 ·simp[h]
theorem Sf.Jn(s:Sf)(n:Int):(s.to n).to n=s.to n:=by unfold Sf.to;simp only[Sf.mk.injEq,qy];omega
def aR.set(p:aR):Prop:=∀s,s<p.sf.length->(p.sf.getD s Sf.none).to (fk p.told s)=p.sf.getD s Sf.none
theorem CE(p:aR)(s j:Nat):(p.cutAt s).sf.getD j Sf.none=if s=j/\s<p.sf.length then(p.sf.getD s Sf.none).to (fk p.told s)else p.sf.getD j Sf.none:=rR ..
theorem CY(p:aR)(s:Nat):(p.cutAt s).sf.length=p.sf.length:=iw ..
theorem qQ(p:aR):∀(k j:Nat),j<p.sf.length->(p.eP k).sf.getD j Sf.none=if j<k then(p.sf.getD j Sf.none).to (fk p.told j)else p.sf.getD j Sf.none
 |0,j,hj=>rfl
 |k+1,j,hj=>by
  show((p.eP k).cutAt k).sf.getD j Sf.none=_;rw[CE,nD,pI];have b:=qQ p k j hj;by_cases h:k=j
  ·subst h;rw[an ⟨rfl,hj⟩,an U,b,ai U]
  ·rw[ai (λc=>h c.1),b];by_cases a:j<k
   ·rw[an a,an U]
   ·rw[ai a,ai U]
theorem US{l m:List α}(d:α)(c:l.length=m.length)(h:∀j,j<l.length->l.getD j d=m.getD j d):l=m:=
 sV c λi a b=>by have:=h i a;simpa[cu,a,b]using this
theorem Ye(p:aR):(p.eP p.sf.length).set:=λs a=>by rw[nD]at a;rw[qQ _ _ _ a,an a,pI,Sf.Jn]
theorem YG{p:aR}(h:p.set):p.eP p.sf.length=p:=by
 have b:(p.eP p.sf.length).sf=p.sf:=US Sf.none (nD ..) λj a=>by rw[nD]at a;rw[qQ _ _ _ a,an a,h j a]
 have c:=pI p p.sf.length;obtain⟨t,s⟩:=p;cases hq:(⟨t,s⟩:aR).eP (⟨t,s⟩:aR).sf.length with
 |mk t2 s2=>rw[hq]at b c;simp only at b c;rw[b,c]
theorem Yg{p:aR}(h:p.set)(most r:Int)(l:List Ev):(p.dC most r l).2.2.set:=by
 unfold aR.dC;split
 ·exact h
 ·split
  ·exact h
  ·intro s c;rw[CY]at c;have e:s<p.sf.length:=by simpa using c
   rw[CE];show(if _ then _ else _:Sf).to (fk p.told s)=_;by_cases a:r.toNat=s/\r.toNat<(p.sf.set r.toNat (⟨(p.sf.getD r.toNat Sf.none).all++((p.sf.getD r.toNat Sf.none).kC most l).2,(p.sf.getD r.toNat Sf.none).cut⟩:Sf)).length
   ·rw[an a];obtain⟨rfl,_⟩:=a;exact Sf.Jn _ _
   ·rw[ai a,rR];have d:¬(r.toNat=s/\r.toNat<p.sf.length):=λb=>a ⟨b.1,by rw[iw];exact b.2⟩;rw[ai d];exact h s e
theorem PW{p:aR}(h:p.set)(r:Int)(c:aj):(p.bK r c).2.set:=by
 unfold aR.bK;split
 ·exact h
 ·exact Ye (⟨p.told.set r.toNat ((p.told.getD r.toNat aj.zero).join c),p.sf⟩:aR)
theorem X9{p:aR}(h:p.set)(most r:Int)(l:List Ev)(a:(p.dC most r l).1=p.iX r.toNat)(c:(p.dC most r l).2.1=0):(p.dC most r l).2.2=p:=by
 unfold aR.dC at a c⊢
 split
 ·rfl
 rename_i d;rw[ai d]at a c;split
 ·rfl
 rename_i f;rw[ai f]at a c;have b:p.has r:=by
  by_cases b:p.has r
  ·exact b
  ·exact absurd (.inl b) d
 have j:=b.1;have k:=b.2;have e:r.toNat<p.sf.length:=U;simp only at a⊢
 unfold aR.iX at a;rw[an e,bo]at a;have g:((p.sf.getD r.toNat Sf.none).kC most l).2=[]:=dZ U;have i:(⟨(p.sf.getD r.toNat Sf.none).all++((p.sf.getD r.toNat Sf.none).kC most l).2,(p.sf.getD r.toNat Sf.none).cut⟩:Sf)=p.sf.getD r.toNat Sf.none:=by rw[g,ck]
 rw[i,tL];show(⟨p.told,p.sf.set r.toNat ((p.sf.getD r.toNat Sf.none).to (fk p.told r.toNat))⟩:aR)=p;rw[h _ e,tL]
theorem O4{p:aR}(h:p.set)(r:Int)(c:aj)(a:(p.bK r c).2.told.getD r.toNat aj.zero=p.told.getD r.toNat aj.zero)(i:p.told.length=p.sf.length):(p.bK r c).2=p:=by
 unfold aR.bK at a⊢
 split
 ·rfl
 rename_i d;rw[ai d]at a;have b:p.has r:=by
  by_cases b:p.has r
  ·exact b
  ·exact absurd b d
 have f:=b.1;have g:=b.2;have e:r.toNat<p.told.length:=U;simp only at a⊢
 rw[pI]at a;simp only at a;rw[rR,an ⟨rfl,e⟩]at a;rw[a,tL];exact YG h
theorem XI(c:aJ):(aR.zero c).set:=λs a=>by
 have:(aR.zero c).sf.getD s Sf.none=Sf.none:=by
  rcases uc (aR.zero c).sf s Sf.none with h|h
  ·exact vc h
  ·exact h
 rw[this];show(⟨[],(max ((0:Nat):Int) (min (fk (aR.zero c).told s) ((0:Nat):Int))).toNat⟩:Sf)=Sf.none;unfold Sf.none;simp only[Sf.mk.injEq,qy];omega
theorem U3{p:aR}(h:p.set)(x:aF):(iz c p x).set:=by
 unfold iz;split
 ·exact Yg h _ _ _
 ·split
  ·exact PW h _ _
  ·exact h
theorem IU(c:aJ)(a:List aF):(cU c a).set:=by
 have b:∀(l:List aF) (p:aR),p.set->(l.foldl (iz c) p).set:=by
  intro l
  induction l with
  |nil=>exactλp h=>h
  |cons x l ih=>exactλp h=>ih _ (U3 h x)
 exact b a _ (XI c)
theorem lC.mono{k':Nat}{p:aR}(h:lC k c p)(a:k<=k'):lC k' c p:=
 ⟨h.n,h.t,λx hx=>by have:=h.s x hx;exact⟨this.1,U,this.2.2⟩,h.a⟩
theorem lC.eP{k:Nat}{c:aJ}{p:aR}(h:lC k c p):∀m,lC k c (p.eP m):=λm=>by
 refine⟨by rw[nD];exact h.n,by rw[nD,pI];exact h.t,λx hx=>?_,by rw[pI];exact h.a⟩;obtain⟨j,a,rfl⟩:=la hx;rw[nD]at a;have f:=qQ p m j a;have d:(p.eP m).sf.getD j Sf.none=(p.eP m).sf[j]'(by rw[nD];exact a):=by simp[cu,nD,a]
 have e:p.sf.getD j Sf.none=p.sf[j]'a:=by simp[cu,a]
 have b:=h.s _ (bT a);rw[<-e]at b;rw[<-d,f];split
 ·refine⟨Sf.Ck b.1 _,b.2.1,?_,b.2.2.2⟩;have:=b.2.2.1;unfold Sf.to;simp only;omega
 ·exact b
theorem RE{p:aR}(h:lC k c p)(r:Int)(a:aj)(d:∀i,i<5->0<=a.get i/\a.get i<=1048576):lC k c (p.bK r a).2:=by
 unfold aR.bK;split
 ·exact h
 ·refine lC.eP (p:=⟨p.told.set r.toNat ((p.told.getD r.toNat aj.zero).join a),p.sf⟩) ⟨h.n,by show(p.told.set _ _).length=_;rw[iw];exact h.t,h.s,λx hx i hi=>?_⟩ _;rcases tZ hx with hx|rfl
  ·exact h.a x hx i hi
  ·rw[aj.HK _ _ _ hi];have e:=d i hi;rcases uc p.told r.toNat aj.zero with b|b
   ·have:=h.a _ b i hi;omega
   ·rw[b,nT];omega
theorem Rm{p:aR}(h:lC k c p)(r:Int)(l:List Ev)(L:l.length<=20)(o:∀e∈l,e.aW):lC (k+1) c (p.dC c.w r l).2.2:=by
 unfold aR.dC;split
 ·exact h.mono U
 rename_i t;split
 ·exact h.mono U
 rename_i q;have f:p.has r:=by
  by_cases f:p.has r
  ·exact f
  ·exact absurd (.inl f) t
 have M:=f.1;have P:=f.2;have g:r.toNat<p.sf.length:=U;have u:p.sf.getD r.toNat Sf.none∈p.sf:=by rw[show p.sf.getD r.toNat Sf.none=p.sf[r.toNat]'g by simp[cu,g]];exact bT g
 obtain⟨F,H,I,m⟩:=h.s _ u;obtain⟨s,z⟩:∃s,s=p.sf.getD r.toNat Sf.none:=⟨_,rfl⟩;rw[<-z]at F H I m q⊢
 have w:(s.kC c.w l).2.length<=l.length/\(∀e∈(s.kC c.w l).2,e∈l)/\((s.kC c.w l).2≠[]->((s.all.length-s.cut:Nat):Int)+(s.kC c.w l).2.length<=c.w):=by
  unfold Sf.kC vM;split
  ·exact⟨eM _,(λe a=>by cases a),λh=>absurd rfl h⟩
  ·split
   ·exact⟨eM _,(λe a=>by cases a),λh=>absurd rfl h⟩
   ·rename_i y;refine⟨jJ ..,λe a=>(fW.1 a).1,λb=>?_⟩;simp only at b⊢
    by_cases A:c.w<((s.all.length-s.cut:Nat):Int)+(fresh s.all.length l).length
    ·exact absurd ⟨b,A⟩ y
    ·omega
 obtain⟨C,i,j⟩:=w;obtain⟨d,v⟩:∃d,d=(s.kC c.w l).2:=⟨_,rfl⟩;rw[<-v]at C i j⊢
 have n:((⟨p.told,p.sf.set r.toNat ⟨s.all++d,s.cut⟩⟩:aR).cutAt r.toNat).sf.length=p.sf.length:=by rw[CY];exact iw ..
 refine⟨by rw[n];exact h.n,by rw[n];exact h.t,λx hx=>?_,h.a⟩;have hx:x∈(p.sf.set r.toNat (⟨s.all++d,s.cut⟩:Sf)).set r.toNat (((p.sf.set r.toNat (⟨s.all++d,s.cut⟩:Sf)).getD r.toNat Sf.none).to (fk p.told r.toNat)):=hx;rw[rR,an ⟨rfl,g⟩]at hx;rcases tZ hx with hx|rfl
 ·rcases tZ hx with hx|rfl
  ·have:=h.s x hx;exact⟨this.1,U,this.2.2⟩
  ·unfold Sf.Ok at*
   refine⟨by simp only[bo];omega,by simp only[bo];omega,?_,λe a=>(ct.1 a).elim (m e) (λh=>o e (i e h))⟩;simp only[bo];by_cases b:d=[]
   ·subst b;simp only[jx];omega
   ·have:=j b;omega
 ·unfold Sf.Ok at*
  unfold Sf.to;simp only[bo];refine⟨U,U,?_,λe a=>(ct.1 a).elim (m e) (λh=>o e (i e h))⟩;by_cases b:d=[]
  ·subst b;simp only[jx];omega
  ·have:=j b;omega
structure nI(k:Nat)(c:aJ)(aE:List aF)(tail:List UInt8):Prop where
 rm:∀x∈aE,x.aW
 tl:iS tail=none
 size:(cO aE).length+tail.length<=500000*k
 post:lC k c (cU c aE)
 lt:∀x∈aE,x.r<c.n
structure eA(k:Nat)(c:aJ)(st:aY):Prop where
 cm:c.aW
 dK:nI k c st.aE st.tail
 up:st.up=true->st.tail=[]/\cU c st.aE=st.post
theorem eA.ok{st:aY}(g:eA k c st):kY k c st:=⟨g.cm,g.dK.rm,g.dK.tl,g.dK.size,g.dK.post,g.up,g.dK.lt⟩
theorem nI.mono{k k':Nat}{c:aJ}{a:List aF}{b:List UInt8}(d:nI k c a b)(h:k<=k'):nI k' c a b:=⟨d.rm,d.tl,by have:=d.size;omega,d.post.mono h,d.lt⟩
theorem eA.mono{k k':Nat}{c:aJ}{st:aY}(g:eA k c st)(h:k<=k'):eA k' c st:=⟨g.cm,g.dK.mono h,g.up⟩
theorem eA.down{st:aY}(b:c.aW)(d:nI k c st.aE st.tail)(h:st.up=false):eA k c st:=⟨b,d,(λa=>by rw[h]at a;cases a)⟩
theorem eA.db{k:Nat}{c:aJ}{st:aY}(g:eA k c st):eA k c st.db:=eA.down (st:=st.db) g.cm g.dK rfl
theorem eA.cut{k:Nat}{c:aJ}{st:aY}(g:eA k c st)(keep:Int):eA k c (st.cut keep):=⟨g.cm,g.dK,g.up⟩
theorem eA.start{k:Nat}{c:aJ}{st:aY}(g:eA k c st):eA k c (st.start c).1:=by
 unfold aY.start;split
 ·exact g
 ·have a:=g.dK.size;exact⟨g.cm,⟨g.dK.rm,rfl,by simp only[jx];omega,g.dK.post,g.dK.lt⟩,λ_=>⟨rfl,rfl⟩⟩
theorem nI.app{x:aF}(d:nI k c aq q)(hx:x.aW)(b:x.r<c.n)(a:lC (k+1) c (iz c (cU c aq) x)):nI (k+1) c (aq++[x]) []:=by
 have e:=(x.lR hx).2;have f:=hx.m;have g:=d.size;refine⟨λy hy=>?_,rfl,?_,by rw[sE];exact a,λy hy=>?_⟩
 ·rcases ct.1 hy with hy|hy
  ·exact d.rm y hy
  ·simp at hy;subst hy;exact hx
 ·rw[sh,bo];have:(cO [x]).length=x.bytes.length:=by simp[cO]
  simp only[jx];omega
 ·rcases ct.1 hy with hy|hy
  ·exact d.lt y hy
  ·simp at hy;subst hy;exact b
theorem nI.EI{x:aF}(d:nI k c aq q)(hx:x.aW){m:Nat}(e:m<x.bytes.length):nI (k+1) c aq (x.bytes.take m):=by
 have a:=(x.lR hx).2;have f:=hx.m;have g:=d.size;have b:(x.bytes.take m).length=m:=by rw[dy];omega
 refine⟨d.rm,Kd x hx _ (x.bytes.drop m) (mi ..).symm ?_,U,d.post.mono U,d.lt⟩;intro h;have:=cn List.length h;rw[ew]at this;simp at this;omega
theorem eA.write{k:Nat}{c:aJ}{st:aY}(g:eA k c st)(x:aF)(hx:x.aW)(a:nI (k+1) c (st.aE++[x]) []):
  nI (k+1) c (st.write x).1.aE (st.write x).1.tail/\((st.write x).2≠0->eA (k+1) c (st.write x).1):=by
 cases hcut:st.bE with
 |false=>
  rw[aY.sO hcut];refine⟨⟨a.rm,g.dK.tl,?_,a.post,a.lt⟩,λh=>absurd rfl h⟩;have d:=(x.lR hx).2;have f:=hx.m;have i:=g.dK.size;show(cO (st.aE++[x])).length+st.tail.length<=_;rw[sh,bo];have:(cO [x]).length=x.bytes.length:=by simp[cO]
  omega
 |true=>
  rw[aY.uu hcut];simp only;split
  ·exact⟨a,λ_=>eA.down (st:={st with up:=false,bE:=false,aE:=st.aE++[x],tail:=[]}) g.cm a rfl⟩
  ·rename_i e;have b:=g.dK.EI hx (m:=jT st.keep x.bytes.length) U;exact⟨b,λ_=>eA.down (st:={st with up:=false,bE:=false,tail:=x.bytes.take (jT st.keep x.bytes.length)}) g.cm b rfl⟩
theorem Nv{st:aY}{x:aF}(h:(st.write x).2=0):(st.write x).1={st with aE:=st.aE++[x]}:=(st.mq x).1 h
theorem eA.push{k:Nat}{c:aJ}{st:aY}(g:eA k c st)(r:k<=198)(m:st.up=true){f:aF}(a:f.cM)(q:f.r<c.n):eA (k+1) c (st.push c f.r f.l).1:=by
 have i:=(g.up m).2;have j:=IU c st.aE;have h:=g.dK.post;rw[i]at j h;unfold aY.push;split
 ·exact g.mono U
 rename_i d;have d:(st.post.dC c.w f.r f.l).2.1=0:=by simpa using d
 split
 ·rename_i p;rw[X9 j _ _ _ p d];exact g.mono U
 have hx:(bw 5 f.r f.l).aW:=pb (.inr (.inr rfl)) a.r (by have:=a.m;omega) a.l;have l:iz c (cU c st.aE) (bw 5 f.r f.l)=(st.post.dC c.w f.r f.l).2.2:=by rw[i];rfl
 have n:=g.dK.app hx q (by rw[l];exact Rm h f.r f.l a.m a.l);obtain⟨e,o⟩:=g.write _ hx n;split
 ·rename_i b;exact o b
 rename_i b;have b:(st.write (bw 5 f.r f.l)).2=0:=by simpa using b
 rw[Nv b]at e⊢
 exact⟨g.cm,e,λ_=>⟨(g.up m).1,by show cU c (st.aE++[_])=_;rw[sE,l]⟩⟩
theorem eA.bK{k:Nat}{c:aJ}{st:aY}(g:eA k c st)(q:k<=198)(l:st.up=true){f:aF}(b:f.cM)(p:f.r<c.n):eA (k+1) c (st.bK f.r f.c).1:=by
 have h:=(g.up l).2;have i:=IU c st.aE;have d:=g.dK.post;rw[h]at i d;unfold aY.bK;split
 ·exact g.mono U
 split
 ·rename_i o;rw[O4 i _ _ o d.t];exact g.mono U
 have hx:(⟨6,f.r,0,f.c,[]⟩:aF).aW:=EP b.r b.c;have j:iz c (cU c st.aE) ⟨6,f.r,0,f.c,[]⟩=(st.post.bK f.r f.c).2:=by rw[h];rfl
 have m:=g.dK.app hx p (by rw[j];exact(RE d f.r f.c b.c).mono U);obtain⟨e,n⟩:=g.write _ hx m;split
 ·rename_i a;exact n a
 rename_i a;have a:(st.write ⟨6,f.r,0,f.c,[]⟩).2=0:=by simpa using a
 rw[Nv a]at e⊢
 exact⟨g.cm,e,λ_=>⟨(g.up l).1,by show cU c (st.aE++[_])=_;rw[sE,j]⟩⟩
theorem eA.take{k:Nat}{c:aJ}{st:aY}(g:eA k c st)(a:k<=198){f:aF×Int}(i:f.2=0->f.1.cM):eA (k+1) c (st.take c f).1:=by
 unfold aY.take;split
 ·exact g.mono U
 rename_i j;have d:st.up=true:=by cases h:st.up with
  |true=>rfl
  |false=>exact absurd h j
 split
 ·exact g.mono U
 rename_i e;have b:=i (by simpa using e);split
 ·exact g.mono U
 rename_i l;split
 ·exact g.push a d b U
 split
 ·exact g.mono U
 split
 ·exact g.bK a d b U
 ·exact g.mono U
end
section
structure bO(k:Nat)(c:aJ)(w:aD):Prop where
 n:(w.nodes.length:Int)=c.n
 nd:∀r:Int,w.has r->cy k c r (w.node r)
 aO:eA k c w.aO
 fl:w.fl.length<=k/\∀x∈w.fl,x.2.cM
theorem xz{w:aD}(h:i<w.nodes.length):w.has (i:Int)/\w.node (i:Int)=w.nodes[i]'h:=by refine⟨⟨U,U⟩,?_⟩;unfold aD.node;rw[show((i:Int)).toNat=i from dc i];simp[cu,h]
theorem bO.ok{k:Nat}{c:aJ}{w:aD}(g:bO k c w)(d:k<=200):dE k c w:=by refine⟨g.n,λi hi=>?_,g.aO.ok,by have:=g.fl.1;omega,g.fl.2⟩;obtain⟨a,b⟩:=xz hi;have:=(g.nd i a).ok d;rwa[b]at this
theorem bO.mono{k k':Nat}{c:aJ}{w:aD}(g:bO k c w)(h:k<=k'):bO k' c w:=⟨g.n,λr a=>(g.nd r a).mono h,g.aO.mono h,by have:=g.fl.1;omega,g.fl.2⟩
theorem pA{w:aD}(a:w.has r)(s:aG)(q:Int)(e:0<=q):(w.aZ r s).node q=if q=r then s else w.node q:=by
 show(w.nodes.set r.toNat s).getD q.toNat aG.fresh=_;have b:=a.1;have c:=a.2;rw[rR];by_cases h:q=r
 ·subst h;rw[an ⟨rfl,U⟩,an rfl]
 ·rw[ai (λd=>h U),ai h];rfl
theorem zP(w:aD)(r:Int)(s:aG)(q:Int):(w.aZ r s).has q↔w.has q:=by unfold aD.has;rw[nG]
theorem bO.aZ{k k':Nat}{c:aJ}{w:aD}(g:bO k c w)(a:k<=k'){r:Int}{s:aG}(f:w.has r)(h:cy k' c r s):bO k' c (w.aZ r s):=by
 refine⟨by rw[nG];exact g.n,λq d=>?_,g.aO.mono a,by have:=g.fl.1;show w.fl.length<=k';omega,g.fl.2⟩;have b:=(zP w r s q).1 d;rw[pA f s q b.1];split
 ·rename_i e;rw[e];exact h
 ·exact(g.nd q b).mono a
theorem bO.se{k':Nat}{w:aD}(g:bO k c w)(b:k<=k'){h:aY}(a:eA k' c h):bO k' c {w with aO:=h}:=
 ⟨g.n,λr d=>(g.nd r d).mono b,a,by have:=g.fl.1;show w.fl.length<=k';omega,g.fl.2⟩
theorem bO.D3{w:aD}(g:bO k c w)(t:Int){x:aF}(hx:x.cM):bO (k+1) c {w with fl:=w.fl++[(t,x)]}:=by
 refine⟨g.n,λr a=>(g.nd r a).mono U,g.aO.mono U,by have:=g.fl.1;show(w.fl++[_]).length<=_;rw[bo,oV];omega,λy hy=>?_⟩;rcases ct.1 hy with hy|hy
 ·exact g.fl.2 y hy
 ·simp at hy;subst hy;exact hx
theorem bO.send{k:Nat}{c:aJ}{w:aD}(g:bO k c w){p:aF×Int}(a:p.2=0->p.1.cM):bO (k+1) c (w.send p).1:=by
 unfold aD.send;simp only;split
 ·rename_i h;exact g.D3 5 (a h)
 ·exact g.mono U
theorem bO.eJ{k:Nat}{c:aJ}{w:aD}(g:bO k c w)(d:k<=198)(i:Int){f:aF×Int}(b:f.2=0->f.1.cM):bO (k+1) c (w.eJ c i f).1:=by
 unfold aD.eJ;split
 ·rename_i h;exact g.aZ U h ((g.nd i h).take d b)
 ·have e:=g.aO.take d b;have j:=xc g.aO.ok d b;simp only;split
  ·rename_i h;have a:=g.se U (k':=k+1) e;have:=h.2;refine⟨a.n,a.nd,a.aO,by have:=g.fl.1;show(w.fl++[_]).length<=_;rw[bo,oV];omega,λy hy=>?_⟩;rcases ct.1 hy with hy|hy
   ·exact g.fl.2 y hy
   ·simp at hy;subst hy;exact j h.1 h.2.1
  ·exact g.se U e
theorem Xa{x:aF}(hx:x.cM)(a mask:Int):(kE x a mask).2=0->(kE x a mask).1.cM:=by
 unfold kE;split
 ·exactλ_=>hx
 ·exactλh=>by cases h
theorem XL{w:aD}(g:bO k c w){i:Int}(h:0<=i/\i<w.fl.length):(w.fl.getD i.toNat (0,aF.zero)).2.cM:=by have hi:i.toNat<w.fl.length:=U;rw[show w.fl.getD i.toNat (0,aF.zero)=w.fl[i.toNat]'hi by simp[cu,hi]];exact g.fl.2 _ (bT hi)
theorem vm{l:List α}{i:Int}{y:α}(h:y∈dQ l i):y∈l:=by
 unfold dQ at h;split at h
 ·rcases ct.1 h with h|h
  ·exact mM h
  ·exact py h
 ·exact h
theorem bO.eC{k:Nat}{c:aJ}{w:aD}(g:bO k c w)(b:k<=198)(s:cB):bO (k+1) c (w.eC c s).1:=by
 unfold aD.eC;split
 ·rename_i h;have hx:=XL g h;have a:bO k c (if s.kind=5 then w else{w with fl:=dQ w.fl s.at_}):=by
   split
   ·exact g
   ·exact⟨g.n,g.nd,g.aO,by have:=g.fl.1;have:=tE w.fl s.at_;show(dQ w.fl s.at_).length<=k;omega,λy hy=>g.fl.2 y (vm hy)⟩
  simp only;split
  ·exact a.mono U
  ·refine a.eJ b _ ?_;split
   ·exact Xa hx _ _
   ·exactλ_=>hx
 ·exact g.mono U
theorem bO.dj{k:Nat}{c:aJ}{w:aD}(g:bO k c w)(s:cB):bO k c (w.dj c s).1:=by
 unfold aD.dj;split
 ·rename_i h;have gn:=g.nd s.r h;split
  ·exact g.aZ (bj _) h gn.db
  ·split
   ·exact g.aZ (bj _) h gn.start
   ·exact g.aZ (bj _) h (gn.cut _)
 ·split
  ·split
   ·exact g.se (bj _) g.aO.db
   ·split
    ·exact g.se (bj _) g.aO.start
    ·exact g.se (bj _) (g.aO.cut _)
  ·exact g
theorem bO.step{k:Nat}{c:aJ}{w:aD}(g:bO k c w)(b:k<=198)(s:cB):bO (k+1) c (w.step c s).1:=by
 unfold aD.step;split
 ·exact g.eC b s
 split
 ·exact(g.dj s).mono U
 split
 ·exact g.mono U
 rename_i a;have a:w.has s.r:=by
  by_cases h:w.has s.r
  ·exact h
  ·exact absurd h a
 have gn:=g.nd s.r a;have d:=gn.ok U;split
 ·exact g.aZ U a (gn.edit b _)
 split
 ·exact g.send (wG d)
 split
 ·exact g.send (pP d U (.inl rfl))
 split
 ·exact g.send (pP d U (.inr rfl))
 split
 ·exact g.aZ U a (gn.state b)
 ·exact g.mono U
theorem bO.once{k:Nat}{c:aJ}{w:aD}(g:bO k c w)(a:k<=198){p:aF×Int}(j:p.2=0->p.1.cM):bO (k+1) c (w.once c p):=by
 unfold aD.once;split
 ·exact g.mono U
 rename_i f;have d:(p.1,(0:Int)).2=0->(p.1,(0:Int)).1.cM:=λ_=>j (by simpa using f);have e:=g.aO.take a d;have i:=xc g.aO.ok a d;simp only;split
 ·rename_i h;have b:w.has (w.aO.take c (p.1,0)).2.1:=h.2;exact(g.se U e).aZ (bj _) h.2 ((g.nd _ b).take a (λ_=>i h.1 b.1))
 ·exact g.se U e
theorem bO.lE{k:Nat}{c:aJ}{w:aD}(g:bO k c w)(d:k<=198){r:Int}(b:w.has r)(j:Nat):(w.lE c r j).2=0->(w.lE c r j).1.cM:=by
 have a:=(g.nd r b).ok U;unfold aD.lE;split
 ·exact wG a
 split
 ·exact pP a U (.inl rfl)
 ·exact pP a U (.inr rfl)
theorem bO.gI{k:Nat}{c:aJ}{w:aD}(g:bO k c w):∀i,i<=3*w.nodes.length->k+i<=198->bO (k+i) c (w.gI c i)
 |0,_,_=>g
 |i+1,hi,hk=>by have a:=g.gI i U U;show bO (k+i+1) c (aD.once _ c _);refine a.once U (a.lE U ?_ _);have:=Be w c i;exact⟨U,U⟩
theorem bO.cw{k:Nat}{c:aJ}{w:aD}(g:bO k c w):∀j,j<=w.nodes.length->bO k c (w.cw c j)
 |0,_=>g
 |j+1,hj=>by have b:=g.cw j U;have d:=w.yO c j;have a:(w.cw c j).has (j:Nat):=⟨U,U⟩;exact b.aZ (bj _) a ((b.nd _ a).db.start)
theorem bO.re{k:Nat}{c:aJ}{w:aD}(g:bO k c w):bO k c (w.re c):=(g.cw _ (bj _)).se (bj _) g.aO.db.start
theorem bO.new{c:aJ}(b:c.aW):bO 0 c (aD.new c):=by
 have i:=b.n;have d:(aD.new c).nodes.length=c.n.toNat:=by unfold aD.new;simp
 refine⟨by rw[d];omega,λr f=>?_,?_,bj _,λx hx=>by cases hx⟩
 ·have g:=f.1;have h:=f.2;rw[d]at h;have e:(aD.new c).node r=(aG.fresh.start c r).1:=by unfold aD.node aD.new;have:r.toNat<c.n.toNat:=U;simp only[cu,kz,xX this,oF,AH];rw[show((r.toNat:Nat):Int)=r by omega]
  rw[e];exact(cy.fresh b ⟨g,U⟩).start
 ·have a:=aY.AZ b;exact eA.start (st:=aY.fresh c) (eA.down (st:=aY.fresh c) b ⟨a.aE,a.tail,a.size,a.post,a.ok⟩ rfl)
theorem bO.pO{c:aJ}:∀(n k:Nat) (w:aD),bO k c w->∀kk,k+15*n<=kk->kk<=198->w.pO kk c n
 |0,k,w,g,kk,h,hk=>(g.mono U).ok U
 |n+1,k,w,g,kk,h,hk=>by have b:=g.n;have a:=g.aO.cm.n;refine⟨λi hi=>((g.gI i hi U).mono U).ok U,λ_=>?_⟩;exact bO.pO n (k+15) _ ((g.gI _ (bj _) U).mono U) kk U hk
theorem bO.He{w:aD}(g:bO k c w)(n:Nat)(h:k+15*n<=198):Nw 198 c w n:=
 ⟨(g.mono U).ok U,λj a=>((g.cw j a).mono U).ok U,bO.pO n k _ g.re 198 h (bj _)⟩
end
section
def pv(p:Prop)(A:aa):aa:=λh=>p/\A h
theorem Fn.PU{k:FuncId}{args:Array Value}{A:aa}(h:p->Fn P k args (A::M) R):Fn P k args (pv p A::M) R:=λF w0 ww rr ⟨x,⟨b,a⟩,d,s⟩=>h b F w0 ww rr ⟨x,a,d,s⟩
theorem pv.cls(b:p){A:aa}(M:List aa):Sub (pv p A::M) (A::M):=jE (λ_ a=>⟨b,a⟩) (bW M)
theorem pv.Uy{ops:Array Oper}{l:List Oper}{A:aa}(h:p->aM P n ops l Q f (A::M)):aM P n ops l Q f (pv p A::M):=λD F w0 f0 ws a ww ⟨g,c,⟨x,⟨e,b⟩,d,s⟩,kk⟩ hc=>
 h e D F w0 f0 ws a ww ⟨g,c,⟨x,b,d,s⟩,kk⟩ hc
def aD.after(w:aD)(c:aJ)(l:List cB)(j:Nat):aD:=(l.take j).foldl (λw s=>(w.step c s).1) w
theorem Jw(w:aD)(c:aJ)(l:List cB){j:Nat}(h:j<l.length):w.after c l (j+1)=((w.after c l j).step c (l[j]'h)).1:=by unfold aD.after;rw[da h,js];rfl
theorem bO.after{c:aJ}{w:aD}{k:Nat}(g:bO k c w)(l:List cB):∀j,j<=l.length->k+j<=198->bO (k+j) c (w.after c l j)
 |0,_,_=>g
 |j+1,hj,hk=>by rw[Jw w c l U];exact(g.after l j U U).step U _
set_option maxRecDepth 20000 attribute [local irreducible] Ex aM Fn bI bJ bV fin meet ch aX bZ aP aN aI Rd aK Row ao Sub bk bP bS bN bg bR Hid bY
section
attribute [local irreducible] aA bD bL cx cQ bz aV.own
theorem Ty(c:aJ)(M:List aa)(a:gS c=false):Fn prog 55 #[.agg (ab.cells c).toArray] M λv L'=>v=.tuple #[.pointer none,.int .i64 1]/\L'=M:=by refine fo func55 ntmps55 ?_;refine rn ?_;intros;refine ca [] call119 (EC c _) ?_;rintro _ _ ⟨rfl,rfl⟩;rw[a];exact fX
theorem Re(c:aJ)(M:List aa)(a:gS c=false):Fn prog 21 #[.agg (ab.cells c).toArray] M λv L'=>v=.tuple #[.pointer none,.int .i64 1]/\L'=M:=by refine fo func21 ntmps21 ?_;refine rn ?_;intros;refine ca [] call55 (Ty c _ a) ?_;rintro _ _ ⟨rfl,rfl⟩;exact fX
theorem ZK(c:aJ)(v0:Value)(b:O1 v0)(M:List aa)(a:gS c=false):Fn prog 86 #[.agg (ab.cells c).toArray,v0] M λv L'=>v=.tuple #[.pointer none,.slice none 0 0,.int .i64 1]/\L'=M:=by refine fo func86 ntmps86 ?_;refine rn ?_;intros;refine ca [] call21 (Re c _ a) ?_;rintro _ _ ⟨rfl,rfl⟩;exact fX
def oc(a b:Value)(h:ki)(n:Int):List Value:=[a,b]++ab.cells h++[.int .i64 n]
def ki.zero:ki:=⟨false,⟨aj.zero,aj.zero,aj.zero,aj.zero,aj.zero,aj.zero,aj.zero⟩⟩
theorem VT(c:aJ)(v0:Value)(b:O1 v0)(M:List aa)(a:gS c=false):Fn prog 32 #[.agg (ab.cells c).toArray,v0] M λv L'=>v=.tuple #[.agg (oc (.slice none 0 0) (.slice none 0 0) ki.zero 0).toArray,.int .i64 1]/\L'=M:=by refine fo func32 ntmps32 ?_;refine rn ?_;intros;refine ca [] call86 (ZK c v0 b _ a) ?_;rintro _ _ ⟨rfl,rfl⟩;exact fX
end
end
end Go.Proofs.YtogcfijlhpaeeaaGreat
