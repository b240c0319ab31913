/- Texts. No condition. -/
import Derived.Test.YtogcfijlhpaeeaaGreatYpal
open Go.RowKit Go.Proofs.Tryz
set_option linter.all false
set_option maxHeartbeats 32000000
namespace Go.Proofs.YtogcfijlhpaeeaaGreat
variable{k g:Nat}{r:Int}{c:aJ}{M:List aa}{dv:Value}{P:Program}{α:Type}{R:Value->List aa->Prop}{ds:DS}{aq:List aF}
section
instance:hQ prog 90 Mk:=⟨⟨0,0⟩,by kernel_rfl,by kernel_rfl⟩
@[reducible] def je(v:Value)(l:List Mk):aa:=aK v 90 l
structure jG where
 up:Bool
 aT:aj
 sent:Int
 held:List Mk
 log:List Mk
deriving DecidableEq
def jG.zero:jG:=⟨false,aj.zero,0,[],[]⟩
def aG.site(st:aG):jG:=if st.up=true then⟨true,st.aT,st.sent,st.held.map Ev.cj,st.log.map Ev.cj⟩else jG.zero
@[reducible] def mB(s:jG)(a b:Value):List Value:=[.bool s.up,.int .i64 s.aT.a,.int .i64 s.aT.b,.int .i64 s.aT.c,.int .i64 s.aT.d,.int .i64 s.aT.e,.int .i64 s.sent,a,b]
def aG.list(st:aG):List eW×Int:=if st.up=true then(iv (cf st.log),0)else([],18)
def aG.fresh:aG:=⟨false,[],[],false,0,[],0,aj.zero,[],[]⟩
theorem aG.AZ(a:c.aW)(b:0<=r/\r<c.n):eO 0 c r aG.fresh:=
 ⟨a,b,by simp[aG.fresh],rfl,bj _,bj _,by simp[aG.fresh,replay],⟨eH _,by show(0:Int)<=1048576;omega⟩,(λh=>by cases h),(λh=>by cases h),(λh=>by cases h),(λh=>by cases h)⟩
set_option maxRecDepth 20000 attribute [local irreducible] Ex aM Fn bI bJ bV fin meet ch aX bZ aP aN aI Rd aK Row ao Sub bk bP bS bN bg bR Hid bY
section
attribute [local irreducible] bG cC aA df bD
theorem IW(v0:Value)(l:List Ev)(M:List aa)(p:aI M v0 l)(n:l.length<=1000000):Fn prog 120 #[v0] M λv L'=>O1 v/\L'=je v (l.map Ev.cj)::M:=by
 refine fo func120 ntmps120 ?_;refine rn ?_;(repeat(first|intro(g:Nat)|intro(v:Value)|intro(o:O1 _)|intro h));refine bF (L':=je (.slice none 0 0) []::M) ?_ (cA (α:=Mk) none 90 M);refine bm [3,8] (λz vs L'=>∃(j:Nat) (b:Value),j<=l.length/\b.oneCell'=true/\z=l.length-j/\vs=[b,.int .i64 j]/\L'=je b ((l.take j).map Ev.cj)::M) l.length ⟨0,.slice none 0 0,U,rfl,rfl,rfl,rfl⟩ ?_;rintro z vs i f ⟨j,b,m,e,rfl,rfl,rfl⟩;refine bp [3,6,7,8] rG (λk=>?_);by_cases c:j<l.length
 ·have d:(l.take (j+1)).map Ev.cj=(l.take j).map Ev.cj++[(l[j]'c).cj]:=by rw[da c,dA];rfl
  refine rn ?_;(repeat(first|intro(g:Nat)|intro(v:Value)|intro(o:O1 _)|intro h));refine pn (a:=(l[j]'c).cj) J J J J (λg=>?_);refine rn ?_;(repeat(first|intro(v:Value)|intro(o:O1 _)|intro h));refine aS ⟨l.length-(j+1),je v ((l.take (j+1)).map Ev.cj)::M,U,?_,j+1,v,U,o,rfl,av rfl (av (aQ U) rfl),rfl⟩;rw[d];exact rP
 ·obtain rfl:j=l.length:=U;rw[dI];refine rn ?_;intros;refine fr ?_;exact⟨_,rP,e,rfl⟩
theorem Pq(gn:Nat)(c:aJ)(r:Int)(st:aG)(M:List aa)(s:eO k c r st)(A:k<=200):Fn prog 59 #[ay gn] (bD gn c r st::M)
  λv L'=>∃(u:Value) (cs:List Ct),O1 u/\cs.map Ct.gK=st.list.1/\v=.tuple #[u,.int .i64 st.list.2]/\L'=gG u cs::aA (cs.map Ct.own)::bD gn c r st::M:=by
 refine oD (λa dv ds vl sent b i o f=>?_) (λa dv ds x f t=>?_)
 ·have e:st.list=([],18):=by unfold aG.list;rw[ai (by rw[a];simp)]
  rw[e];refine fo func59 ntmps59 ?_;refine rn ?_;(repeat(first|intro(cs:List Value)|intro(d:_=List.set _ _ _)|intro h));refine fr ?_;exact⟨_,ar (cA (α:=Ct) none 75 _) (ar (ly _) (qC a f M)),.slice none 0 0,[],rfl,rfl,rfl,rfl⟩
 ·obtain⟨C,m⟩:=s.log a;obtain⟨w,z,g⟩:=zt st.log;have l:∀p∈cf st.log,p.1.length<=1000:=λp n=>by obtain⟨y,hy,j⟩:=g p n;have:=(m y hy).lens.1;rw[j]at this;omega
  have e:st.list=(iv (cf st.log),0):=by unfold aG.list;rw[an a]
  rw[e];refine fo func59 ntmps59 ?_;refine rn ?_;(repeat(first|intro(cs:List Value)|intro(d:_=List.set _ _ _)|intro h));refine ca [7] call98 (Kq x.gb (cf st.log) _ U U l) ?_;rintro r1 _ ⟨cs,d,q,rfl⟩;refine rn ?_;(repeat(first|intro(cs:List Value)|intro(d:_=List.set _ _ _)|intro h));refine fr ?_;exact⟨_,ar (bl _ (bl _ (kn x a f t M))) rP,r1,cs,q,d,rfl,rfl⟩
theorem NP(gn:Nat)(c:aJ)(r:Int)(st:aG)(M:List aa)(l:eO k c r st)(y:k<=200):Fn prog 58 #[ay gn] (bD gn c r st::M)
  λv L'=>∃(d f:Value),O1 d/\O1 f/\v=.agg (mB st.site d f).toArray/\L'=je d st.site.held::je f st.site.log::bD gn c r st::M:=by
 refine oD (λa dv ds vl sent b i o j=>?_) (λa dv ds x j q=>?_)
 ·have e:st.site=jG.zero:=by unfold aG.site;rw[ai (by rw[a];simp)]
  rw[e];refine fo func58 ntmps58 ?_;refine rn ?_;(repeat(first|intro(g:Nat)|intro h));refine fr ?_;exact⟨_,ar (cA (α:=Mk) none 90 _) (ar (cA (α:=Mk) none 90 _) (ar (qC a j M) rP)),.slice none 0 0,.slice none 0 0,rfl,rfl,rfl,rfl⟩
 ·obtain⟨z,A⟩:=l.log a;obtain⟨u,w⟩:=l.held a;have t:=l.cm.h;have e:st.site=⟨true,st.aT,st.sent,st.held.map Ev.cj,st.log.map Ev.cj⟩:=by unfold aG.site;rw[an a]
  rw[e];refine fo func58 ntmps58 ?_;refine rn ?_;(repeat(first|intro(g:Nat)|intro h));revert g;intro m;refine bF (L':=dU x.gi c.h st.aT x.v0::aL x.v0 st.held::cd gn c r true dv x.vl st.sent (ay x.gb) (ay x.gi) (ay x.go)::aL x.vl st.log::ao m 65 (mB jG.zero (.slice none 0 0) (.slice none 0 0))::cC dv ds::ec x.go c.q c.w st.sent x.vw::aL x.vw st.wait::df x.gb (cf st.log)::M) ?_ rP;refine Gs ?_;intros;refine ma [] call100 (wO x.gi c.h st.aT x.v0 st.held _) ?_;rintro _ _ ⟨rfl,rfl⟩;refine mw ?_;intros
  (repeat' (first|(refine m1 ?_;intros)|(refine cG J J J (λh=>?_) (λh=>?_)<;>try(exfalso;omega))))
  refine ma [] call121 (Vj x.gi c.h st.aT x.v0 st.held _ U) ?_;rintro s _ ⟨C,rfl⟩;refine mw ?_;intros;refine bX J J J ?_;refine bc [] J call120 rE J (IW s st.held _ rD U) ?_;rintro d _ ⟨n,rfl⟩;refine mw ?_;intros
  (repeat' (first|(refine m1 ?_;intros)|(refine cG J J J (λh=>?_) (λh=>?_)<;>try(exfalso;omega))))
  refine bX J J J ?_;refine bc [] J call120 rE J (IW x.vl st.log _ rD U) ?_;rintro f _ ⟨p,rfl⟩;refine mw ?_;intros
  (repeat' (first|(refine m1 ?_;intros)|(refine cG J J J (λh=>?_) (λh=>?_)<;>try(exfalso;omega))))
  refine rn ?_;intros;refine fr ?_;exact⟨_,ar (bl _ (bl _ (kn x a j q M))) rP,d,f,n,p,rfl,rfl⟩
theorem Xm(c:aJ)(r:Int)(M:List aa)(a:c.aW)(d:0<=r/\r<c.n):Fn prog 57 #[.agg (ab.cells c).toArray,.int .i64 r] M
  λv L'=>∃gn,v=.tuple #[ay gn,.int .i64 0]/\L'=bD gn c r (aG.fresh.start c r).1::M:=by
 refine fo func57 ntmps57 ?_;refine rn ?_;(repeat(first|intro(g:Nat)|intro(o:O1 _)|intro h));refine ca [] call119 (EC c _) ?_;rintro _ _ ⟨rfl,rfl⟩;have e:gS c=true:=by have f:=a.n;have j:=a.w;have l:=a.q;have m:=a.h;have n:=a.l;have p:=a.p;unfold gS gW;simp[*]
 rw[e];have q:=d.1;have s:=d.2;refine rn ?_;(repeat(first|intro(g:Nat)|intro(o:O1 _)|intro h));revert g;intro gn;refine cb (L':=bD gn c r aG.fresh::M) ?_ (ar (qC (st:=aG.fresh) (dv:=oA) (ds:=DS.zero) (vl:=.slice none 0 0) (sent:=0) (b:=oA) (i:=oA) (o:=oA) rfl ⟨rfl,(λh=>by cases h),rfl,(λh=>by cases h)⟩ M) (ar (bl _ (cC.LS M)) rP));refine ca [] call61 (FA (k:=0) gn c r aG.fresh M (aG.AZ a d) U) ?_;rintro _ _ ⟨rfl,rfl⟩;refine rn ?_;intros;refine fr ?_;exact⟨_,rP,gn,rfl,rfl⟩
end
end
section
def zJ(n:Int):List Ev->Bool
 |[]=>true
 |e::l=>decide (e.n=n)&&zJ (n+1) l
def tN(a:Int)(l:List Ev):Bool:=match l with
 |[]=>true
 |e::_=>decide (e.n<=a+1)&&zJ e.n l
theorem NY:∀(l:List Ev) (n:Int),zJ n l=true↔∀j (a:j<l.length),(l[j]'a).n=n+j
 |[],n=>⟨λ_ j a=>by simp at a,λ_=>rfl⟩
 |e::l,n=>by
  unfold zJ;rw[dT,kZ,NY l];constructor
  ·rintro⟨b,c⟩ j a;cases j with
   |zero=>simpa using b
   |succ j=>have:=c j (by simpa using a);rw[Bw,this];omega
  ·intro h;refine⟨by have:=h 0 (by simp);simp only[Bz]at this;omega,λj a=>?_⟩;have:=h (j+1) (by simpa using a);rw[Bw]at this;rw[this];omega
theorem IH(b:Int)(l:List Ev):tN b l=true↔lX b l:=by
 unfold tN lX;cases l with
 |nil=>exact⟨λ_ h=>by simp at h,λ_=>rfl⟩
 |cons e l=>
  simp only[dT,kZ,NY];constructor
  ·rintro⟨c,d⟩ _;exact⟨by simpa using c,λj a=>by rw[d j a];rfl⟩
  ·intro h;have h:=h (by simp);exact⟨by simpa using h.1,λj a=>by rw[h.2 j a];rfl⟩
def vM(most a k:Int)(l:List Ev):Int×List Ev:=
 if tN a l=false then(20,[])else if fresh a l≠[]/\most<k+(fresh a l).length then(21,[])else(0,fresh a l)
theorem W7(most a k:Int)(l:List Ev):jj most a k l=vM most a k l:=by
 unfold jj vM;by_cases h:lX a l
 ·have b:=(IH a l).2 h;rw[ai (c:=¬lX a l) (by simpa using h),ai (c:=tN a l=false) (by rw[b];simp)]
 ·have b:tN a l=false:=by
   cases b:tN a l with
   |false=>rfl
   |true=>exact absurd ((IH a l).1 b) h
  rw[an (c:=¬lX a l) h,an (c:=tN a l=false) b]
def Sf.kC(most:Int)(s:Sf)(l:List Ev):Int×List Ev:=vM most s.all.length (s.all.length-s.cut:Nat) l
def aR.dC(most:Int)(st:aR)(r:Int)(l:List Ev):Int×Int×aR:=
 if¬st.has r\/(l.any λe=>decide (e.r≠r))=true then(0,23,st)else
 if((st.sf.getD r.toNat Sf.none).kC most l).1≠0 then(0,((st.sf.getD r.toNat Sf.none).kC most l).1,st)else
 ((((st.sf.getD r.toNat Sf.none).all++((st.sf.getD r.toNat Sf.none).kC most l).2).length:Int),0,
  (⟨st.told,st.sf.set r.toNat ⟨(st.sf.getD r.toNat Sf.none).all++((st.sf.getD r.toNat Sf.none).kC most l).2,(st.sf.getD r.toNat Sf.none).cut⟩⟩:aR).cutAt r.toNat)
theorem Fb(most:Int)(st:aR)(r:Int)(l:List Ev):st.push most r l=st.dC most r l:=by
 have d:(∃e∈l,e.r≠r)↔(l.any λe=>decide (e.r≠r))=true:=by rw[eR];exact⟨λ⟨e,a,b⟩=>⟨e,a,by simpa using b⟩,λ⟨e,a,b⟩=>⟨e,a,by simpa using b⟩⟩
 unfold aR.push aR.dC Sf.put Sf.kC;rw[W7];by_cases h:¬st.has r\/∃e∈l,e.r≠r
 ·rw[an h,an (c:=¬st.has r\/(l.any λe=>decide (e.r≠r))=true) (h.imp id d.1)]
 ·rw[ai h,ai (c:=¬st.has r\/(l.any λe=>decide (e.r≠r))=true) (λk=>h (k.imp id d.2))]
structure aY where
 up:Bool
 aE:List aF
 tail:List UInt8
 bE:Bool
 keep:Int
 post:aR
def aR.zero(c:aJ):aR:=⟨List.replicate (min (max c.n 0) 5).toNat aj.zero,List.replicate (min (max c.n 0) 5).toNat Sf.none⟩
def iz(c:aJ)(p:aR)(x:aF):aR:=if x.kind=5 then(p.dC c.w x.r x.l).2.2 else if x.kind=6 then(p.bK x.r x.c).2 else p
def cU(c:aJ)(a:List aF):aR:=a.foldl (iz c) (aR.zero c)
theorem sE(c:aJ)(a:List aF)(x:aF):cU c (a++[x])=iz c (cU c a) x:=by unfold cU;rw[js];rfl
def aY.write(st:aY)(x:aF):aY×Int:=
  if st.bE then
    (if x.bytes.length<=jT st.keep x.bytes.length then{st with up:=false,bE:=false,aE:=st.aE++[x],tail:=[]}
     else{st with up:=false,bE:=false,tail:=x.bytes.take (jT st.keep x.bytes.length)},18)
  else({st with aE:=st.aE++[x]},0)
def aY.db(st:aY):aY:={st with up:=false,bE:=false}
def aY.cut(st:aY)(keep:Int):aY:={st with bE:=true,keep:=keep}
def aY.start(st:aY)(c:aJ):aY×Int:=
 if st.up then(st,19)else({st with up:=true,tail:=[],bE:=false,post:=cU c st.aE},0)
def aY.push(st:aY)(c:aJ)(r:Int)(l:List Ev):aY×Int×(aF×Int):=
 if(st.post.dC c.w r l).2.1≠0 then(st,-1,(aF.zero,(st.post.dC c.w r l).2.1))else
 if(st.post.dC c.w r l).1=st.post.iX r.toNat then({st with post:=(st.post.dC c.w r l).2.2},r,(⟨2,r,(st.post.dC c.w r l).1,aj.zero,[]⟩,0))else
 if(st.write (bw 5 r l)).2≠0 then((st.write (bw 5 r l)).1,-1,(aF.zero,18))else
 ({(st.write (bw 5 r l)).1 with post:=(st.post.dC c.w r l).2.2},r,(⟨2,r,(st.post.dC c.w r l).1,aj.zero,[]⟩,0))
def aY.dP(st:aY)(r:Int)(k:aj):Int×(aF×Int):=
 if(st.post.dP r k).2≠0 then(-1,(aF.zero,(st.post.dP r k).2))else(r,(⟨4,r,0,aj.zero,(st.post.dP r k).1⟩,0))
def aY.bK(st:aY)(r:Int)(k:aj):aY×Int:=
 if(st.post.bK r k).1≠0 then(st,(st.post.bK r k).1)else
 if(st.post.bK r k).2.told.getD r.toNat aj.zero=st.post.told.getD r.toNat aj.zero then({st with post:=(st.post.bK r k).2},0)else
 if(st.write ⟨6,r,0,k,[]⟩).2≠0 then((st.write ⟨6,r,0,k,[]⟩).1,18)else({(st.write ⟨6,r,0,k,[]⟩).1 with post:=(st.post.bK r k).2},0)
def aY.take(st:aY)(c:aJ)(f:aF×Int):aY×Int×(aF×Int):=
 if st.up=false then(st,-1,(aF.zero,18))else
 if f.2≠0 then(st,-1,(aF.zero,f.2))else
 if c.n<=f.1.r then(st,-1,(aF.zero,23))else
 if f.1.kind=1 then st.push c f.1.r f.1.l else
 if f.1.kind=3 then(st,st.dP f.1.r f.1.c)else
 if f.1.kind=5 then((st.bK f.1.r f.1.c).1,-1,(aF.zero,(st.bK f.1.r f.1.c).2))else(st,-1,(aF.zero,23))
structure lC(k:Nat)(c:aJ)(p:aR):Prop where
 n:(p.sf.length:Int)=c.n
 t:p.told.length=p.sf.length
 s:∀x∈p.sf,x.Ok/\x.all.length<=50*k/\((x.all.length-x.cut:Nat):Int)<=c.w/\∀e∈x.all,e.aW
 a:∀x∈p.told,∀i,i<5->0<=x.get i/\x.get i<=1048576
structure kY(k:Nat)(c:aJ)(st:aY):Prop where
 cm:c.aW
 aE:∀x∈st.aE,x.aW
 tail:iS st.tail=none
 size:(cO st.aE).length+st.tail.length<=500000*k
 post:lC k c (cU c st.aE)
 up:st.up=true->st.tail=[]/\cU c st.aE=st.post
 ok:∀x∈st.aE,x.r<c.n
structure ka(st:aY)(ds:DS):Prop where
 b:ds.b=cO st.aE++st.tail
 up:st.up=true->ds.down=false
 cut:ds.cut=st.bE
 keep:st.bE=true->ds.keep=st.keep
theorem aY.sO{st:aY}(h:st.bE=false)(x:aF):st.write x=({st with aE:=st.aE++[x]},0):=by unfold aY.write;rw[ai (by rw[h];simp)]
theorem aY.uu{st:aY}(h:st.bE=true)(x:aF):st.write x=((if x.bytes.length<=jT st.keep x.bytes.length then{st with up:=false,bE:=false,aE:=st.aE++[x],tail:=[]}
     else{st with up:=false,bE:=false,tail:=x.bytes.take (jT st.keep x.bytes.length)}),18):=by
  unfold aY.write;rw[an h]
theorem ka.write{st:aY}{ds:DS}(h:ka st ds)(j:st.up=true)(f:st.tail=[])(x:aF):ka (st.write x).1 (ds.write x.bytes).1/\(ds.write x.bytes).2=(st.write x).2:=by
 obtain⟨b,l,k,keep⟩:=ds;obtain⟨a,hd,c,d⟩:=h;simp only at a hd c d;rw[f,ck]at a;have g:=hd j;subst g;cases hcut:st.bE with
 |false=>
  rw[aY.sO hcut];rw[hcut]at c;subst c;refine⟨⟨?_,λ_=>rfl,hcut.symm,d⟩,rfl⟩;show b++x.bytes=cO (st.aE++[x])++st.tail;rw[sh,a,f];simp[cO]
 |true=>
  rw[aY.uu hcut];have i:=d hcut;rw[hcut]at c;subst c;subst i;refine⟨?_,rfl⟩;simp only;by_cases e:x.bytes.length<=jT st.keep x.bytes.length
  ·rw[an e];refine⟨?_,(λhx=>by cases hx),rfl,(λhx=>by cases hx)⟩;show b++x.bytes.take (jT st.keep x.bytes.length)=cO (st.aE++[x])++[];rw[ic e,sh,a];simp[cO]
  ·rw[ai e];refine⟨?_,(λhx=>by cases hx),rfl,(λhx=>by cases hx)⟩;show b++x.bytes.take (jT st.keep x.bytes.length)=cO st.aE++_;rw[a]
theorem aY.tq(st:aY)(x:aF):(st.write x).2=0\/(st.write x).2=18:=by unfold aY.write;split<;>simp
theorem aY.mq(st:aY)(x:aF):((st.write x).2=0->(st.write x).1={st with aE:=st.aE++[x]})/\((st.write x).2≠0->(st.write x).1.up=false):=by
 unfold aY.write;split
 ·refine⟨λh=>by simp at h,λ_=>?_⟩;simp only;split<;>rfl
 ·exact⟨λ_=>rfl,λh=>absurd rfl h⟩
end
section
@[reducible] def RY(c:aJ)(a:Bool)(d po:Value):List Value:=
 [.bool a,d,.int .i64 c.n,.int .i64 c.w,.int .i64 c.q,.int .i64 c.h,.int .i64 c.l,.int .i64 c.p,po]
@[reducible] def gm(g:Nat)(c:aJ)(a:Bool)(d po:Value):aa:=ao g 176 (RY c a d po)
set_option maxRecDepth 20000 attribute [local irreducible] Ex aM Fn bI bJ bV fin meet ch aX bZ aP aN aI Rd aK Row ao Sub bk bP bS bN bg bR Hid bY
section
attribute [local irreducible] bG cC
theorem Ba(g:Nat)(c:aJ)(a:Bool)(dv po:Value)(s:DS)(M:List aa):
  Fn prog 129 #[.pointer (some ⟨g,0,none⟩)] (gm g c a dv po::cC dv s::M) λv L'=>∃gd,v=ay gd/\L'=gm g c a (ay gd) po::bG gd s::M:=by
 refine cC.fn (A:=λdv=>gm g c a dv po) (λb d=>?_) (λgd h=>?_)
 ·subst b;subst d;refine Fn.dD (R:=λv L'=>∃gd,v=ay gd/\L'=ao gd 284 (yG (.slice none 0 0) DS.zero)::aK (.slice none 0 0) 5 ([]:List UInt8)::gm g c a (ay gd) po::M) ?_ ?_
  ·unfold oA ay;refine fo func129 ntmps129 ?_;refine rn ?_;(repeat(first|intro(g:Nat)|intro(v:Value)|intro h));refine cH J J J (My J J J) ?_;refine rn ?_;(repeat(first|intro(g:Nat)|intro(v:Value)|intro h));refine ca [] call184 (Ij _) ?_;rintro _ _ ⟨gd,rfl,rfl⟩;refine rn ?_;(repeat(first|intro(g:Nat)|intro(v:Value)|intro h));refine fr ?_;exact⟨_,rB,gd,rfl,rfl⟩
  ·rintro v L' ⟨gd,rfl,rfl⟩;exact⟨_,ar (mm (L:=bG gd DS.zero::gm g c a (ay gd) po::M) 1 rfl) (bG.cls rfl _),gd,rfl,rfl⟩
 ·subst h;unfold ay;refine fo func129 ntmps129 ?_;refine rn ?_;intros;refine fr ?_;exact⟨_,rB,gd,rfl,rfl⟩
theorem NU(gn:Nat)(c:aJ)(a:Bool)(dv po:Value)(s:DS)(x:aF)(v0:Value)(M:List aa)
  (k:aI M v0 x.l)(m:O1 v0)(g:x.l.length<=1000000000)(l:∀e∈x.l,e.ed.key.length<=1000/\e.ed.value.length<=1000)(i:x.aW)
  (f:s.b.length+x.bytes.length<=140737488355328):
  Fn prog 197 #[ay gn,.agg (bH x v0).toArray] (gm gn c a dv po::cC dv s::M)
   λv L'=>∃gd,v=.int .i64 (s.write x.bytes).2/\L'=gm gn c (a&&decide ((s.write x.bytes).2=0)) (ay gd) po::bG gd (s.write x.bytes).1::M:=by
 refine fo func197 ntmps197 ?_;refine rn ?_;(repeat(first|intro(v:Value)|intro h));refine ca [] call172 (Fu x v0 _ (k.sub rB) m g l) ?_;rintro _ _ (⟨j,_,_⟩|⟨_,v,n,rfl,rfl⟩)
 ·exact absurd i j
 refine rn ?_;(repeat(first|intro(v:Value)|intro h));refine ca [3,3] call129 (Ba _ c a dv po s _) ?_;rintro _ _ ⟨gd,rfl,rfl⟩;refine rn ?_;(repeat(first|intro(v:Value)|intro h));refine bc [1] J call173 rE J (KH gd v s x.bytes _ rD f) ?_;rintro _ _ ⟨rfl,rfl⟩;rcases s.Jc x.bytes with d|d
 ·rw[d];have b:(a&&decide ((0:Int)=0))=a:=by simp
  rw[b];refine rn ?_;intros;refine fr ?_;exact⟨gm gn c a (ay gd) po::bG gd (s.write x.bytes).1::M,ar rB (mm 1 rfl),gd,rfl,rfl⟩
 ·rw[d];have b:(a&&decide ((18:Int)=0))=false:=by simp
  rw[b];refine rn ?_;intros;refine fr ?_;exact⟨gm gn c false (ay gd) po::bG gd (s.write x.bytes).1::M,ar rB (mm 1 rfl),gd,rfl,rfl⟩
end
end
section
@[reducible] def pN(g gp:Nat)(c:aJ)(st:aY)(dv:Value)(ds:DS)(M:List aa):List aa:=gm g c true dv (ay gp)::cC dv ds::dS gp c.w st.post::M
@[reducible] def A8(g:Nat)(c:aJ)(dv:Value)(ds:DS)(po:Value)(M:List aa):List aa:=gm g c false dv po::cC dv ds::M
def bL(g:Nat)(c:aJ)(st:aY):aa:=λh=>
 (st.up=true/\∃dv ds gp,ka st ds/\aA (pN g gp c st dv ds []) h)\/
 (st.up=false/\∃dv ds po,ka st ds/\aA (A8 g c dv ds po []) h)
theorem bL.fn{k:FuncId}{args:Array Value}{st:aY}
  (hd:st.up=false->∀dv ds po,ka st ds->Fn P k args (A8 g c dv ds po M) R)
  (e:st.up=true->∀dv ds gp,ka st ds->Fn P k args (pN g gp c st dv ds M) R):Fn P k args (bL g c st::M) R:=λF w0 w rr ⟨h,a,d,s⟩=>by
 rcases a with⟨u,dv,ds,gp,b,a⟩|⟨u,dv,ds,po,b,a⟩
 ·exact e u dv ds gp b F w0 w rr (ky _ _ w F ⟨h,a,d,s⟩)
 ·exact hd u dv ds po b F w0 w rr (ky _ _ w F ⟨h,a,d,s⟩)
theorem bL.vE{gp:Nat}{st:aY}(b:st.up=true)(d:ka st ds)(M:List aa):Sub (bL g c st::M) (pN g gp c st dv ds M):=
 ar (jE (λ_ a=>.inl ⟨b,dv,ds,gp,d,a⟩) (bW M)) (mr (pN g gp c st dv ds []) M)
theorem bL.wj{gp gd:Nat}{st:aY}(a:st.up=true)(b:ka st ds)(M:List aa):Sub (bL g c st::M) (gm g c true (ay gd) (ay gp)::bG gd ds::dS gp c.w st.post::M):=
 ar (bL.vE a b M) (bl _ (cC.of _))
theorem bL.tc{st:aY}{po:Value}(b:st.up=false)(d:ka st ds)(M:List aa):Sub (bL g c st::M) (A8 g c dv ds po M):=
 ar (jE (λ_ a=>.inr ⟨b,dv,ds,po,d,a⟩) (bW M)) (mr (A8 g c dv ds po []) M)
theorem bL.tv{gd:Nat}{st:aY}{po:Value}(a:st.up=false)(b:ka st ds)(M:List aa):Sub (bL g c st::M) (gm g c false (ay gd) po::bG gd ds::M):=
 ar (bL.tc a b M) (bl _ (cC.of _))
theorem kY.pw{st:aY}(b:kY k c st)(d:k<=200)(a:ka st ds):ds.b.length<=100000000:=by have:=b.size;rw[a.b,bo];omega
theorem ka.mem{st st':aY}(h:ka st ds)(b:st'.aE=st.aE)(c:st'.tail=st.tail)(d:st'.up=st.up)(a:st'.bE=st.bE)(e:st'.keep=st.keep):ka st' ds:=
 ⟨by rw[b,c];exact h.b,by rw[d];exact h.up,by rw[a];exact h.cut,by rw[a,e];exact h.keep⟩
set_option maxRecDepth 20000 attribute [local irreducible] Ex aM Fn bI bJ bV fin meet ch aX bZ aP aN aI Rd aK Row ao Sub bk bP bS bN bg bR Hid bY
section
attribute [local irreducible] bG cC aA dS
theorem LZ(gn:Nat)(c:aJ)(a:Bool)(dv po:Value)(s:DS)(n:Int)(M:List aa):
  Fn prog 368 #[ay gn,.int .i64 n] (gm gn c a dv po::cC dv s::M)
   λv L'=>∃gd,L'=gm gn c a (ay gd) po::bG gd ⟨s.b,s.down,true,n⟩::M:=by
 refine fo func368 ntmps368 ?_;refine rn ?_;intros;refine ca [] call129 (Ba _ c a dv po s _) ?_;rintro _ _ ⟨gd,rfl,rfl⟩;refine rn ?_;intros;refine ca [1] call369 (JM gd s n _) ?_;rintro _ _ rfl;refine rn ?_;intros;refine fr ?_;exact⟨gm gn c a (ay gd) po::bG gd ⟨s.b,s.down,true,n⟩::M,rP,gd,rfl⟩
theorem KB(gn:Nat)(c:aJ)(a:Bool)(dv po:Value)(s:DS)(M:List aa):
  Fn prog 62 #[ay gn] (gm gn c a dv po::cC dv s::M)
   λv L'=>∃gd,L'=gm gn c false (ay gd) po::bG gd ⟨s.b,true,false,s.keep⟩::M:=by
 refine fo func62 ntmps62 ?_;refine rn ?_;intros;refine ca [] call129 (Ba _ c false dv po s _) ?_;rintro _ _ ⟨gd,rfl,rfl⟩;refine rn ?_;intros;refine ca [1] call123 (Ma gd s _) ?_;rintro _ _ rfl;refine rn ?_;intros;refine fr ?_;exact⟨gm gn c false (ay gd) po::bG gd ⟨s.b,true,false,s.keep⟩::M,rP,gd,rfl⟩
theorem P0(gn:Nat)(c:aJ)(st:aY)(n:Int)(M:List aa):Fn prog 368 #[ay gn,.int .i64 n] (bL gn c st::M) λv L'=>L'=bL gn c (st.cut n)::M:=by
 refine bL.fn (λa dv ds po b=>?_) (λa dv ds gp b=>?_)
 ·refine(LZ gn c false dv po ds n M).dD ?_;rintro v L' ⟨gd,rfl⟩;exact⟨_,bL.tv (st:=st.cut n) (ds:=⟨ds.b,ds.down,true,n⟩) a ⟨b.b,(λh=>by rw[show(st.cut n).up=st.up from rfl,a]at h;cases h),rfl,λ_=>rfl⟩ M,rfl⟩
 ·refine(LZ gn c true dv (ay gp) ds n (dS gp c.w st.post::M)).dD ?_;rintro v L' ⟨gd,rfl⟩;exact⟨_,bL.wj (st:=st.cut n) (gd:=gd) (ds:=⟨ds.b,ds.down,true,n⟩) a ⟨b.b,b.up,rfl,λ_=>rfl⟩ M,rfl⟩
theorem G1(gn:Nat)(c:aJ)(st:aY)(M:List aa):Fn prog 62 #[ay gn] (bL gn c st::M) λv L'=>L'=bL gn c st.db::M:=by
 refine bL.fn (λb dv ds po a=>?_) (λb dv ds gp a=>?_)
 ·refine(KB gn c false dv po ds M).dD ?_;rintro v L' ⟨gd,rfl⟩;exact⟨_,bL.tv (st:=st.db) (ds:=⟨ds.b,true,false,ds.keep⟩) rfl ⟨a.b,(λh=>by cases h),rfl,(λh=>by cases h)⟩ M,rfl⟩
 ·refine(KB gn c true dv (ay gp) ds (dS gp c.w st.post::M)).dD ?_;rintro v L' ⟨gd,rfl⟩;exact⟨_,ar (bL.tv (st:=st.db) (gd:=gd) (ds:=⟨ds.b,true,false,ds.keep⟩) (po:=ay gp) rfl ⟨a.b,(λh=>by cases h),rfl,(λh=>by cases h)⟩ M) rP,rfl⟩
structure ki where
 up:Bool
 s:Hs
deriving DecidableEq
def aY.gg(st:aY):ki:=if st.up=true then⟨true,st.post.site⟩else⟨false,⟨aj.zero,aj.zero,aj.zero,aj.zero,aj.zero,aj.zero,aj.zero⟩⟩
instance:ab ki:=⟨36,λh=>.bool h.up::(ab.cells h.s.base++ab.cells h.s.len++ab.cells h.s.a0++ab.cells h.s.a1++ab.cells h.s.a2++ab.cells h.s.a3++ab.cells h.s.a4),by decide,λ_=>rfl,λ_=>rfl⟩
theorem kY.yx{st:aY}(a:kY k c st)(f:k<=200)(b:st.up=true):st.post.Ok 1000000:=by have h:=a.post;rw[(a.up b).2]at h;have d:=h.n;have e:=a.cm.n;refine⟨U,h.t,λx hx=>⟨(h.s x hx).1,?_⟩⟩;have:=(h.s x hx).2.1;omega
theorem Ji(gn:Nat)(c:aJ)(st:aY)(M:List aa)(f:kY k c st)(d:k<=200):Fn prog 36 #[ay gn] (bL gn c st::M) λv L'=>v=.agg (ab.cells st.gg).toArray/\L'=bL gn c st::M:=by
 refine bL.fn (λa dv ds po b=>?_) (λa dv ds gp b=>?_)
 ·have e:st.gg=⟨false,⟨aj.zero,aj.zero,aj.zero,aj.zero,aj.zero,aj.zero,aj.zero⟩⟩:=by unfold aY.gg;rw[ai (by rw[a];simp)]
  rw[e];refine fo func36 ntmps36 ?_;refine rn ?_;intros;refine fr ?_;exact⟨_,ar (bL.tc a b M) rP,rfl,rfl⟩
 ·have e:ab.cells st.gg=ab.cells st.post.site:=by
   have:st.gg=⟨true,st.post.site⟩:=by unfold aY.gg;rw[an a]
   rw[this];rfl
  rw[e];refine fo func36 ntmps36 ?_;refine rn ?_;intros;refine ca [3] call92 (AS gp c.w st.post _ (f.yx d a)) ?_;rintro _ _ ⟨rfl,rfl⟩;generalize st.post.site=g;refine rn ?_;intros;refine fr ?_;exact⟨_,ar (bL.vE a b M) rP,rfl,rfl⟩
end
end
section
theorem tL(l:List α)(i:Nat)(d:α):l.set i (l.getD i d)=l:=by
 by_cases h:i<l.length
 ·rw[show l.getD i d=l[i]'h by simp[cu,h],qB]
 ·exact List.set_eq_of_length_le U
def aR.eK(p:aR):List (List Ev):=p.sf.map Sf.all
theorem JQ(p:aR)(s:Nat):(p.cutAt s).eK=p.eK:=by
 show(p.sf.set s _).map Sf.all=p.sf.map Sf.all;rw[oC];show(p.sf.map Sf.all).set s (p.sf.getD s Sf.none).all=_;have:(p.sf.getD s Sf.none).all=(p.sf.map Sf.all).getD s []:=by simp only[cu,kz];cases p.sf[s]?<;>rfl
 rw[this,tL]
theorem N9(p:aR):∀k,(p.eP k).eK=p.eK
 |0=>rfl
 |k+1=>by show((p.eP k).cutAt k).eK=_;rw[JQ,N9 p k]
theorem Fh(p:aR)(r:Int)(c:aj):(p.bK r c).2.eK=p.eK:=by
 unfold aR.bK;split
 ·rfl
 ·exact N9 _ _
theorem Iz(most:Int)(p:aR)(r:Int)(l:List Ev):(p.dC most r l).2.2.eK=p.eK\/
  ((p.dC most r l).2.1=0/\p.has r/\(p.dC most r l).2.2.eK=p.eK.set r.toNat (p.eK.getD r.toNat []++((p.sf.getD r.toNat Sf.none).kC most l).2)):=by
 unfold aR.dC;split
 ·exact .inl rfl
 ·rename_i h;split
  ·exact .inl rfl
  ·refine .inr ⟨rfl,by
    by_cases a:p.has r
    ·exact a
    ·exact absurd (.inl a) h,?_⟩
   simp only;rw[JQ];show(p.sf.set _ _).map Sf.all=_;rw[oC];have:(p.sf.getD r.toNat Sf.none).all=p.eK.getD r.toNat []:=by unfold aR.eK;simp only[cu,kz];cases p.sf[r.toNat]?<;>rfl
   simp only[this];rfl
def nN(p q:aR):Prop:=p.sf.length=q.sf.length/\p.told.length=q.told.length/\∀i,p.eK.getD i []<+:q.eK.getD i []
theorem nN.refl(p:aR):nN p p:=⟨rfl,rfl,λi=>va _⟩
theorem nN.trans{p q s:aR}(h:nN p q)(k:nN q s):nN p s:=⟨h.1.trans k.1,h.2.1.trans k.2.1,λi=>(h.2.2 i).trans (k.2.2 i)⟩
theorem GX{p q:aR}(h:p.eK.length=q.eK.length):p.sf.length=q.sf.length:=by simpa[aR.eK]using h
theorem Oe(most:Int)(p:aR)(r:Int)(l:List Ev):(p.dC most r l).2.2.told=p.told:=by
 unfold aR.dC;split
 ·rfl
 ·split<;>rfl
theorem Su(most:Int)(p:aR)(r:Int)(l:List Ev):nN p (p.dC most r l).2.2:=by
 rcases Iz most p r l with h|⟨_,a,h⟩
 ·exact⟨GX (by rw[h]),by rw[Oe],λi=>by rw[h];exact va _⟩
 ·refine⟨GX (by rw[h,iw]),by rw[Oe],λi=>?_⟩;rw[h];by_cases hi:r.toNat=i
  ·subst hi;have b:r.toNat<p.eK.length:=by unfold aR.eK;rw[bC];have:=a.1;have:=a.2;omega
   rw[cu (l:=p.eK.set _ _),tM b];exact DA _ _
  ·rw[cu (l:=p.eK.set _ _),Ac hi,<-cu];exact va _
theorem HX(p:aR)(r:Int)(c:aj):nN p (p.bK r c).2:=by
 have h:=Fh p r c;refine⟨GX (by rw[h]),?_,λi=>by rw[h];exact va _⟩;unfold aR.bK;split
 ·rfl
 ·show p.told.length=((⟨p.told.set _ _,p.sf⟩:aR).eP _).told.length;rw[pI];simp
theorem ZL(c:aJ)(p:aR)(x:aF):nN p (iz c p x):=by
 unfold iz;split
 ·exact Su ..
 ·split
  ·exact HX ..
  ·exact nN.refl p
theorem Rw(c:aJ)(a:List aF)(j:Nat):nN (cU c (a.take j)) (cU c a):=by
 have b:∀(l:List aF) (p:aR),nN p (l.foldl (iz c) p):=by
  intro l
  induction l with
  |nil=>exact nN.refl
  |cons x l ih=>exactλp=>(ZL c p x).trans (ih _)
 have h:=b (a.drop j) (cU c (a.take j));unfold cU at h⊢
 rw[<-js,mi]at h;exact h
def mQ(p:aR):Prop:=∀x∈p.sf,x.Ok
theorem LP{p:aR}(h:mQ p)(s:Nat):(p.sf.getD s Sf.none).Ok:=by
 by_cases a:s<p.sf.length
 ·rw[show p.sf.getD s Sf.none=p.sf[s]'a by simp[cu,a]];exact h _ (bT a)
 ·have b:p.sf.length<=s:=U;rw[show p.sf.getD s Sf.none=Sf.none by simp[cu,pG b]];exact bj 0
theorem Hx{p:aR}(h:mQ p)(s:Nat):mQ (p.cutAt s):=λx hx=>by
 rcases tZ hx with hx|rfl
 ·exact h x hx
 ·exact Sf.Ck (LP h s) _
theorem MC{p:aR}(h:mQ p):∀k,mQ (p.eP k)
 |0=>h
 |k+1=>Hx (MC h k) k
theorem UO{p:aR}(h:mQ p)(most r:Int)(l:List Ev):mQ (p.dC most r l).2.2:=by
 unfold aR.dC;split
 ·exact h
 ·split
  ·exact h
  ·refine Hx (λx hx=>?_) _;rcases tZ hx with hx|rfl
   ·exact h x hx
   ·have:=LP h r.toNat;unfold Sf.Ok at this;show(p.sf.getD r.toNat Sf.none).cut<=((p.sf.getD r.toNat Sf.none).all++_).length;rw[bo];omega
theorem Jm{p:aR}(h:mQ p)(r:Int)(c:aj):mQ (p.bK r c).2:=by
 unfold aR.bK;split
 ·exact h
 ·exact MC (p:=⟨p.told.set r.toNat ((p.told.getD r.toNat aj.zero).join c),p.sf⟩) h _
theorem ZN{p:aR}(h:mQ p)(x:aF):mQ (iz c p x):=by
 unfold iz;split
 ·exact UO h _ _ _
 ·split
  ·exact Jm h _ _
  ·exact h
theorem U9(c:aJ)(a:List aF):mQ (cU c a):=by
 have b:∀(l:List aF) (p:aR),mQ p->mQ (l.foldl (iz c) p):=by
  intro l
  induction l with
  |nil=>exactλp h=>h
  |cons x l ih=>exactλp h=>ih _ (ZN h x)
 refine b a _ (λx hx=>?_);have:=vc hx;rw[this];exact bj 0
theorem YY(f:c.aW)(r:k<=200)(h:lC k c (cU c aq))(j:Nat):(cU c (aq.take j)).Ok 1000000:=by
 have b:=Rw c aq j;have g:=U9 c (aq.take j);have m:=h.n;have n:=f.n;have o:=b.1;have p:=b.2.1;have q:=h.t;refine⟨U,U,λx hx=>⟨g x hx,?_⟩⟩;obtain⟨i,hi,rfl⟩:=la hx;have l:=(b.2.2 i).length_le;have d:(cU c (aq.take j)).eK.getD i []=((cU c (aq.take j)).sf[i]'hi).all:=by unfold aR.eK;simp[cu,hi]
 have a:i<(cU c aq).sf.length:=U;have e:(cU c aq).eK.getD i []=((cU c aq).sf[i]'a).all:=by unfold aR.eK;simp[cu,a]
 rw[d,e]at l;have:=(h.s _ (bT a)).2.1;omega
end
def sq:=@bL.vE
end Go.Proofs.YtogcfijlhpaeeaaGreat
