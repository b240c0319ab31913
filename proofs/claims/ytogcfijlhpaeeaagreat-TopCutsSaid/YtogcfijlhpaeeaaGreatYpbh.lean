/- Texts. No condition. -/
import Derived.Test.YtogcfijlhpaeeaaGreatYpbd
import Derived.Test.YtogcfijlhpaeeaaGreatYpbg
open Go.RowKit Go.Proofs.Tryz
set_option linter.all false
set_option maxHeartbeats 32000000
namespace Go.Proofs.YtogcfijlhpaeeaaGreat
variable{k g:Nat}{c:aJ}{L M:List aa}{w0:World}{f f0:Nat->Value}{F:aU}{R:Value->List aa->Prop}{Q:bx}{up:Bool}{ws:Nat->Bool}
section
set_option maxRecDepth 20000 attribute [local irreducible] Ex aM Fn bI bJ bV fin meet ch aX bZ aP aN aI Rd aK Row ao Sub bk bP bS bN bg bR Hid bY
section
attribute [local irreducible] aA kA
theorem KC(gn:Nat)(c:aJ)(r:Int)(st:aG)(e:Ed)(M:List aa)(g:cy k c r st)(q:jW r st)(lo:jb (replay st.aE).1)(l:k<=80)(w5:e.key.length<=1000)(w7:e.value.length<=1000):
  Fn prog 27 #[ay gn,.agg (ab.cells e).toArray] (bA gn c r st::M)
   λv L'=>∃y:Ev,v=.tuple #[.agg (ab.cells y).toArray,.int .i64 (st.edit c r e).2]/\((st.edit c r e).2=0->y=st.dm r e)/\(st.bE=false/\(st.edit c r e).2≠0->y=Ev.zero)/\L'=bA gn c r (st.edit c r e).1::M:=by
 obtain⟨hl,u,hs,n9⟩:=g.q l;refine bA.fn λx i=>?_;have d:=bA.cls (gn:=gn) (c:=c) (r:=r) x i M;unfold nf at d⊢
 cases hu:st.up
 ·have b:st.edit c r e=(st,18):=by
   have:st.dg c r e=18:=by unfold aG.dg;rw[an hu]
   unfold aG.edit;rw[this,an (by simp)]
  rw[b];rw[hu]at d;refine fo func27 ntmps27 ?_;refine rn ?_;(repeat(first|intro(g:Nat)|intro(v:Value)|intro(o:O1 _)|intro(cs:List Value)|intro h));refine fr ?_;exact⟨_,ar d rB,Ev.zero,rfl,(λh=>by cases h),(λ_=>rfl),rfl⟩
 obtain⟨h1,h2,h3⟩:=n9 hu;obtain⟨d7,m7⟩:=i.u hu;have t:replay st.aE=(st.log,st.sent):=(g.up hu).2;have d:=bA.put (gn:=gn) (c:=c) (r:=r) x i hu rfl t M;rw[t]at lo⊢
 rw[h1]at hl u h3;have lo:jb st.log:=lo;have R:=g.ok (show k<=200 by omega);have A:=g.r5;have u6:=g.cm.q;have u5:=R.aT hu r.toNat U;obtain⟨w8,w9,y7⟩:=g.wait hu;have hw:iB r st.sent st.log=st.wait:=(q hu).symm;obtain⟨u7,u9,m6⟩:=zn u st.aT;have ol:=i.l;have oh:=i.h;refine fo func27 ntmps27 ?_;refine rn ?_;(repeat(first|intro(g:Nat)|intro(v:Value)|intro(o:O1 _)|intro(cs:List Value)|intro h));revert g;intro j;refine sc ?_;(repeat(first|intro(g:Nat)|intro(v:Value)|intro(o:O1 _)|intro(cs:List Value)|intro h));refine bX J J J ?_;refine bc [] J call74 rE J (OL x.vl st.log _ rD U) ?_;rintro r1 _ ⟨cs,As,o1,hB,j4,⟨m9,j1⟩,rfl⟩;have d6:nj c.l c.p cs e=kb c.l c.p (iv (cf st.log)) e:=by rw[<-Mo];exact X4 lo hB _ _ e
 refine bn ?_;refine br rF ?_;refine mn ?_;(repeat(first|intro(g:Nat)|intro(v:Value)|intro(o:O1 _)|intro(cs:List Value)|intro h));refine bX J J J ?_;refine bc [] J call73 rE J (Zx c r1 cs e _ rD (λH L=>(j4 H L).sub (iC _ (bW _))) U U U (λH L=>by have:=j1 H L;omega)) ?_;rintro _ _ ⟨rfl,rfl⟩;rw[d6];refine bn ?_;refine br rF ?_;refine mn ?_;(repeat(first|intro(g:Nat)|intro(v:Value)|intro(o:O1 _)|intro h));obtain⟨z,m⟩:∃z,z=kb c.l c.p (iv (cf st.log)) e:=⟨_,rfl⟩;rw[<-m];by_cases w:z=0
 case neg=>
  have b:st.edit c r e=(st,z):=by
   have:st.dg c r e=z:=by unfold aG.dg;rw[ai (by rw[hu];simp),<-m,an w]
   unfold aG.edit;rw[this,an w]
  rw[b];refine rn ?_;(repeat(first|intro(g:Nat)|intro(v:Value)|intro(o:O1 _)|intro h));refine fr ?_;exact⟨_,ar d rP,Ev.zero,rfl,(λh=>absurd h w),(λ_=>rfl),rfl⟩
 subst w;clear hB j4 m9 j1 d6 o1;revert g;intro W;refine cb (L':=fj gn c r true x.vl st.sent (ay x.gi) st.bE x.keep::ao W 26 (ab.cells e)::ao j 80 (ab.cells Ev.zero)::aL x.vl st.log::jg x.gi c.h x.cl x.vh::aL x.vh x.held::M) ?_ rP;refine rn ?_;(repeat(first|intro(g:Nat)|intro(v:Value)|intro(o:O1 _)|intro h));refine Ex.Af 9 [2] _ rfl rQ (eb _) ?_;refine mn ?_;(repeat(first|intro(g:Nat)|intro(v:Value)|intro(o:O1 _)|intro h));refine bX J J J ?_;refine bc [] J call75 rE J (HZ gn c r true x.vl st.sent (ay x.gi) st.bE x.keep st.log _ rD U) ?_;rintro v4 _ ⟨o4,rfl⟩;rw[hw];refine bn ?_;refine br rF ?_;refine mn ?_;(repeat(first|intro(g:Nat)|intro(v:Value)|intro(o:O1 _)|intro h));refine bX J J J ?_;refine cH J J J rV ?_;refine bn ?_;refine br rF ?_;refine mn ?_;(repeat(first|intro(g:Nat)|intro(v:Value)|intro(o:O1 _)|intro h));by_cases P:c.q<=st.wait.length
 case pos=>
  have b:st.edit c r e=(st,17):=by
   have:st.dg c r e=17:=by unfold aG.dg;rw[ai (by rw[hu];simp),<-m,ai (by simp),an P]
   unfold aG.edit;rw[this,an (by simp)]
  rw[b];refine rn ?_;(repeat(first|intro(g:Nat)|intro(v:Value)|intro(o:O1 _)|intro h));refine fr ?_;exact⟨_,ar d rP,Ev.zero,rfl,(λh=>by cases h),(λ_=>rfl),rfl⟩
 refine rn ?_;(repeat(first|intro(g:Nat)|intro(v:Value)|intro(o:O1 _)|intro h));refine bc [1] J call76 rE J (yh gn c r true x.vl st.sent (ay x.gi) st.bE x.keep st.log _ rD U u) ?_;rintro _ _ ⟨rfl,rfl⟩;rw[h3];refine rn ?_;(repeat(first|intro(g:Nat)|intro(v:Value)|intro(o:O1 _)|intro h));revert g;intro g7;refine sc ?_;(repeat(first|intro(g:Nat)|intro(v:Value)|intro(o:O1 _)|intro h));refine ma [] call77 (Wy st.aT r _ A U U) ?_;rintro _ _ ⟨rfl,rfl⟩;obtain⟨c2,l8⟩:∃c2,c2=st.aT.set r.toNat (st.aT.get r.toNat+1):=⟨_,rfl⟩;have j3:st.aT.next r=(c2,0):=by unfold aj.next;rw[ai U,ai U,l8]
 rw[j3];refine bn ?_;refine br rF ?_;refine mn ?_;(repeat(first|intro(g:Nat)|intro(v:Value)|intro(o:O1 _)|intro h));refine bX J J J ?_;(first|refine fO 0 J J rE rN J J rE rE ?_|refine fD 0 J J J rC J J J rE ?_|refine fQ 0 J J J rE J J rE ?_);refine bn ?_;refine br rF ?_;refine mn ?_;(repeat(first|intro(g:Nat)|intro(v:Value)|intro(o:O1 _)|intro h));refine rn ?_;(repeat(first|intro(g:Nat)|intro(v:Value)|intro(o:O1 _)|intro h));refine bF (L':=fj gn c r true x.vl st.sent (ay x.gi) st.bE x.keep::ao g7 50 (ab.cells st.aT)::ao W 26 (ab.cells e)::ao j 80 (ab.cells Ev.zero)::aL x.vl st.log::jg x.gi c.h x.cl x.vh::aL x.vh x.held::M) ?_ rP;refine wk ?_;(repeat(first|intro(g:Nat)|intro(v:Value)|intro(o:O1 _)|intro h));refine bX J J J ?_;refine bc [] J call78 rE J (VH x.vl st.log st.aT _ rD U (λy hy=>(u y hy).I.2)) ?_;rintro _ _ ⟨rfl,rfl⟩;rw[m6];refine bn ?_;refine br rF ?_;refine mn ?_;(repeat(first|intro(g:Nat)|intro(v:Value)|intro(o:O1 _)|intro h));by_cases hh:16777216<lq st.log st.aT
 ·have b:st.edit c r e=(st,25):=by
   have:st.dg c r e=25:=by unfold aG.dg;rw[ai (by rw[hu];simp),<-m,ai (by simp),ai P,an (.inr hh)]
   unfold aG.edit;rw[this,an (by simp)]
  rw[b];refine rn ?_;(repeat(first|intro(g:Nat)|intro(v:Value)|intro(o:O1 _)|intro h));refine fr ?_;exact⟨_,ar d rP,Ev.zero,rfl,(λh=>by cases h),(λ_=>rfl),rfl⟩
 have e9:=st.aT.getD_eq r.toNat;refine rn ?_;(repeat(first|intro(g:Nat)|intro(v:Value)|intro(o:O1 _)|intro h));refine Y3 ?_;(repeat(first|intro(g:Nat)|intro(v:Value)|intro(o:O1 _)|intro h));refine rn ?_;(repeat(first|intro(g:Nat)|intro(v:Value)|intro(o:O1 _)|intro h));revert g;intro n;obtain⟨a,f⟩:∃a,a=st.dm r e:=⟨_,rfl⟩;have e8:ab.cells a=[.int .i64 r,.int .i64 ([st.aT.a,st.aT.b,st.aT.c,st.aT.d,st.aT.e].getD r.toNat 0+1),.int .i64 st.aT.a,.int .i64 st.aT.b,.int .i64 st.aT.c,.int .i64 st.aT.d,.int .i64 st.aT.e,.int .i64 (lq st.log st.aT),.int .i64 e.kind,.string (S e.key),.int .i64 e.label,.string (S e.value)]:=by rw[e9,f];rfl
 refine bF (L':=fj gn c r true x.vl st.sent (ay x.gi) st.bE x.keep::ao n 80 (ab.cells a)::ao j 80 (ab.cells Ev.zero)::aL x.vl st.log::jg x.gi c.h x.cl x.vh::aL x.vh x.held::M) ?_ (by rw[e8];exact rP);clear e8 e9 j3;have d9:a.aW:=by rw[f];exact aG.Aj R U hu (by have h:=Ce m.symm;exact h) U U
 have j6:(bw 1 r [a]).aW:=pb (.inl ⟨rfl,rfl⟩) A (by simp) (λy hy=>by rw[mJ.1 hy];exact d9);have Q:replay (st.aE++[bw 1 r [a]])=(st.log++[a],st.sent):=by rw[iR,t];rfl
 have d8:st.dg c r e=0:=by unfold aG.dg;rw[ai (by rw[hu];simp),<-m,ai (by simp),ai P,ai U]
 refine bU 13 [kA gn c r x.vl st.sent,ao n 80 (ab.cells a)] rfl rQ (kA.pa (dt 0 rfl (eI _))) ?_;refine mn ?_;(repeat(first|intro(v:Value)|intro(o:O1 _)|intro h));refine fZ J J J (kA.val λup p s9 keep=>rV) ?_;refine mn ?_;(repeat(first|intro(v:Value)|intro(o:O1 _)|intro h));refine bX J J J ?_;refine bc [1] J call79 rE J (zK gn c r true x.vl st.sent (ay x.gi) st.bE x.keep (bw 1 r [a]) _ _ rD rfl j6) ?_;rintro _ _ (⟨s,rfl,rfl⟩|⟨s,gi,rfl,rfl⟩)
 ·obtain⟨V,C⟩:=BG s (bw 1 r [a]);have b:st.edit c r e=({st with aE:=st.aE++[bw 1 r [a]],log:=st.log++[a],aT:=st.aT.set r.toNat (st.aT.get r.toNat+1),wait:=(gP c.q st.sent st.wait a).2},0):=by unfold aG.edit;rw[ai (by rw[d8];simp),<-f,ai (by rw[V];simp),C]
  rw[b];refine bn ?_;refine br (kA.pa (dt 1 rfl (eI _))) ?_;refine mn ?_;(repeat(first|intro(v:Value)|intro(o:O1 _)|intro h));refine rn ?_;(repeat(first|intro(v:Value)|intro(o:O1 _)|intro h));refine bF (L':=aL x.vl st.log::fj gn c r true x.vl st.sent (ay x.gi) false x.keep::ao n 80 (ab.cells a)::ao j 80 (ab.cells Ev.zero)::jg x.gi c.h x.cl x.vh::aL x.vh x.held::M) ?_ rP;refine bU 8 (_::_::_::_::_::M) rfl rQ rF ?_;refine mn ?_;(repeat(first|intro(v:Value)|intro(o:O1 _)|intro h));refine rn ?_;(repeat(first|intro(v:Value)|intro(o:O1 _)|intro h));refine bF (L':=jg x.gi c.h x.cl x.vh::aL x.vh x.held::fj gn c r true v st.sent (ay x.gi) false x.keep::ao n 80 (ab.cells a)::ao j 80 (ab.cells Ev.zero)::aL v (st.log++[a])::M) ?_ rP;have c9:=R.cI U hu;have j5:a.dY st.aT:=by rw[f];exact⟨A.1,A.2,by show 1<=st.aT.get r.toNat+1;omega,by show st.aT.get r.toNat+1-1=st.aT.get r.toNat;omega,Kw _⟩
  rw[<-d7]at c9 j5;refine bU 6 (_::_::_::_::M) rfl rQ rF ?_;refine mn ?_;(repeat(first|intro(v:Value)|intro(o:O1 _)|intro h));refine ma [] call80 (XZ x.gi c.h x.cl x.vh x.held a _ d9.I.1 c9) ?_;rintro _ _ (⟨n8,_,_⟩|⟨_,rfl,rfl⟩)
  ·exact absurd j5 n8
  refine bn ?_;refine br rF ?_;refine mn ?_;(repeat(first|intro(v:Value)|intro(o:O1 _)|intro h));refine rn ?_;(repeat(first|intro(v:Value)|intro(o:O1 _)|intro h));refine fr ?_;exact⟨_,ar (bA.put (st:={st with aE:=st.aE++[bw 1 r [a]],log:=st.log++[a],aT:=st.aT.set r.toNat (st.aT.get r.toNat+1),wait:=(gP c.q st.sent st.wait a).2}) ⟨v,x.gi,x.vh,x.keep,x.cl.set a.r.toNat a.n,x.held⟩ ⟨o,oh,i.k,λ_=>⟨by rw[d7,f];rfl,m7⟩⟩ hu s Q M) rP,a,rfl,(λ_=>f),(λh=>absurd rfl h.2),rfl⟩
 ·obtain⟨V,C,w3,F⟩:=yd j6 s;have b:st.edit c r e=((st.write (bw 1 r [a])).1,18):=by unfold aG.edit;rw[ai (by rw[d8];simp),<-f,an (by rw[V];simp)]
  rw[b];have j0:=i.k s;refine bn ?_;refine br (kA.pa (dt 2 rfl (eI _))) ?_;by_cases l:((bw 1 r [a]).bytes.length:Int)<=x.keep
  ·rw[bf l];rw[an (by rw[<-j0];exact l)]at F;rw[<-F]at Q;refine mn ?_;(repeat(first|intro(o:O1 _)|intro h));refine rn ?_;(repeat(first|intro(o:O1 _)|intro h));refine bF (L':=aL x.vl st.log::fj gn c r false x.vl st.sent (ay gi) false x.keep::ao n 80 (ab.cells a)::ao j 80 (ab.cells Ev.zero)::jg gi c.h aj.zero (.slice none 0 0)::M) ?_ rP;refine bU 8 (_::_::_::_::M) rfl rQ rF ?_;refine mn ?_;(repeat(first|intro(o:O1 _)|intro h));refine rn ?_;(repeat(first|intro(o:O1 _)|intro h));refine fr ?_;exact⟨_,ar (bA.sW (gi:=gi) (keep:=x.keep) C w3 Q o M) rP,Ev.zero,rfl,(λh=>by cases h),(λ_=>rfl),rfl⟩
  ·rw[bd l];rw[ai (by rw[<-j0];exact l)]at F;rw[<-F]at t;refine mn ?_;intros;refine rn ?_;intros;refine fr ?_;exact⟨_,ar (bA.sW (gi:=gi) (keep:=x.keep) C w3 t ol M) rP,Ev.zero,rfl,(λh=>by cases h),(λ_=>rfl),rfl⟩
end
end
section
@[reducible] def qg(g:Nat)(c:aJ)(ss:List Sh)(m:Nat)(tl:List aj):aa:=ao g 308 (ab.cells c++(cellsOf (ss.map λs=>Ptr.mk s.g)++List.replicate m (.pointer none))++cellsOf tl)
set_option maxRecDepth 20000 attribute [local irreducible] Ex aM Fn bI bJ bV fin meet ch aX bZ aP aN aI Rd aK Row ao Sub bk bP bS bN bg bR Hid bY
section
attribute [local irreducible] eY mh
theorem Tz(gp:Nat)(c:aJ)(ss:List Sh)(tl:List aj)(M:List aa)(z:ss.length=5)(w:tl.length=5)(F:∀x∈ss,x.sf.all.length<=1000000):Fn prog 203 #[ay gp] (cL gp c ss tl::dp c.w ss::M)
  λv L'=>∃(n:Nat) (a:List Sh),v=ay n/\a.map Sh.sf=ss.map Sh.sf/\a.length=5/\L'=cL n c a tl::dp c.w a::cL gp c ss tl::dp c.w ss::M:=by
 obtain⟨b,d,t2,f,i,rfl⟩:∃b d t2 f i,tl=[b,d,t2,f,i]:=⟨_,_,_,_,_,XO w⟩;refine fo func203 ntmps203 ?_;refine rn ?_;(repeat(first|intro(g:Nat)|intro(v:Value)|intro(o:O1 _)|intro(cs:List Value)|intro(p:_=List.set _ _ _)|intro h));refine bU 10 (cL gp c ss [b,d,t2,f,i]::dp c.w ss::M) rfl rQ rF ?_;refine mn ?_;(repeat(first|intro(g:Nat)|intro(v:Value)|intro(o:O1 _)|intro(cs:List Value)|intro(p:_=List.set _ _ _)|intro h));refine fZ J J J (X6 0 z w J J J J) ?_;refine mn ?_;(repeat(first|intro(g:Nat)|intro(v:Value)|intro(o:O1 _)|intro(cs:List Value)|intro(p:_=List.set _ _ _)|intro h));refine rn ?_;(repeat(first|intro(g:Nat)|intro(v:Value)|intro(o:O1 _)|intro(cs:List Value)|intro(p:_=List.set _ _ _)|intro h));revert g;intro n;refine bF (L':=qg n c [] 5 [b,d,t2,f,i]::dp c.w []::cL gp c ss [b,d,t2,f,i]::dp c.w ss::M) ?_ (ar (bl _ (eY.nil _)) rB);refine bm [4] (λm y L'=>∃(k:Nat) (a:List Sh),k<=5/\m=5-k/\a.length=k/\a.map Sh.sf=(ss.take k).map Sh.sf/\y=[.int .i64 k]/\L'=qg n c a (5-k) [b,d,t2,f,i]::dp c.w a::cL gp c ss [b,d,t2,f,i]::dp c.w ss::M) 5 ⟨0,[],U,rfl,rfl,rfl,rfl,rfl⟩ ?_;rintro m y I L' ⟨k,a,P,rfl,r,t,rfl,rfl⟩;refine bp [0,3,4] rG (λL=>?_);by_cases R:k<5
 ·obtain⟨m,H⟩:∃m,5-k=m+1:=⟨4-k,U⟩;have l:k<ss.length:=U;have Q:=F _ (bT l);have S:=(ss[k]'l).one;rw[H];refine rn ?_;(repeat(first|intro(g:Nat)|intro(v:Value)|intro(o:O1 _)|intro(cs:List Value)|intro(p:_=List.set _ _ _)|intro h));refine bF (L':=qg n c a (m+1) [b,d,t2,f,i]::kj c.w (ss[k]'l)::kK (ss[k]'l)::om c.w ss k::cL gp c ss [b,d,t2,f,i]::dp c.w a::M) ?_ (ar rP (ar (vi (g:=gp) (c:=c) (tl:=[b,d,t2,f,i]) l (qg n c a (m+1) [b,d,t2,f,i]::dp c.w a::M)) rP));refine bU 37 (kj c.w (ss[k]'l)::kK (ss[k]'l)::om c.w ss k::cL gp c ss [b,d,t2,f,i]::dp c.w a::M) rfl rQ rF ?_;refine mn ?_;(repeat(first|intro(g:Nat)|intro(v:Value)|intro(o:O1 _)|intro(cs:List Value)|intro(p:_=List.set _ _ _)|intro h));refine fZ J J J (sk 3 (j:=k) J J J l) ?_;refine mn ?_;(repeat(first|intro(g:Nat)|intro(v:Value)|intro(o:O1 _)|intro(cs:List Value)|intro(p:_=List.set _ _ _)|intro h));refine fZ J J J (sk 3 (j:=k) J J J l) ?_;refine mn ?_;(repeat(first|intro(g:Nat)|intro(v:Value)|intro(o:O1 _)|intro(cs:List Value)|intro(p:_=List.set _ _ _)|intro h));refine fZ J J J (sk 3 (j:=k) J J J l) ?_;refine mn ?_;(repeat(first|intro(g:Nat)|intro(v:Value)|intro(o:O1 _)|intro(cs:List Value)|intro(p:_=List.set _ _ _)|intro h));refine bX J J J ?_;have u:(ab.cells c++(cellsOf (a.map λs=>Ptr.mk s.g)++List.replicate (m+1) (.pointer none))++cellsOf [b,d,t2,f,i]:List Value).length=36:=by simp only[bo,cN,bC,ju];show 6+(a.length*1+(m+1))+5*5=36;omega
  refine uP 2 J J rE rN J (by rw[u];show 6+(k:Int).toNat*1<36;omega) (λcs p=>?_);obtain⟨x,hx⟩:∃x:Sh,x=⟨g,v,o,(ss[k]'l).sf⟩:=⟨_,rfl⟩;have q:=Ii (A:=ab.cells c) (C:=cellsOf [b,d,t2,f,i]) a m (.pointer none) x;rw[hx]at q;rw[show 6+(k:Int).toNat*1=(ab.cells c).length+a.length by rw[r];show _=6+k;omega,q,<-hx]at p;subst p;clear q u;refine bn ?_;refine br rF ?_;refine mn ?_;(repeat(first|intro(g:Nat)|intro(v:Value)|intro(o:O1 _)|intro h));refine rn ?_;(repeat(first|intro(g:Nat)|intro(v:Value)|intro(o:O1 _)|intro h));refine aS ⟨5-(k+1),qg n c (a++[x]) (5-(k+1)) [b,d,t2,f,i]::dp c.w (a++[x])::cL gp c ss [b,d,t2,f,i]::dp c.w ss::M,U,?_,k+1,a++[x],U,rfl,by simp[r],by rw[dA,t,da l,dA,hx];rfl,av (aQ U) rfl,rfl⟩;rw[show 5-(k+1)=m by omega];subst hx;refine ar rP (ar (eY.last (B:=kj c.w) (C:=kK) ⟨g,v,o,(ss[k]'l).sf⟩ (cL gp c ss [b,d,t2,f,i]::dp c.w ss::qg n c (a++[⟨g,v,o,(ss[k]'l).sf⟩]) m [b,d,t2,f,i]::M)) ?_);refine ar ?_ (ar (BN (g:=gp) (c:=c) (tl:=[b,d,t2,f,i]) l (kj c.w ⟨g,v,o,(ss[k]'l).sf⟩::kK ⟨g,v,o,(ss[k]'l).sf⟩::dp c.w a::qg n c (a++[⟨g,v,o,(ss[k]'l).sf⟩]) m [b,d,t2,f,i]::M)) rP);exact rP
 ·obtain rfl:k=5:=U;have e:qg n c a (5-5) [b,d,t2,f,i]=cL n c a [b,d,t2,f,i]:=by unfold qg cL;rw[show List.replicate (5-5) (Value.pointer none)=[]from rfl,ck]
  rw[e];rw[ic U]at t;refine rn ?_;intros;refine fr ?_;exact⟨_,rB,n,a,rfl,t,r,rfl⟩
end
end
section
def ya(n:Nat)(ops:Array Oper)(kd:Nat->Nat)(m:Nat):Bool:=
 Region.noSelect ops&&
 (List.range ops.size).all (λj=>match ops[j]? with|some o=>(o.after.all λe=>!Region.binds .any e||Nat.blt e.on j)&&fv n o.dst|none=>true)&&
 (List.range m).all (λj=>(List.range j).all λk=>jS ops j k||wZ ops k j)&&
 (List.range m).all (λj=>!fu (kd j)||(List.range j).all λk=>Nat.beq (kd k) 0||waits ops 4 j k||(List.range j).any λx=>Nat.blt k x&&fu (kd x))&&
 (List.range ops.size).all (λj=>Nat.blt j m||(List.range m).all λk=>waits ops 20 j k)&&
 Nat.ble m ops.size
section
variable{P:Program}{n:Nat}{ops:Array Oper}{kd:Nat->Nat}{Lb:List aa}{m:Nat}
theorem Wu{d9:(Nat->Value)->List aa->Prop}{D:List Deferred}(D6:ya n ops kd m=true)(E6:∀d,d∈jc ops.toList->ws d=true)
  (hZ:∀(q:Array Bool) (a:Act) (w:World) (f:Nat->Value) (L:List aa),Inv ops m q []->gB D n F w0 f0 ws a w f L->d9 f L->wpAny P .any ops (eN D n F w0 f0 ws Q) (ops.size-m) q a w):
  ∀(c:Nat) (l:List (Nat×Oper)) (q:Array Bool) (a:Act) (w:World) (f:Nat->Value) (L:List aa),l.length=c->Inv ops m q l->gB D n F w0 f0 ws a w f L->bk Lb L->
   aX P n ops kd Lb d9 l f L->wpAny P .any ops (eN D n F w0 f0 ws Q) (l.length+(ops.size-m)) q a w:=by
 have m6:=D6;simp only[ya,dT,kW,oI,vF,sm]at m6;obtain⟨⟨⟨⟨⟨c1,c2⟩,c3⟩,c4⟩,c5⟩,c6⟩:=m6;have hm:=cT c6;have q9:∀(j:Nat) (o:Oper),ops[j]?=some o->∀cs b,o.op≠.select cs b:=λj o h cs b=>Region.noSelect_spec c1 j o cs b h;have B7:∀j o,ops[j]?=some o->∀e∈o.after,Region.binds .any e=true->e.on<j:=λj o g e V p=>by have:=c2 j (gR.1 g).1;rw[g]at this;simp only[dT]at this;have A:=this.1;rw[<-CP,kW]at A;have S:=A e (sL.2 V);rw[p]at S;simp at S;exact S
 have e9:∀(j:Nat) (o:Oper),ops[j]?=some o->fv n o.dst=true:=λj o g=>by have:=c2 j (gR.1 g).1;rw[g]at this;simp only[dT]at this;exact this.2
 have r0:∀(j:Nat) (o:Oper),ops[j]?=some o->∀t,o.dst=some t->ws t=true:=λj o g t ht=>
  E6 t (ru.2 ⟨o,sL.2 (ER g),ht⟩)
 have B9:∀j,j<m->fu (kd j)=true->∀k,k<j->kd k=0\/waits ops 4 j k=true\/∃x,x<j/\k<x/\fu (kd x)=true:=λj hj hl k hk=>by
  rcases c4 j hj with h|h
  ·rw[hl]at h;cases h
  ·rcases h k hk with(h|h)|h
   ·exact .inl (mj h)
   ·exact .inr (.inl h)
   ·simp only[eR,oI,dT]at h;obtain⟨x,hx,B0,C8⟩:=h;exact .inr (.inr ⟨x,hx,by simpa using B0,C8⟩)
 have w9:∀j,m<=j->j<ops.size->∀k,k<m->waits ops 20 j k=true:=λj A S k hk=>by
  rcases c5 j S with h|h
  ·have:=cT h;omega
  ·exact h k hk
 intro c
 induction c with
 |zero=>
  intro l q a w f L hc I H hf hM;have hl:l=[]:=dZ hc;subst hl;obtain⟨R,hs,hx⟩:=hM ⟨D,F,w,a,H.2.1,H.2.2.1⟩;simpa using hZ q a w f R I ⟨H.1,H.2.1,hs w F H.2.2.1,H.2.2.2⟩ hx
 |succ c ih=>
  intro l q a w f L hc I H hf hM;obtain⟨s,M,rfl⟩:∃s M,l=s::M:=by
   cases l with
   |nil=>simp at hc
   |cons s M=>exact⟨s,M,rfl⟩
  obtain⟨l8,u7,j1⟩:=I.mem s (fP ..);have C6:∀k,k<s.1->q.getD k false=true:=λk hk=>by
   cases p:q.getD k false with
   |true=>rfl
   |false=>
    have D8:k<q.size:=by rw[I.size];omega
    have z8:q.getD k true=false:=by simp[Array.getD,D8]at p⊢;exact p
    obtain⟨o,g⟩:=I.all k U z8;rcases gA.1 g with e|e
    ·rw[<-e]at hk;simp at hk
    ·have:=(km.1 I.inc).1 _ e;simp at this;omega
  have p9:s.1∈Region.ready .any ops q:=mem_ready.2 ⟨j1,s.2,l8,λe V p=>C6 _ (B7 _ _ l8 e V p)⟩;have B6:(s::M).length+(ops.size-m)=M.length+(ops.size-m)+1:=by simp;omega
  rw[B6];refine⟨λh0=>(by rw[h0]at p9;cases p9),λi hi=>?_⟩;obtain⟨B8,o,g,w8⟩:=mem_ready.1 hi;have z7:=(gR.1 g).1;have j3:i<m:=by
   rcases mY i m with h|h
   ·exact h
   ·exfalso;have:=NS I 20 i s.1 (w9 i h z7 s.1 u7) (.inr hi);rw[mf this]at j1;cases j1
  obtain⟨o',m9⟩:=I.all i j3 B8;obtain⟨j4,_,_⟩:=I.mem _ m9;simp only at j4;rw[g]at j4;cases j4;obtain⟨u,z,hl⟩:=FM m9;rw[hl]at I hM hc;have l9:=I.inc;rw[tJ,km]at l9;have w6:=aX.front (q9 i o g) (e9 i o g) u (λy hy=>by
   obtain⟨y1,y2,y3⟩:=I.mem y (lk _ hy);have m8:y.1<i:=l9.2.2 y hy (i,o) (fP ..);have C9:jS ops i y.1=false:=by
    cases p:jS ops i y.1 with
    |false=>rfl
    |true=>obtain⟨o2,n8,e,V,y7,y8⟩:=pQ.1 p;rw[g]at n8;cases n8;have A:=w8 e V y7;rw[y8]at A;rw[mf A]at y3;cases y3
   refine⟨q9 _ _ y1,?_,e9 _ _ y1,?_⟩
   ·have:=c3 i j3 y.1 m8;rw[C9]at this;rcases this with h|h
    ·cases h
    ·unfold wZ at h;rw[y1,g]at h;exact h
   ·by_cases k0:kd y.1=0
    ·exact .inr (.inl k0)
    ·cases hlk:fu (kd i)with
     |false=>
      unfold fu at hlk;split at hlk
      ·rename_i h;exact .inl h
      ·rename_i h;exact .inr (.inr h)
      ·cases hlk
     |true=>have:=B3 I B9 (i-y.1) i y.1 (bj _) m8 j3 hlk k0 (.inr hi);rw[mf this]at y3;cases y3) hf hM
  have I':=I.step hi;have m7:(u++z).length=c:=by simp at hc⊢;omega
  have C7:M.length=(u++z).length:=by
   have:(s::M).length=(u++(i,o)::z).length:=by rw[hl]
   simp at this⊢;omega
  rw[C7];have p:=w6 ⟨D,F,w,a,H.2.1,H.2.2.1⟩;have E0:Region.wanted o (yielded ops a.tmps)=fB ops f o:=by rw[H.2.1.yield ops];rfl
  unfold wpOp;rw[g];simp only;rw[E0];have next:∀(v:Value) (w':World) (L':List aa),Rest w w'->aN w' L' F->bk Lb L'->aX P n ops kd Lb d9 (u++z) (cg f o.dst v) L'->
    wpAny P .any ops (eN D n F w0 f0 ws Q) ((u++z).length+(ops.size-m)) (q.setIfInBounds i true) (a.put o.dst v) w':=λv w' L' hr hs y9 d7=>
   ih (u++z) _ _ w' _ L' m7 I' (H.mW hr hs (e9 i o g) (r0 i o g) v) y9 d7
  split
  ·rename_i hw;rw[an hw]at p;refine .inl ?_;unfold Oper.wp;rw[H.2.1.eval];by_cases k0:kd i=0
   ·rw[an k0]at p;obtain⟨v,W,d7⟩:=p;obtain⟨HH,sH,E8⟩:=hf w F H.2.2.1;rw[W HH w sH];exact next v w L (gO w) H.2.2.1 hf d7
   ·rw[ai k0]at p;by_cases k1:kd i=1
    ·rw[an k1]at p;obtain⟨obj,mk,W,d7⟩:=p;rw[W w];exact next _ _ (Pt w.heap.size obj::L) (gO w) (qx obj H.2.2.1 rfl) (bk.cons _ hf) (d7 w.heap.size)
    ·rw[ai k1]at p;have C:=p F w0 w H.1 H.2.2.1;have fin:∀v w',(∃R,bk Lb R/\Rest w0 w'/\aN w' R F/\aX P n ops kd Lb d9 (u++z) (cg f o.dst v) R)->
       wpAny P .any ops (eN D n F w0 f0 ws Q) ((u++z).length+(ops.size-m)) (q.setIfInBounds i true) (a.put o.dst v) w':=by
      rintro v w' ⟨R,A,S,h3,h4⟩;have hp:=ti (w':=w) H (gO w) H.2.2.1 (e9 i o g) (r0 i o g) v;exact ih (u++z) _ _ w' _ R m7 I' ⟨S,hp.2.1,h3,hp.2.2.2⟩ A h4
     unfold LW at C;generalize (execOp (aH f) o).run P w=r at C⊢
     cases r with
     |halt x w'=>exact C.elim
     |ok nx w'=>
      cases nx with
      |value v=>exact fin v w' C
      |skip=>exact fin undef w' C
      |enter k args=>
       show Calls P k args w' _;exact Calls.mono C λe w2 ⟨v,V,W⟩=>by subst V;exact fin v w2 W
      |row r args=>
       show Rows P r args w' _;exact Rows.mono C λv w2 W=>fin v w2 W
      |_=>exact C.elim
  ·rename_i hw;rw[ai hw]at p;exact next undef w L (gO w) H.2.2.1 hf p
theorem Ex.Sy(m:Nat)(kd v:Nat->Nat)(Lb:List aa)(R:P.follows .mixedOrders=true)(u:ya n ops kd m=true)(S:nL n ops v ops.size=true)(z:bk Lb L)
  (h:aX P n ops kd Lb (λf L=>∃Lb2,bk Lb2 L/\aX P n ops v Lb2 (λf L=>aM P n ops (ops.toList.drop ops.size) Q f L) (idx m (ops.toList.drop m)) f L) (idx 0 (ops.toList.take m)) f L):Ex P n (.region g ops true) Q f L:=λD F w0 f0 ws a w H p=>by
 have r:=u;simp only[ya,dT]at r;have c7:=cT r.2;refine wp_region_any R ?_;have q:∀(l:List Oper) k,(idx k l).length=l.length:=by
  intro l
  induction l with
  |nil=>intro k;rfl
  |cons o l ih=>intro k;simp[idx,ih]
 have s:(idx 0 (ops.toList.take m)).length=m:=by rw[q];simp;omega
 have:=Wu (P:=P) (Q:=Q) (F:=F) (w0:=w0) (f0:=f0) (ws:=ws) u p (λW a w f L I H V=>by
  obtain⟨Lb2,A,y⟩:=V;have t:(idx m (ops.toList.drop m)).length=ops.size-m:=by rw[q];simp
  have:=Nc (P:=P) (Q:=Q) (F:=F) (w0:=w0) (f0:=f0) (ws:=ws) S p (ops.size-m) (idx m (ops.toList.drop m)) W a w f L t ⟨yZ,λx hx=>?_,λi hi M=>?_,λi d c=>by omega,I.size,I.closed⟩ H A y
  ·rw[t]at this;simpa using this
  ·obtain⟨d,c,b⟩:=uK hx;simp at c b;refine⟨?_,U,I.back _ d U⟩;rw[show m+(x.1-m)=x.1 by omega]at b;exact b
  ·by_cases C:i<m
   ·obtain⟨o,e⟩:=I.all i C M;cases e
   ·refine⟨ops[i],?_⟩;have:=xR (k:=m) (l:=ops.toList.drop m) (i:=i-m) (o:=ops[i]) (by rw[tg,show m+(i-m)=i by omega];simp[hi]);rw[show m+(i-m)=i by omega]at this;exact this) m (idx 0 (ops.toList.take m)) (Array.replicate ops.size false) a w.drew f L s ⟨yZ,?_,?_,?_,by simp,?_⟩ ⟨H.1,H.2.1,xw H.2.2.1,H.2.2.2⟩ z h
 ·rw[s,show m+(ops.size-m)=ops.size by omega]at this;exact this
 ·intro x hx;obtain⟨d,c,b⟩:=uK hx;simp at c b;rw[mz]at b;split at b
  ·refine⟨by simpa using b,U,?_⟩;simp[Array.getD];omega
  ·cases b
 ·intro i hi _;have j:i<ops.size:=U;refine⟨ops[i],?_⟩;have:=xR (k:=0) (l:=ops.toList.take m) (i:=i) (o:=ops[i]) (by rw[mz,an hi];simp[j]);simpa using this
 ·intro i _ hi;simp[Array.getD,hi]
 ·intro x o e hx;exfalso;have j:=(gR.1 e).1;simp[Array.getD,j]at hx
theorem Ex.N6(m:Nat)(Lb:List aa)(b:P.follows .mixedOrders=true)(c:ya n ops (sj ops) m=true)(d:nL n ops (sj ops) ops.size=true)(a:bk Lb L)
  (h:aX P n ops (sj ops) Lb (λf L=>∃Lb2,bk Lb2 L/\aX P n ops (sj ops) Lb2 (λf L=>aM P n ops (ops.toList.drop ops.size) Q f L) (idx m (ops.toList.drop m)) f L) (idx 0 (ops.toList.take m)) f L):Ex P n (.region k ops true) Q f L:=
 Ex.Sy m _ _ Lb b c d a h
end
end
section
@[reducible] def lK(gh:Nat)(c:aJ)(gp:Nat)(b a:Bool)(keep:Int):aa:=ao gh 222 [.int .i64 c.n,.int .i64 c.w,.int .i64 c.q,.int .i64 c.h,.int .i64 c.l,.int .i64 c.p,.pointer (some ⟨gp,0,none⟩),.bool b,.bool a,.int .i64 keep]
def cc(gh:Nat)(c:aJ)(st:aY):aa:=λh=>∃(gp:Nat) (keep:Int),(st.bE=true->keep=st.keep)/\aA [lK gh c gp st.up st.bE keep,eD gp c c.n.toNat (cU c st.aE)] h
theorem cc.fn{P:Program}{k:FuncId}{args:Array Value}{gh:Nat}{st:aY}
  (b:∀gp keep,(st.bE=true->keep=st.keep)->Fn P k args (lK gh c gp st.up st.bE keep::eD gp c c.n.toNat (cU c st.aE)::M) R):Fn P k args (cc gh c st::M) R:=λF w0 w rr ⟨h,⟨gp,keep,e,a⟩,d,s⟩=>
 b gp keep e F w0 w rr (Ep _ _ M w F ⟨h,a,d,s⟩)
theorem cc.cls{gh gp:Nat}{st:aY}{b:Bool}{keep:Int}{p:aR}(g:st.up=up)(d:st.bE=b)(e:b=true->keep=st.keep)(f:cU c st.aE=p)(M:List aa):
  Sub (cc gh c st::M) (lK gh c gp up b keep::eD gp c c.n.toNat p::M):=by
 subst g;subst d;subst f;exact ar (jE (λ_ a=>⟨gp,keep,e,a⟩) (bW M)) (Oh _ _ M)
set_option maxRecDepth 20000 attribute [local irreducible] Ex aM Fn bI bJ bV fin meet ch aX bZ aP aN aI Rd aK Row ao Sub bk bP bS bN bg bR Hid bY
section
attribute [local irreducible] eY mh eD
theorem FF(gh gp:Nat)(c:aJ)(b a:Bool)(keep:Int)(M:List aa):Fn prog 70 #[ay gh] (lK gh c gp b a keep::M) λ_ L'=>L'=lK gh c gp false false keep::M:=by refine fo func70 ntmps70 ?_;exact qi
theorem MT(gh:Nat)(c:aJ)(st:aY)(M:List aa):Fn prog 70 #[ay gh] (cc gh c st::M) λv L'=>L'=cc gh c st.db::M:=by refine cc.fn λgp keep a=>?_;refine(FF gh gp c st.up st.bE keep _).dD ?_;rintro v L' rfl;exact⟨_,cc.cls (st:=st.db) rfl rfl (λh=>by cases h) rfl M,rfl⟩
theorem Zd(gh:Nat)(c:aJ)(st:aY)(a:Int)(M:List aa):Fn prog 115 #[ay gh,.int .i64 a] (cc gh c st::M) λv L'=>L'=cc gh c (st.cut a)::M:=by refine cc.fn λgp keep b=>?_;refine fo func115 ntmps115 ?_;refine rn ?_;intros;refine fr ?_;exact⟨_,cc.cls (st:=st.cut a) rfl rfl (λ_=>rfl) rfl M,rfl⟩
theorem JZ(gh:Nat)(c:aJ)(st:aY)(M:List aa):Fn prog 71 #[ay gh] (cc gh c st::M) λv L'=>v=.int .i64 (st.start c).2/\L'=cc gh c (st.start c).1::M:=by
 refine cc.fn λgp keep a=>?_;cases hu:st.up
 ·have e:st.start c=({st with up:=true,tail:=[],bE:=false,post:=cU c st.aE},0):=by unfold aY.start;rw[ai (by rw[hu];simp)]
  rw[e];refine fo func71 ntmps71 ?_;refine rn ?_;intros;refine fr ?_;exact⟨_,cc.cls (st:={st with up:=true,tail:=[],bE:=false,post:=cU c st.aE}) rfl rfl (λh=>by cases h) rfl M,rfl,rfl⟩
 ·have e:st.start c=(st,19):=by unfold aY.start;rw[an hu]
  rw[e];refine fo func71 ntmps71 ?_;refine rn ?_;intros;refine fr ?_;exact⟨_,cc.cls (st:=st) hu rfl a rfl M,rfl,rfl⟩
theorem NK(gh gp b:Nat)(c:aJ)(d a:Bool)(keep:Int)(x:aF)(v0:Value)(M:List aa)(h:aI M v0 x.l)(g:O1 v0)(f:x.aW):
  Fn prog 205 #[ay gh,.agg (bH x v0).toArray,ay b] (lK gh c gp d a keep::M) λv L'=>
   (a=false/\v=.bool true/\L'=lK gh c b d false keep::M)\/
   (a=true/\v=.bool false/\(x.bytes.length:Int)<=keep/\L'=lK gh c b false false keep::M)\/(a=true/\v=.bool false/\¬(x.bytes.length:Int)<=keep/\L'=lK gh c gp false false keep::M):=by
 refine fo func205 ntmps205 ?_;refine rn ?_;intros;refine bc [] J call28 J J (Gk x v0 _ rD g f) ?_;rintro _ _ ⟨j,i,rfl,rfl⟩;cases a
 ·refine rn ?_;intros;refine fr ?_;exact⟨_,rP,.inl ⟨rfl,rfl,rfl⟩⟩
 ·by_cases e:(x.bytes.length:Int)<=keep
  ·refine rn ?_;intros;refine ca [2] call70 (FF gh b c d true keep _) ?_;rintro _ _ rfl;refine rn ?_;intros;refine fr ?_;exact⟨_,rP,.inr (.inl ⟨rfl,rfl,e,rfl⟩)⟩
  ·refine rn ?_;intros;refine ca [2] call70 (FF gh gp c d true keep _) ?_;rintro _ _ rfl;refine rn ?_;intros;refine fr ?_;exact⟨_,rP,.inr (.inr ⟨rfl,rfl,e,rfl⟩)⟩
theorem Vb(c:aJ)(M:List aa)(a:c.aW):Fn prog 90 #[.agg (ab.cells c).toArray] M
  λv L'=>∃gh,v=.tuple #[ay gh,.int .i64 0]/\L'=cc gh c ((aY.fresh c).start c).1::M:=by
 have e:=a.n;have b:gS c=true:=by have:=a.n;have:=a.w;have:=a.q;have:=a.h;have:=a.l;have:=a.p;unfold gS gW;simp[*]
 have d:aR.zero c=⟨List.replicate c.n.toNat aj.zero,List.replicate c.n.toNat Sf.none⟩:=by unfold aR.zero;rw[show(min (max c.n 0) 5).toNat=c.n.toNat by omega]
 refine fo func90 ntmps90 ?_;refine rn ?_;intros;refine ca [] call156 (LA c _) ?_;rintro _ _ ⟨rfl,rfl⟩;rw[b];refine rn ?_;intros;refine Dd ?_;intros;refine ma [] call157 (Vm c c.n.toNat _ U U U) ?_;rintro _ _ ⟨gp,rfl,rfl⟩;refine mw ?_;intros;refine rn ?_;intros;refine fr ?_;exact⟨_,ar (cc.cls (st:=((aY.fresh c).start c).1) rfl rfl (λh=>by cases h) d M) rP,_,rfl,rfl⟩
end
end
def rz:=@cc.cls
end Go.Proofs.YtogcfijlhpaeeaaGreat
