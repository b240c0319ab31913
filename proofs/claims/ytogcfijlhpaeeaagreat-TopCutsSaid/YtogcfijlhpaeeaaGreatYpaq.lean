/- Texts. No condition. -/
import Derived.RangeFuncCalls
import Derived.RangeFuncIn
import Derived.RangeFuncLeaves
import Derived.RangeFuncRecord
import Derived.TacticsIn
import Derived.Test.YtogcfijlhpaeeaaGreatYpap
open Go.RowKit Go.Proofs.Tryz
set_option linter.all false
set_option maxHeartbeats 32000000
namespace Go.Proofs.YtogcfijlhpaeeaaGreat
variable{k:Nat}{r:Int}{e xt yt ty:TypeId}{c:aJ}{x y:Operand}{w:aD}{w0:World}{f0:Nat->Value}{α β:Type}{st:aG}{F:aU}{gs:List Ptr}{af:Array Edge}{ws:Nat->Bool}{gd:Option (Nat×Bool)}{Q':Exit->Act->World->Prop}
section
structure cB.Ok(s:cB):Prop where
 bit:cD s.bit
 mask:0<=s.mask/\s.mask<4294967296
 key:s.ed.key.length<=1000
 value:s.ed.value.length<=1000
theorem yF(a:dE k c w):w.keys.length=w.fl.length/\(∀x∈w.keys,x.2.length<=1310)/\w.fl.length<=2*k:=by refine⟨bC ..,λx hx=>?_,a.fl.1⟩;obtain⟨y,hy,rfl⟩:=fA.1 hx;exact y.2.pH (a.fl.2 y hy)
theorem JH{x:aF}(b:x.cM)(a mask:Int):cV (ib x.bu (a%(8*x.bu.length)).toNat mask.toNat)=kE x a mask:=by
 unfold kE;split
 ·rename_i h;rw[h,sX x b]
 ·rename_i h;have i:=x.pH b;have c:gL x.bu≠none:=by unfold aF.bu;rw[uU];simp
  have j:0<x.bu.length:=by unfold aF.bu;rw[nJ];omega
  have d:(a%(8*x.bu.length)).toNat<8*x.bu.length:=by have f:=sY a (show(8*(x.bu.length:Int))≠0 by omega);have g:=yL a (show 0<(8*(x.bu.length:Int))by omega);omega
  have e:=OP (mask:=mask.toNat) d c h;unfold cV;rw[ai (by rw[pg];omega),e]
theorem xy{l:List α}{i:Int}{x:α}(h:x∈dQ l i):x∈l:=by
 unfold dQ at h;split at h
 ·rcases ct.1 h with h|h
  ·exact mM h
  ·exact py h
 ·exact h
theorem tE(l:List α)(i:Int):(dQ l i).length<=l.length:=by
 unfold dQ;split
 ·simp;omega
 ·exact bj _
theorem Nj(f:α->β)(l:List α)(i:Int):(dQ l i).map f=dQ (l.map f) i:=by
 unfold dQ;rw[bC];split
 ·rw[dA,AE,GN]
 ·rfl
theorem dE.tk(a:dE k c w)(i:Int):dE k c {w with fl:=dQ w.fl i}:=
 ⟨a.n,a.nd,a.aO,by have:=a.fl.1;have:=tE w.fl i;show(dQ w.fl i).length<=2*k;omega,λx hx=>a.fl.2 x (xy hx)⟩
theorem zX{i:Int}(h:0<=i/\i<w.fl.length):nO w.keys i=((w.fl.getD i.toNat (0,aF.zero)).1,(w.fl.getD i.toNat (0,aF.zero)).2.bu,0):=by have a:w.keys.length=w.fl.length:=bC ..;have hi:i.toNat<w.fl.length:=U;unfold nO;rw[an (by rw[a];exact h)];unfold aD.keys;simp[cu,hi]
theorem Ak{i:Int}(h:¬(0<=i/\i<w.fl.length)):nO w.keys i=(0,[],24):=by have a:w.keys.length=w.fl.length:=bC ..;unfold nO;rw[ai (by rw[a];exact h)]
theorem xT(a:dE k c w){i:Int}(h:0<=i/\i<w.fl.length):(w.fl.getD i.toNat (0,aF.zero)).2.cM:=by have hi:i.toNat<w.fl.length:=U;rw[show w.fl.getD i.toNat (0,aF.zero)=w.fl[i.toNat]'hi by simp[cu,hi]];exact a.fl.2 _ (bT hi)
set_option maxRecDepth 20000 attribute [local irreducible] Ex aM Fn bI bJ bV fin meet ch aX bZ aP aN aI Rd aK Row ao Sub bk bP bS bN bg bR Hid bY
section
attribute [local irreducible] aA bD bL cx cQ
theorem VD(d gh gl:Nat)(vs:Value)(gs:List Ptr)(c:aJ)(w:aD)(s:cB)(M:List aa)(j:dE k c w)(p:k<=198)(L:s.Ok)(h:O1 vs)(l:gs.length=w.nodes.length):
  Fn prog 37 #[ay d,.agg (ab.cells s).toArray] (dh d gh gl vs gs c w M)
   λv L'=>v=.int .i64 (w.eC c s).2/\L'=bz d c (w.eC c s).1::M:=by
 obtain⟨V,R,c9⟩:=yF j;have I:∀x∈w.keys,x.2.length<=140737488355328:=λx hx=>by have:=R x hx;omega
 have d6:=L.mask;obtain⟨mk,t⟩:∃mk:Nat,s.mask=mk:=⟨s.mask.toNat,U⟩;by_cases A:s.kind=5
 ·refine fo func37 ntmps37 ?_;unfold ay;refine rn ?_;intros;refine rq [5] (xs:=[.tmp 29]) (fs:=[ay gl]) (vs:=[.int .i64 s.at_]) J J call94 rE J (TT gl s.at_ w.keys _ I) ?_;rintro _ _ ⟨u,y,rfl,rfl⟩;by_cases b:0<=s.at_/\s.at_<w.fl.length
  ·have g:=xT j b;have Q:=qU _ g;rw[zX b];have e:w.eC c s=w.eJ c (w.fl.getD s.at_.toNat (0,aF.zero)).1 ((w.fl.getD s.at_.toNat (0,aF.zero)).2,0):=by unfold aD.eC;rw[an b];simp only[an A];rw[ai U,ai U]
   rw[e];generalize w.fl.getD s.at_.toNat (0,aF.zero)=x at*
   refine rn ?_;intros;refine cb (L':=dh d gh gl vs gs c w (By u x.2.bu::M)) ?_ rP;refine ca [] call96 (CC (k:=k) d gh gl vs gs c w x.1 u x.2.bu (By u x.2.bu::M) j p h l (gr 0 rfl) y U) ?_;rw[sX x.2 g];rintro _ _ ⟨rfl,rfl⟩;exact fX
  ·rw[Ak b];have e:w.eC c s=(w,24):=by unfold aD.eC;rw[ai b]
   rw[e];refine rn ?_;intros;refine fr ?_;exact⟨_,ar (oL h l M) rP,rfl,rfl⟩
 ·refine fo func37 ntmps37 ?_;unfold ay;refine rn ?_;intros;refine rq [5] (xs:=[.tmp 29]) (fs:=[ay gl]) (vs:=[.int .i64 s.at_]) J J call93 rE J (ZS gl s.at_ w.keys _ I U) ?_;rintro _ _ ⟨u,y,rfl,rfl⟩;by_cases b:0<=s.at_/\s.at_<w.fl.length
  ·have g:=xT j b;have Q:=qU _ g;rw[zX b];obtain⟨a,i⟩:∃a:aD,a={w with fl:=dQ w.fl s.at_}:=⟨_,rfl⟩;have P:dE k c a:=by rw[i];exact j.tk s.at_
   have q:dQ w.keys s.at_=a.keys:=by rw[i];exact(Nj _ _ _).symm
   have o:gs.length=a.nodes.length:=by rw[i];exact l
   have r:∀N,dh d gh gl vs gs c a N=eG d gh gl vs::eZ vs gs::aA (cQ c gs w.nodes)::bL gh c w.aO::cx gl a.keys::N:=λN=>by rw[i]
   have e:w.eC c s=if s.kind=6 then(a,0)else a.eJ c (w.fl.getD s.at_.toNat (0,aF.zero)).1 (if s.kind=7 then kE (w.fl.getD s.at_.toNat (0,aF.zero)).2 s.bit s.mask else((w.fl.getD s.at_.toNat (0,aF.zero)).2,0)):=by unfold aD.eC;rw[an b];simp only[ai A];rw[<-i]
   rw[e,q];have H:=JH g s.bit s.mask;generalize w.fl.getD s.at_.toNat (0,aF.zero)=x at*
   by_cases C:s.kind=6
   ·rw[an C];refine rn ?_;intros;refine fr ?_;refine⟨_,ar (oL (gh:=gh) (gl:=gl) (vs:=vs) h o M) ?_,rfl,rfl⟩;rw[r];exact rP
   ·rw[ai C];by_cases F:s.kind=7
    ·rw[an F];have n:cV (ib x.2.bu (s.bit%(8*x.2.bu.length)).toNat mk)=kE x.2 s.bit s.mask:=by rw[<-H,t,dc]
     clear H;have S:(((s.bit%(8*x.2.bu.length)).toNat:Nat):Int)=s.bit%(8*x.2.bu.length):=by
      have hp:0<x.2.bu.length:=by unfold aF.bu;rw[nJ];omega
      have h1:=sY s.bit (show(8*(x.2.bu.length:Int))≠0 by omega);omega
     refine rn ?_;intros;rw[t];refine ca [] call95 (Tj u x.2.bu s.bit (s.bit%(8*x.2.bu.length)).toNat mk _ (gr 1 rfl) U U L.bit (λ_=>S)) ?_;rintro z _ ⟨W,rfl⟩;obtain⟨f,m⟩:∃f,f=ib x.2.bu (s.bit%(8*x.2.bu.length)).toNat mk:=⟨_,rfl⟩;have c8:f.length=x.2.bu.length:=by rw[m];exact pg _ _ _ _
     rw[<-m]at n⊢
     rw[t]at n;clear m;refine rn ?_;intros;refine cb (L':=dh d gh gl vs gs c a (By z f::M)) ?_ (by rw[r];exact rP);refine ca [] call96 (CC (k:=k) d gh gl vs gs c a x.1 z f (By z f::M) P p h o (gr 0 rfl) W U) ?_;rw[n];rintro _ _ ⟨rfl,rfl⟩;exact fX
    ·rw[ai F];refine rn ?_;intros;refine cb (L':=dh d gh gl vs gs c a (By u x.2.bu::M)) ?_ (by rw[r];exact rP);refine ca [] call96 (CC (k:=k) d gh gl vs gs c a x.1 u x.2.bu (By u x.2.bu::M) P p h o (gr 0 rfl) y U) ?_;rw[sX x.2 g];rintro _ _ ⟨rfl,rfl⟩;exact fX
  ·rw[Ak b];have e:w.eC c s=(w,24):=by unfold aD.eC;rw[ai b]
   have q:dQ w.keys s.at_=w.keys:=by unfold dQ;rw[ai (by rw[V];exact b)]
   rw[e,q];refine rn ?_;intros;refine fr ?_;exact⟨_,ar (oL h l M) rP,rfl,rfl⟩
end
end
section
theorem ZM{P:Program}{f:Nat->Value}{L:List aa}{d:Nat}{pos:String}{a:Addr}(hx:aH f x=.pointer (some a))(hy:aH f y=.pointer none)(c:P.underlying xt=some (.pointer e)):aP P ⟨some d,.binOp .neq xt x y yt,ty,pos,af,gd⟩ f L (.bool true):=pr hx hy (λw=>by simp[eqGuard]) (λw=>by
  have b:(Op.equal xt (.pointer (some a)) (.pointer none)).run P w=.ok false w:=by show(Op.equalIn (9999+1) xt (.pointer (some a)) (.pointer none)).run P w=_;rw[Op.equalIn];simp[cX c]
  simp only[binOp,fe,b,fE,fT];rfl)
set_option maxRecDepth 20000 attribute [local irreducible] Ex aM Fn bI bJ bV fin meet ch aX bZ aP aN aI Rd aK Row ao Sub bk bP bS bN bg bR Hid bY
section
attribute [local irreducible] aA bD bL cx cQ
theorem Rg(f gh gl:Nat)(vs:Value)(gs:List Ptr)(c:aJ)(w:aD)(s:cB)(M:List aa)(l:dE k c w)(o:k<=198)(b:s.kind=8\/s.kind=9\/s.kind=10)(i:O1 vs)(d:gs.length=w.nodes.length):
  Fn prog 38 #[ay f,.agg (ab.cells s).toArray] (dh f gh gl vs gs c w M)
   λv L'=>v=.int .i64 (w.dj c s).2/\L'=bz f c (w.dj c s).1::M:=by
 have m:=l.n5;by_cases a:w.has s.r
 ·have p:=a.1;have q:=a.2;have r:s.r<gs.length:=U;refine fo func38 ntmps38 ?_;refine rn ?_;(repeat(first|intro(g:Nat)|intro h));revert g;intro n;refine ca [2,2] call39 (sK f gh gl vs gs c w s.r _ d m.1) ?_;rintro _ _ ⟨rfl,rfl⟩;rw[bf a];refine rn ?_;(repeat(first|intro(g:Nat)|intro h));refine oE ?_;(repeat(first|intro(g:Nat)|intro h));rw[<-pq U];refine fZ J J J (Ls J J) ?_;refine mn ?_;(repeat(first|intro(g:Nat)|intro h));rcases b with b|b|b
  ·have e:w.dj c s=(w.aZ s.r (w.node s.r).db,0):=by unfold aD.dj;rw[an a,an b]
   rw[e];refine rn ?_;(repeat(first|intro(g:Nat)|intro h));refine cb (L':=bD (gs.getD s.r.toNat ⟨0⟩).g c s.r (w.node s.r)::jk f gh gl vs gs c w s.r M) ?_ (ar (lh a _) rP);refine wy [] (xs:=[]) (vs:=[]) J J (VC _) rE J (G3 _ c s.r (w.node s.r) _) ?_;rintro _ _ rfl;refine rn ?_;(repeat(first|intro(g:Nat)|intro h));refine fr ?_;exact⟨_,vX a _ i d M,rfl,rfl⟩
  ·have e:w.dj c s=(w.aZ s.r ((w.node s.r).start c s.r).1,((w.node s.r).start c s.r).2):=by unfold aD.dj;rw[an a,ai U,an b]
   rw[e];refine rn ?_;(repeat(first|intro(g:Nat)|intro h));refine cb (L':=bD (gs.getD s.r.toNat ⟨0⟩).g c s.r (w.node s.r)::jk f gh gl vs gs c w s.r M) ?_ (ar (lh a _) rP);refine wy [] (xs:=[]) (vs:=[]) J J (Rf _) rE J (FA (k:=k) _ c s.r (w.node s.r) _ (l.node a) U) ?_;rintro _ _ ⟨rfl,rfl⟩;refine rn ?_;(repeat(first|intro(g:Nat)|intro h));refine fr ?_;exact⟨_,vX a _ i d M,rfl,rfl⟩
  ·have e:w.dj c s=(w.aZ s.r ((w.node s.r).cut s.keep),0):=by unfold aD.dj;rw[an a,ai U,ai U]
   rw[e];refine rn ?_;(repeat(first|intro(g:Nat)|intro h));refine cb (L':=bD (gs.getD s.r.toNat ⟨0⟩).g c s.r (w.node s.r)::jk f gh gl vs gs c w s.r M) ?_ (ar (lh a _) rP);refine wy [] (xs:=[.tmp 50]) (vs:=[.int .i64 s.keep]) J J (OX _ _) rE J (OH _ c s.r (w.node s.r) s.keep _) ?_;rintro _ _ rfl;refine rn ?_;(repeat(first|intro(g:Nat)|intro h));refine fr ?_;exact⟨_,vX a _ i d M,rfl,rfl⟩
 ·refine fo func38 ntmps38 ?_;unfold ay;refine rn ?_;(repeat(first|intro(g:Nat)|intro h));revert g;intro n;refine ca [2,2] call39 (sK f gh gl vs gs c w s.r _ d m.1) ?_;rintro _ _ ⟨rfl,rfl⟩;rw[bd a];by_cases j:s.r=5
  ·refine rn ?_;intros;refine cH J J J (ZM J J J) ?_;refine rn ?_;intros;refine cH J J J (Ls J J) ?_;rcases b with b|b|b
   ·have e:w.dj c s=({w with aO:=w.aO.db},0):=by unfold aD.dj;rw[ai a,an j,an b]
    rw[e];refine rn ?_;intros;refine wy [4] (xs:=[]) (vs:=[]) J J (UM _) rE J (G1 gh c w.aO _) ?_;rintro _ _ rfl;refine rn ?_;intros;refine fr ?_;exact⟨_,ar (oL (w:={w with aO:=w.aO.db}) (gh:=gh) (gl:=gl) i d M) rP,rfl,rfl⟩
   ·have e:w.dj c s=({w with aO:=(w.aO.start c).1},(w.aO.start c).2):=by unfold aD.dj;rw[ai a,an j,ai U,an b]
    rw[e];refine rn ?_;intros;refine wy [4] (xs:=[]) (vs:=[]) J J (RI _) rE J (Fc (k:=k) gh c w.aO _ l.aO U) ?_;rintro _ _ ⟨rfl,rfl⟩;refine rn ?_;intros;refine fr ?_;exact⟨_,ar (oL (w:={w with aO:=(w.aO.start c).1}) (gh:=gh) (gl:=gl) i d M) rP,rfl,rfl⟩
   ·have e:w.dj c s=({w with aO:=w.aO.cut s.keep},0):=by unfold aD.dj;rw[ai a,an j,ai U,ai U]
    rw[e];refine rn ?_;intros;refine wy [4] (xs:=[.tmp 50]) (vs:=[.int .i64 s.keep]) J J (WN _ _) rE J (P0 gh c w.aO s.keep _) ?_;rintro _ _ rfl;refine rn ?_;intros;refine fr ?_;exact⟨_,ar (oL (w:={w with aO:=w.aO.cut s.keep}) (gh:=gh) (gl:=gl) i d M) rP,rfl,rfl⟩
  ·have e:w.dj c s=(w,1):=by unfold aD.dj;rw[ai a,ai j]
   rw[e];refine rn ?_;intros;refine fr ?_;exact⟨_,ar (oL i d M) rP,rfl,rfl⟩
end
end
section
theorem wG(b:eO k c r st)(h:(st.push c r).2=0):(st.push c r).1.cM:=by
 unfold aG.push at h⊢
 by_cases a:st.up=false
 ·rw[an a]at h;cases h
 rw[ai a]at h⊢
 have a:st.up=true:=by cases h:st.up with
  |true=>rfl
  |false=>exact absurd h a
 by_cases d:st.wait=[]
 ·rw[an d]at h;cases h
 rw[ai d];obtain⟨i,j,e⟩:=b.wait a;have f:=b.cm.q;have g:=b.cm.w;have l:st.wait.length≠0:=λh=>d (dZ h);refine LM b.r5 (by rw[dy];omega) (λh=>?_) (λy hy=>e y (mM hy));have:(st.wait.take (min (max c.w 0) st.wait.length).toNat).length=0:=by rw[h];rfl
 rw[dy]at this;omega
theorem pP(b:eO k c r st)(d:k<=200){kk:Int}(e:kk=3\/kk=5)(h:(st.tell r kk).2=0):(st.tell r kk).1.cM:=by
 unfold aG.tell at h⊢
 by_cases a:st.up=false
 ·rw[an a]at h;cases h
 rw[ai a];have a:st.up=true:=by cases h:st.up with
  |true=>rfl
  |false=>exact absurd h a
 exact ze e b.r5 (b.cP d a)
theorem CG{gh gl:Nat}{vs:Value}(b:w.has r)(p:aF×Int)(d:O1 vs)(a:gs.length=w.nodes.length)(M:List aa):
  Sub (bz k c (w.send p).1::M) (bD (gs.getD r.toNat ⟨0⟩).g c r (w.node r)::eG k gh gl vs::cx gl (if p.2=0 then w.keys++[(5,p.1.bu)]else w.keys)::eZ vs gs::qD c gs w r::bL gh c w.aO::M):=by
 by_cases h:p.2=0
 ·have e:(w.send p).1={w with fl:=w.fl++[(5,p.1)]}:=by unfold aD.send;rw[an h]
  have f:w.keys++[(5,p.1.bu)]=({w with fl:=w.fl++[(5,p.1)]}:aD).keys:=by unfold aD.keys;rw[dA];rfl
  rw[e,an h,f];exact ar (Ar (w:={w with fl:=w.fl++[(5,p.1)]}) (gh:=gh) (gl:=gl) (vs:=vs) (gs:=gs) b d a M) rP
 ·have e:(w.send p).1=w:=by unfold aD.send;rw[ai h]
  rw[e,ai h];exact ar (Ar (gh:=gh) (gl:=gl) (vs:=vs) (gs:=gs) b d a M) rP
set_option maxRecDepth 20000 attribute [local irreducible] Ex aM Fn bI bJ bV fin meet ch aX bZ aP aN aI Rd aK Row ao Sub bk bP bS bN bg bR Hid bY
section
attribute [local irreducible] bG cC aA df
theorem Tc(gn:Nat)(c:aJ)(r:Int)(st:aG)(e:Ed)(M:List aa)(l:eO k c r st)(g:k<=200)(h:e.key.length<=1000)(j:e.value.length<=1000):Fn prog 40 #[ay gn,.agg (ab.cells e).toArray] (bD gn c r st::M)
  λv L'=>∃y:Ev,v=.tuple #[.agg (ab.cells y).toArray,.int .i64 (st.edit c r e).2]/\L'=bD gn c r (st.edit c r e).1::M:=by
 refine oD (λa dv ds vl sent b i o d=>?_) (λa dv ds x d m=>Uu gn c r st e dv ds x M l g h j a d m);have f:st.edit c r e=(st,18):=by
  have:st.dg c r e=18:=by unfold aG.dg;rw[an a]
  unfold aG.edit;rw[this,an (by simp)]
 rw[f];refine fo func40 ntmps40 ?_;refine rn ?_;intros;refine fr ?_;exact⟨_,ar (qC a d M) rP,Ev.zero,rfl,rfl⟩
attribute [local irreducible] bD bL cx cQ bz
theorem sI(a:Nat)(c:aJ)(w:aD)(s:cB)(M:List aa)(j:dE k c w)(x:k<=198)(o:s.Ok):Fn prog 17 #[ay a,.agg (ab.cells s).toArray] (bz a c w::M)
  λv L'=>v=.int .i64 (w.step c s).2/\L'=bz a c (w.step c s).1::M:=by
 have A:=j.n5;refine bz.fn λgh gl vs gs f d=>?_;by_cases l:4<=s.kind/\s.kind<=7
 ·have e:w.step c s=w.eC c s:=by unfold aD.step;rw[an l]
  rw[e];have m:s.kind=4\/s.kind=5\/s.kind=6\/s.kind=7:=U;refine fo func17 ntmps17 ?_;rcases m with h|h|h|h<;>
  ·refine rn ?_;(repeat(first|intro(g:Nat)|intro h));refine ca [5,5,5,5,5] call37 (VD (k:=k) a gh gl vs gs c w s _ j x o f d) ?_;rintro _ _ ⟨rfl,rfl⟩;refine rn ?_;(repeat(first|intro(g:Nat)|intro h));refine fr ?_;exact⟨_,rP,rfl,rfl⟩
 by_cases n:8<=s.kind/\s.kind<=10
 ·have e:w.step c s=w.dj c s:=by unfold aD.step;rw[ai l,an n]
  rw[e];have m:s.kind=8\/s.kind=9\/s.kind=10:=U;refine fo func17 ntmps17 ?_;rcases m with h|h|h<;>
  ·refine rn ?_;(repeat(first|intro(g:Nat)|intro h));refine ca [5,5,5,5,5] call38 (Rg (k:=k) a gh gl vs gs c w s _ j x U f d) ?_;rintro _ _ ⟨rfl,rfl⟩;refine rn ?_;(repeat(first|intro(g:Nat)|intro h));refine fr ?_;exact⟨_,rP,rfl,rfl⟩
 have P:s.kind≠4/\s.kind≠5/\s.kind≠6/\s.kind≠7/\s.kind≠8/\s.kind≠9/\s.kind≠10:=U;refine fo func17 ntmps17 ?_;refine rn ?_;(repeat(first|intro(g:Nat)|intro h));revert g;intro F;have z:=o.key;have C:=o.value;refine ca [2,2] call39 (sK a gh gl vs gs c w s.r _ d A.1) ?_;rintro _ _ ⟨rfl,rfl⟩;by_cases b:w.has s.r
 case neg=>
  rw[bd b];have e:w.step c s=(w,1):=by unfold aD.step;rw[ai l,ai n,an b]
  rw[e];refine rn ?_;intros;refine fr ?_;exact⟨_,ar (oL f d M) rP,rfl,rfl⟩
 rw[bf b];have e:w.step c s=if s.kind=0 then(w.aZ s.r ((w.node s.r).edit c s.r s.ed).1,((w.node s.r).edit c s.r s.ed).2)else
   if s.kind=1 then w.send ((w.node s.r).push c s.r)else
   if s.kind=2 then w.send ((w.node s.r).tell s.r 3)else
   if s.kind=3 then w.send ((w.node s.r).tell s.r 5)else
   if s.kind=11 then(w.aZ s.r ((w.node s.r).state s.r).1,((w.node s.r).state s.r).2)else(w,1):=by unfold aD.step;rw[ai l,ai n,ai (by simpa using b)]
 rw[e];have Q:=b.1;have R:=b.2;have S:s.r<gs.length:=U;clear e;refine rn ?_;intros;refine ln ?_;intros;rw[<-pq U];have i:=j.node b;obtain⟨L,I,H⟩:=yF j;by_cases p:s.kind=0
 ·rw[an p];refine rn ?_;intros;refine cb (L':=bD (gs.getD s.r.toNat ⟨0⟩).g c s.r (w.node s.r)::jk a gh gl vs gs c w s.r M) ?_ (ar (lh b _) rP);refine ca [] call40 (Tc (k:=k) _ c s.r (w.node s.r) s.ed _ i U z C) ?_;rintro _ _ ⟨y,rfl,rfl⟩;refine rn ?_;intros;refine fr ?_;exact⟨_,ar (vX b _ f d M) rP,rfl,rfl⟩
 rw[ai p];by_cases q:s.kind=1
 ·rw[an q];refine rn ?_;intros;refine cb (L':=bD (gs.getD s.r.toNat ⟨0⟩).g c s.r (w.node s.r)::eG a gh gl vs::cx gl w.keys::eZ vs gs::qD c gs w s.r::bL gh c w.aO::M) ?_ (ar (B:=bD (gs.getD s.r.toNat ⟨0⟩).g c s.r (w.node s.r)::jk a gh gl vs gs c w s.r M) rP (ar (lh b _) rP));refine ca [] call41 (DM 42 ((w.node s.r).push c s.r) a gh gl _ c s.r (w.node s.r) vs w.keys _ call42 (λM=>KL (k:=k) _ c s.r (w.node s.r) M i U) U (λh=>by have:=qU _ (wG i h);omega)) ?_;rintro _ _ ⟨rfl,rfl⟩;refine rn ?_;intros;refine fr ?_;exact⟨_,CG b _ f d M,rfl,rfl⟩
 rw[ai q];by_cases t:s.kind=2
 ·rw[an t];refine rn ?_;intros;refine cb (L':=bD (gs.getD s.r.toNat ⟨0⟩).g c s.r (w.node s.r)::eG a gh gl vs::cx gl w.keys::eZ vs gs::qD c gs w s.r::bL gh c w.aO::M) ?_ (ar (B:=bD (gs.getD s.r.toNat ⟨0⟩).g c s.r (w.node s.r)::jk a gh gl vs gs c w s.r M) rP (ar (lh b _) rP));refine ca [] call41 (DM 43 ((w.node s.r).tell s.r 3) a gh gl _ c s.r (w.node s.r) vs w.keys _ call43 (λM=>MG (k:=k) _ c s.r (w.node s.r) M i U) U (λh=>by have:=qU _ (pP i U (.inl rfl) h);omega)) ?_;rintro _ _ ⟨rfl,rfl⟩;refine rn ?_;intros;refine fr ?_;exact⟨_,CG b _ f d M,rfl,rfl⟩
 rw[ai t];by_cases u:s.kind=3
 ·rw[an u];refine rn ?_;intros;refine cb (L':=bD (gs.getD s.r.toNat ⟨0⟩).g c s.r (w.node s.r)::eG a gh gl vs::cx gl w.keys::eZ vs gs::qD c gs w s.r::bL gh c w.aO::M) ?_ (ar (B:=bD (gs.getD s.r.toNat ⟨0⟩).g c s.r (w.node s.r)::jk a gh gl vs gs c w s.r M) rP (ar (lh b _) rP));refine ca [] call41 (DM 44 ((w.node s.r).tell s.r 5) a gh gl _ c s.r (w.node s.r) vs w.keys _ call44 (λM=>Iq (k:=k) _ c s.r (w.node s.r) M i U) U (λh=>by have:=qU _ (pP i U (.inr rfl) h);omega)) ?_;rintro _ _ ⟨rfl,rfl⟩;refine rn ?_;intros;refine fr ?_;exact⟨_,CG b _ f d M,rfl,rfl⟩
 rw[ai u];by_cases r:s.kind=11
 ·rw[an r];refine rn ?_;intros;refine cb (L':=bD (gs.getD s.r.toNat ⟨0⟩).g c s.r (w.node s.r)::jk a gh gl vs gs c w s.r M) ?_ (ar (lh b _) rP);refine ca [] call45 (Pw (k:=k) _ c s.r (w.node s.r) _ i U) ?_;rintro _ _ ⟨rfl,rfl⟩;refine rn ?_;intros;refine fr ?_;exact⟨_,vX b _ f d M,rfl,rfl⟩
 rw[ai r];refine rn ?_;intros;refine fr ?_;exact⟨_,ar (oL f d M) rP,rfl,rfl⟩
end
section
theorem O0(c:aJ)(gs:List Ptr)(a:List aG)(p:Ptr)(s:aG)(h:gs.length=a.length):cQ c (gs++[p]) (a++[s])=cQ c gs a++[bD p.g c a.length s]:=by
 unfold cQ;rw[bo,oV,wx,dA];congr 1
 ·refine xe λi hi=>?_;have e:i<a.length:=oI.1 hi;have f:i<gs.length:=U;have b:(gs++[p]).getD i ⟨0⟩=gs.getD i ⟨0⟩:=by simp only[cu,qH f]
  have d:(a++[s]).getD i aG.fresh=a.getD i aG.fresh:=by simp only[cu,qH e]
  rw[b,d]
 ·have b:(gs++[p]).getD a.length ⟨0⟩=p:=by rw[<-h];simp[cu]
  have d:(a++[s]).getD a.length aG.fresh=s:=by simp[cu]
  simp only[kq,EF,b,d]
def ja(c:aJ)(j:Nat):List aG:=(List.range j).map λ(i:Nat)=>(aG.fresh.start c i).1
attribute [local irreducible] aA bD bL cx cQ
theorem Hk(c:aJ)(M:List aa)(d:c.aW):Fn prog 21 #[.agg (ab.cells c).toArray] M
  λv L'=>∃a,v=.tuple #[ay a,.int .i64 0]/\L'=bz a c (aD.new c)::M:=by
 have x:=d.n;refine fo func21 ntmps21 ?_;refine rn ?_;(repeat(first|intro(g:Nat)|intro(v:Value)|intro(o:O1 _)|intro(cs:List Value)|intro(k:_=List.set _ _ _)|intro(zs:List _)|intro h));refine ca [] call55 (Ve c _ d) ?_;rintro _ _ ⟨gh,rfl,rfl⟩;refine rn ?_;(repeat(first|intro(g:Nat)|intro(v:Value)|intro(o:O1 _)|intro(cs:List Value)|intro(k:_=List.set _ _ _)|intro(zs:List _)|intro h));refine ca [] call56 (Xk _) ?_;rintro _ _ ⟨gl,rfl,rfl⟩;refine rn ?_;(repeat(first|intro(g:Nat)|intro(v:Value)|intro(o:O1 _)|intro(cs:List Value)|intro(k:_=List.set _ _ _)|intro(zs:List _)|intro h));rename_i b;revert g;intro a;obtain⟨N,i⟩:∃N:Nat,c.n=N:=⟨c.n.toNat,U⟩;rw[i];refine bF (L':=eG a gh gl (.slice none 0 0)::eZ (.slice none 0 0) []::aA (cQ c [] [])::bL gh c ((aY.fresh c).start c).1::cx gl []::ao b 23 (ab.cells c)::M) ?_ (bl _ (ar (cA (α:=Ptr) none 116 _) (ar (by unfold cQ;exact ly _) rP)));refine bm [24] (λz n L'=>∃(j:Nat) (vs:Value) (gs:List Ptr),j<=N/\z=N-j/\vs.oneCell'=true/\gs.length=j/\n=[.int .i64 j]/\L'=eG a gh gl vs::eZ vs gs::aA (cQ c gs (ja c j))::bL gh c ((aY.fresh c).start c).1::cx gl []::ao b 23 (ab.cells c)::M) N ⟨0,.slice none 0 0,[],U,rfl,rfl,rfl,rfl,rfl⟩ ?_;rintro z n s r ⟨j,vs,gs,u,rfl,q,e,rfl,rfl⟩;refine bp [1,6,23,24] rG (λt=>?_);have f:(ja c j).length=j:=by unfold ja;rw[bC,zd]
 by_cases w:j<N
 ·have p:ja c (j+1)=ja c j++[(aG.fresh.start c j).1]:=by unfold ja;rw[wx,dA];rfl
  refine rn ?_;(repeat(first|intro(g:Nat)|intro(v:Value)|intro h));refine ca [] call57 (Xm c j _ d U) ?_;rintro _ _ ⟨gn,rfl,rfl⟩;refine rn ?_;(repeat(first|intro(g:Nat)|intro(v:Value)|intro h));refine Ca (⟨gn⟩:Ptr) J J J J J J J J (λg=>?_);refine rn ?_;(repeat(first|intro(v:Value)|intro h));have m:=O0 c gs (ja c j) ⟨gn⟩ (aG.fresh.start c j).1 (by rw[f];exact e);rw[f]at m;refine aS ⟨N-(j+1),eG a gh gl v::eZ v (gs++[⟨gn⟩])::aA (cQ c (gs++[⟨gn⟩]) (ja c (j+1)))::bL gh c ((aY.fresh c).start c).1::cx gl []::ao b 23 (ab.cells c)::M,U,?_,j+1,v,gs++[⟨gn⟩],U,rfl,by assumption,by simp[e],av (aQ U) rfl,rfl⟩;rw[p,m];exact ar (B:=aA (cQ c gs (ja c j)++[bD gn c j (aG.fresh.start c j).1])::eG a gh gl v::eZ v (gs++[⟨gn⟩])::bL gh c ((aY.fresh c).start c).1::cx gl []::ao b 23 (ab.cells c)::M) rP (ar (so _ _) rP)
 ·obtain rfl:j=N:=U;refine rn ?_;intros;refine fr ?_;have l:(aD.new c).nodes=ja c j:=by unfold aD.new ja;rw[i,dc]
  refine⟨_,ar (oL (gh:=gh) (gl:=gl) (vs:=vs) (gs:=gs) q (by rw[l,f];exact e) M) ?_,a,rfl,rfl⟩;show Sub (eG a gh gl vs::eZ vs gs::aA (cQ c gs (aD.new c).nodes)::bL gh c ((aY.fresh c).start c).1::cx gl []::M) _;rw[l];exact rP
end
end
section
structure Wd(F:Fence):Prop where
 fn:∀f,F.fn f
 depth:F.depth=none
 calls:∀{n:Nat} {P:Program} {f:FuncId} {args:Array Value} {w:World} {R:Ending->World->Prop},Calls P f args w R->CallsIn F n P f args w R
 rows:∀{n:Nat} {P:Program} {r:String} {args:Array Value} {w:World} {R:Value->World->Prop},Rows P r args w R->RowsIn F n P r args w R
theorem JE{n:Nat}{P:Program}{r:String}{args:Array Value}{w:World}{R:Value->World->Prop}(h:Rows P r args w R):RowsIn Fence.wide n P r args w R:=λc cs a=>
 let ⟨v,w',hR,s⟩:=h c cs
 ⟨v,w',hR,stepsIn_wide.2 s⟩
theorem Wd.wide:Wd Fence.wide:=⟨λ_=>trivial,rfl,λh=>callsIn_wide.2 h,λh=>JE h⟩
theorem Wd.round(l:Nat):Wd (Fence.wide.inRound l):=⟨λ_=>trivial,rfl,λh=>CallsIn.inRound l (callsIn_wide.2 h),λh=>JE h⟩
def tP(o:Oper):Bool:=match o.op with| .defer _=>false|_=>true
theorem U4{F:Fence}(ρ:Operand->Value)(o:Oper)(h:tP o=true):o.semAt F.round ρ=execOp ρ o:=by
 cases F.round with
 |none=>rfl
 |some l=>exact Oper.semAt_some l ρ o (λc a=>by unfold tP at h;rw[a]at h;cases h)
theorem UF{F:Fence}(i:Wd F){n:Nat}{P:Program}{o:Oper}{a:Act}{next k:Act->World->Prop}{Q:Exit->Act->World->Prop}(g:∀a w,next a w->k a w)(j:∀c a w,Q (.panic c) a w->Q' (.panic c) a w)
  (l:¬LetsOut Q){r:Result Next}(h:o.upon P a next Q r):o.uponIn F n P a k Q' r:=by
 have hd:F.depth.isSome=true->1<=n:=λe=>by rw[i.depth]at e;cases e
 cases r with
 |halt x w'=>
  cases x with
  |panic v=>exact j _ _ _ h
  |_=>exact h.elim
 |ok nx w'=>
  cases nx with
  |value v=>exact g _ _ h
  |skip=>exact g _ _ h
  |defer d=>exact g _ _ h
  |enter f args=>
   refine⟨hd,i.calls (Calls.mono h λe m b=>?_)⟩;cases e with
   |returned v=>exact g _ _ b
   |panicked c=>exact j _ _ _ b
   |outgrown=>exact absurd b l
  |row r args=>exact⟨hd,i.rows (Rows.mono h λv m b=>g _ _ b)⟩
  |_=>exact h.elim
theorem ye{F:Fence}(e:Wd F){n:Nat}{P:Program}{ops:Array Oper}{Q Q':Exit->Act->World->Prop}(i:∀c a w,Q (.panic c) a w->Q' (.panic c) a w)(g:¬LetsOut Q)(d:List Oper)
  (j:∀a w,Q .normal a w->wpListIn F n P ops Q' d a w):∀(b:List Oper),b.all tP=true->∀a w,wpList P ops Q b a w->wpListIn F n P ops Q' (b++d) a w
 |[],_,a,w,h=>j a w h
 |o::b,hd,a,w,h=>by
  rw[vo,dT]at hd;show wpListIn F n P ops Q' (o::(b++d)) a w;have h:(if Region.wanted o (yielded ops a.tmps)then o.wp P a w (wpList P ops Q b) Q\/(o.asks P a w/\LetsOut Q)else wpList P ops Q b (a.put o.dst undef) w):=h;show(if Region.wanted o (yielded ops a.tmps)then o.wpIn F n P a w (wpListIn F n P ops Q' (b++d)) Q' else(∀f,o.about P w a.eval=some f->F.fn f)/\wpListIn F n P ops Q' (b++d) (a.put o.dst undef) w);split
  ·rename_i l;rw[an l]at h;rcases h with h|h
   ·refine⟨λf _=>e.fn f,?_⟩;rw[U4 a.eval o hd.1];exact UF e (λa w k=>ye e i g d j b hd.2 a w k) i g h
   ·exact absurd h.2 g
  ·rename_i l;rw[ai l]at h;exact⟨λf _=>e.fn f,ye e i g d j b hd.2 _ w h⟩
def Calm(Q:bx):Prop:=∀e f L,Q e f L->(∀c,e≠.panic c)/\e≠.outgrown
section
variable{P:Program}{n:Nat}{Q:bx}{f:Nat->Value}{L:List aa}
theorem Calm.lets{Q:bx}(h:Calm Q){D:List Deferred}:¬LetsOut (eN D n F w0 f0 ws Q):=λ⟨a,w,f,L,_,q⟩=>(h _ _ _ q).2 rfl
def fV(P:Program)(n:Nat)(ops:Array Oper)(l:List Oper)(Q:bx)(f:Nat->Value)(L:List aa):Prop:=
 ∀D F w0 f0 ws a w,gB D n F w0 f0 ws a w f L->(∀d,d∈jc l->ws d=true)->wpListIn Fence.wide 0 P ops (eN D n F w0 f0 ws Q) l a w
theorem Ex.Dp{ops:Array Oper}(h:fV P n ops ops.toList Q f L):Ex P n (.region k ops false) Q f L:=λD F w0 f0 ws a w H b=>
 wpIn_wide.1 (wpIn_region_list (h D F w0 f0 ws a w H b))
theorem TZ(a b:List Oper):jc (a++b)=jc a++jc b:=by
 induction a with
 |nil=>rfl
 |cons o l ih=>rw[pY];cases h:o.dst<;>simp[jc,h,ih]
def uz(P:Program)(n:Nat)(ops:Array Oper)(a:List Oper)(Q:bx):bx
 | .normal,f,L=>fV P n ops a Q f L
 |_,_,_=>False
theorem fV.app{ops:Array Oper}(b e:List Oper)(hd:b.all tP=true)(h:aM P n ops b (uz P n ops e Q) f L):fV P n ops (b++e) Q f L:=λD F w0 f0 ws a w H g=>by rw[TZ]at g;refine ye (Q:=eN D n F w0 f0 ws (uz P n ops e Q)) Wd.wide (λc a w ⟨f,L,_,q⟩=>q.elim) (λ⟨a,w,f,L,_,q⟩=>q.elim) e ?_ b hd a w (h D F w0 f0 ws a w H λd hd=>g d (lk _ hd));rintro a w ⟨f,L,H,q⟩;exact q D F w0 f0 ws a w H λd hd=>g d (mT _ hd)
theorem fV.of{ops:Array Oper}{l:List Oper}(hd:l.all tP=true)(b:Calm Q)(h:aM P n ops l Q f L):fV P n ops l Q f L:=λD F w0 f0 ws a w H d=>by have:=ye (Q:=eN D n F w0 f0 ws Q) (Q':=eN D n F w0 f0 ws Q) (P:=P) (ops:=ops) (n:=0) Wd.wide (λc a w h=>h) b.lets [] (λa w h=>h) l hd a w (h D F w0 f0 ws a w H d);rwa[ck]at this
def ei(l:Nat)(P:Program)(n:Nat)(c:Code)(Q:bx)(f:Nat->Value)(L:List aa):Prop:=
 ∀D F w0 f0 ws a w,gB D n F w0 f0 ws a w f L->Cn c ws->c.wpIn (Fence.wide.inRound l) 0 P (eN D n F w0 f0 ws Q) a w
def vx(l:Nat)(P:Program)(n:Nat)(c:Code)(Q:bx):bx
 | .normal,f,L=>ei l P n c Q f L
 |e,f,L=>Q e f L
theorem Aq{l:Nat}{c:Code}(h:ei l P n c Q f L):vx l P n c Q .normal f L:=h
theorem Calm.vx{l:Nat}{c:Code}(h:Calm Q):Calm (vx l P n c Q):=λe f L q=>by
 cases e with
 |normal=>exact⟨(λc h=>by cases h),(λh=>by cases h)⟩
 |_=>exact h _ _ _ q
theorem Calm.bJ{a:Nat}(h:Calm Q):Calm (bJ a Q):=λe f L q=>by
 cases e with
 |exit k=>exact⟨(λc h=>by cases h),(λh=>by cases h)⟩
 |_=>exact h _ _ _ q
theorem ei.region{l e:Nat}{ops:Array Oper}(hd:ops.toList.all tP=true)(b:Calm Q)(h:aM P n ops ops.toList Q f L):ei l P n (.region e ops false) Q f L:=λD F w0 f0 ws a w H d=>by refine wpIn_region_list ?_;have:=ye (Q:=eN D n F w0 f0 ws Q) (Q':=eN D n F w0 f0 ws Q) (P:=P) (ops:=ops) (n:=0) (Wd.round l) (λc a w h=>h) b.lets [] (λa w h=>h) ops.toList hd a w (h D F w0 f0 ws a w H d);rwa[ck]at this
theorem ei.seq{l:Nat}{x y:Code}(h:ei l P n x (vx l P n y Q) f L):ei l P n (.seq x y) Q f L:=λD F w0 f0 ws a w H b=>
 wpIn_seq (wpIn_mono (h D F w0 f0 ws a w H λd hd=>b d (lk _ hd)) λe a w ⟨f,L,H,q⟩=>by
  cases e with
  |normal=>exact q D F w0 f0 ws a w H λd hd=>b d (mT _ hd)
  |_=>exact⟨f,L,H,q⟩)
theorem ei.skip{l:Nat}(h:Q .normal f L):ei l P n .skip Q f L:=λD F w0 f0 ws a w H b=>wpIn_skip ⟨f,L,H,h⟩
theorem ei.wa{l:Nat}{c:Operand}{x y:Code}(b:aH f c=.bool true)(h:ei l P n x Q f L):ei l P n (.cond c x y) Q f L:=λD F w0 f0 ws a w H e=>
 wpIn_cond_true (by rw[H.2.1.eval];exact b) (h D F w0 f0 ws a w H λd hd=>e d (lk _ hd))
theorem ei.te{l:Nat}{c:Operand}{x y:Code}(b:aH f c=.bool false)(h:ei l P n y Q f L):ei l P n (.cond c x y) Q f L:=λD F w0 f0 ws a w H e=>
 wpIn_cond_false (by rw[H.2.1.eval];exact b) (h D F w0 f0 ws a w H λd hd=>e d (mT _ hd))
theorem ei.block{l d:Nat}{c:Code}(h:ei l P n c (bJ d Q) f L):ei l P n (.block d c) Q f L:=λD F w0 f0 ws a w H g=>
 wpIn_block (wpIn_mono (h D F w0 f0 ws a w H g) λe a w ⟨f,L,H,q⟩=>by
  cases e with
  |exit k=>
   simp only[Exit.inBlock];by_cases b:k=d
   ·rw[an b];subst b;refine⟨f,L,H,?_⟩;simp only[Go.Proofs.YtogcfijlhpaeeaaGreat.bJ]at q;rw[show Nat.beq k k=true by simp]at q;exact q
   ·rw[ai b];refine⟨f,L,H,?_⟩;simp only[Go.Proofs.YtogcfijlhpaeeaaGreat.bJ]at q;cases hb:Nat.beq k d with
    |true=>exact absurd (mj hb) b
    |false=>rw[hb]at q;exact q
  |_=>exact⟨f,L,H,q⟩)
end
end
def mH:=@Calm.bJ
def AL:=@ei.region
end Go.Proofs.YtogcfijlhpaeeaaGreat
