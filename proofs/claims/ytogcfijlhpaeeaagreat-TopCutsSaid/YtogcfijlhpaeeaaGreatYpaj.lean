/- Texts. No condition. -/
import Derived.Test.YtogcfijlhpaeeaaGreatYpai
open Go.RowKit Go.Proofs.Tryz
set_option linter.all false
set_option maxHeartbeats 32000000
namespace Go.Proofs.YtogcfijlhpaeeaaGreat
variable{k:Nat}{r:Int}{L M:List aa}{v vl dv:Value}{f:Nat->Value}{P:Program}{p:Prop}{R:Value->List aa->Prop}{up:Bool}{ds:DS}{op:Oper}
section
set_option maxRecDepth 20000 attribute [local irreducible] Ex aM Fn bI bJ bV fin meet ch aX bZ aP aN aI Rd aK Row ao Sub bk bP bS bN bg bR Hid bY
section
attribute [local irreducible] bG cC
theorem Yh(gn:Nat)(c:aJ)(r:Int)(dv vl:Value)(sent:Int)(b i o:Value)(M:List aa):
  Fn prog 42 #[ay gn] (cd gn c r false dv vl sent b i o::M)
   λv L'=>v=.tuple #[.slice none 0 0,.int .i64 18]/\L'=cd gn c r false dv vl sent b i o::M:=by
 refine fo func42 ntmps42 ?_;exact bh
theorem PN(gn a:Nat)(c:aJ)(r:Int)(dv vl:Value)(sent:Int)(b i:Value)(most e d:Int)(v0:Value)(M:List aa):
  Fn prog 42 #[ay gn] (ec a most e d v0::aL v0 []::cd gn c r true dv vl sent b i (ay a)::M)
   λv L'=>v=.tuple #[.slice none 0 0,.int .i64 24]/\L'=ec a most e d v0::aL v0 []::cd gn c r true dv vl sent b i (ay a)::M:=by
 refine fo func42 ntmps42 ?_;refine rn ?_;intros;refine ca [] call108 (NF a most e d v0 [] _) ?_;rintro _ _ ⟨rfl,rfl⟩;exact bh
theorem UL(gn d:Nat)(c:aJ)(r:Int)(dv vl:Value)(sent:Int)(b i:Value)(most f g:Int)(v0:Value)(a x:List Ev)(M:List aa)(m:a≠[])(s:a.length<=1000000)
  (hx:x=a.take (min (max f 0) a.length).toNat)(l:∀e∈x,e.ed.key.length<=1000/\e.ed.value.length<=1000)(j:(bw 1 r x).cM):
  Fn prog 42 #[ay gn] (ec d most f g v0::aL v0 a::cd gn c r true dv vl sent b i (ay d)::M)
   λv L'=>∃u,O1 u/\v=.tuple #[u,.int .i64 0]/\L'=bB u (bw 1 r x).bu::ec d most f g v0::aL v0 a::cd gn c r true dv vl sent b i (ay d)::M:=by
 have q:a.length≠0:=λh=>m (dZ h);have t:x.length<=1000000:=by rw[hx,dy];omega
 refine fo func42 ntmps42 ?_;refine rn ?_;intros;refine ca [] call108 (NF d most f g v0 a _) ?_;rintro _ _ ⟨rfl,rfl⟩;refine rn ?_;intros;refine tR ?_;intros;refine ma [] call110 (QO d most f g v0 a _ U) ?_;rintro p _ ⟨n,rfl⟩;rw[<-hx];refine mw ?_;intros
 (repeat' (first|(refine m1 ?_;intros)|(refine cG J J J (λh=>?_) (λh=>?_)<;>try(exfalso;omega))))
 refine bX J J J ?_;refine bc [] J call109 rE J (zy (bw 1 r x) p _ rD n (by show x.length<=_;omega) l) ?_;rintro _ _ (⟨k,_,_⟩|⟨_,u,o,rfl,rfl⟩)
 ·exact absurd j k
 refine mw ?_;intros
 (repeat' (first|(refine m1 ?_;intros)|(refine cG J J J (λh=>?_) (λh=>?_)<;>try(exfalso;omega))))
 refine rn ?_;intros;refine fr ?_;exact⟨_,rB,u,o,rfl,rfl⟩
end
section
attribute [local irreducible] bG cC
theorem Yj(gn gi:Nat)(c:aJ)(r e:Int)(dv vl:Value)(sent:Int)(b o:Value)(most:Int)(a:aj)(v0:Value)(d:List Ev)(M:List aa)(f:0<=r/\r<5)
  (g:max sent (min e (a.get r.toNat))=sent):
  Fn prog 139 #[ay gn,.int .i64 e] (dU gi most a v0::aL v0 d::cd gn c r true dv vl sent b (ay gi) o::M)
   λv L'=>v=.int .i64 0/\L'=dU gi most a v0::aL v0 d::cd gn c r true dv vl sent b (ay gi) o::M:=by
 refine fo func139 ntmps139 ?_;refine rn ?_;intros;refine pj ?_;intros;refine ma [] call100 (wO gi most a v0 d _) ?_;rintro _ _ ⟨rfl,rfl⟩;refine mw ?_;intros
 (repeat' (first|(refine m1 ?_;intros)|(refine cG J J J (λh=>?_) (λh=>?_)<;>try(exfalso;omega))))
 refine fZ J J J (pU J J J J J f.1 f.2) ?_
 (repeat' (first|(refine m1 ?_;intros)|(refine cG J J J (λh=>?_) (λh=>?_)<;>try(exfalso;omega))))
 have i:max sent (min e ((⟨a.a,a.b,a.c,a.d,a.e⟩:aj).get r.toNat))=sent:=g;rw[i];exact bh
end
section
attribute [local irreducible] bG cC
theorem QQ(gn gi e:Nat)(c:aJ)(r g d:Int)(dv vl:Value)(sent:Int)(b:Value)(most:Int)(a:aj)(v0 u:Value)(f w:List Ev)(p t q:Int)(s:DS)(M:List aa)(i:0<=r/\r<5)
  (k:max sent (min g (a.get r.toNat))=d)(o:d≠sent)(m:(⟨3,r,d,aj.zero,[]⟩:aF).aW)(j:s.b.length+(⟨3,r,d,aj.zero,[]⟩:aF).bytes.length<=140737488355328)
  (n:(s.write (⟨3,r,d,aj.zero,[]⟩:aF).bytes).2=18):
  Fn prog 139 #[ay gn,.int .i64 g] (dU gi most a v0::aL v0 f::cd gn c r true dv vl sent b (ay gi) (ay e)::cC dv s::M)
   λv L'=>∃gd,v=.int .i64 18/\L'=cd gn c r false (ay gd) vl sent b (ay gi) (ay e)::bG gd (s.write (⟨3,r,d,aj.zero,[]⟩:aF).bytes).1::dU gi most a v0::aL v0 f::M:=by
 refine fo func139 ntmps139 ?_;refine rn ?_;intros;refine pj ?_;intros;refine ma [] call100 (wO gi most a v0 f _) ?_;rintro _ _ ⟨rfl,rfl⟩;refine mw ?_;intros
 (repeat' (first|(refine m1 ?_;intros)|(refine cG J J J (λh=>?_) (λh=>?_)<;>try(exfalso;omega))))
 refine fZ J J J (pU J J J J J i.1 i.2) ?_
 (repeat' (first|(refine m1 ?_;intros)|(refine cG J J J (λh=>?_) (λh=>?_)<;>try(exfalso;omega))))
 have l:max sent (min g ((⟨a.a,a.b,a.c,a.d,a.e⟩:aj).get r.toNat))=d:=k;rw[l];refine rn ?_;intros;refine ca [3,3] call103 (xP gn c r true dv vl sent b (ay gi) (ay e) s ⟨3,r,d,aj.zero,[]⟩ (.slice none 0 0) _ (mC _) rfl (by simp) (by simp) m j) ?_;rintro _ _ ⟨gd,rfl,rfl⟩;rw[n];refine rn ?_;intros;refine fr ?_;exact⟨_,rB,gd,rfl,rfl⟩
theorem ZT(gn gi f:Nat)(c:aJ)(r m a:Int)(dv vl:Value)(sent:Int)(b:Value)(most:Int)(d:aj)(v0 i:Value)(j e:List Ev)(k l:Int)(s:DS)(M:List aa)(n:0<=r/\r<5)(z:O1 i)
  (q:max sent (min m (d.get r.toNat))=a)(A:a≠sent)(o:cD a)(w:0<=sent/\sent<=1000000000)(y:e.length<=1000000000)(u:(⟨3,r,a,aj.zero,[]⟩:aF).aW)(p:s.b.length+(⟨3,r,a,aj.zero,[]⟩:aF).bytes.length<=140737488355328)
  (x:(s.write (⟨3,r,a,aj.zero,[]⟩:aF).bytes).2=0):
  Fn prog 139 #[ay gn,.int .i64 m] (dU gi most d v0::aL v0 j::cd gn c r true dv vl sent b (ay gi) (ay f)::cC dv s::ec f k l sent i::aL i e::M)
   λv L'=>∃gd g,v=.int .i64 0/\O1 g/\L'=ec f k l (fC sent e a) g::aL g (e.drop (fC sent e a-sent).toNat)::cd gn c r true (ay gd) vl (fC sent e a) b (ay gi) (ay f)::bG gd (s.write (⟨3,r,a,aj.zero,[]⟩:aF).bytes).1::dU gi most d v0::aL v0 j::M:=by
 refine fo func139 ntmps139 ?_;refine rn ?_;intros;refine pj ?_;intros;refine ma [] call100 (wO gi most d v0 j _) ?_;rintro _ _ ⟨rfl,rfl⟩;refine mw ?_;intros
 (repeat' (first|(refine m1 ?_;intros)|(refine cG J J J (λh=>?_) (λh=>?_)<;>try(exfalso;omega))))
 refine fZ J J J (pU J J J J J n.1 n.2) ?_
 (repeat' (first|(refine m1 ?_;intros)|(refine cG J J J (λh=>?_) (λh=>?_)<;>try(exfalso;omega))))
 have t:max sent (min m ((⟨d.a,d.b,d.c,d.d,d.e⟩:aj).get r.toNat))=a:=q;rw[t];refine rn ?_;intros;refine ca [3,3] call103 (xP gn c r true dv vl sent b (ay gi) (ay f) s ⟨3,r,a,aj.zero,[]⟩ (.slice none 0 0) _ (mC _) rfl (by simp) (by simp) u p) ?_;rintro _ _ ⟨gd,rfl,rfl⟩;rw[x];refine rn ?_;intros;refine ca [5,5] call200 (Rq f k l sent a i e _ o w y z) ?_;rintro _ _ ⟨rfl,g,o',rfl⟩;refine rn ?_;intros;refine fr ?_;exact⟨_,rB,gd,g,rfl,o',rfl⟩
end
section
def xd(c:aJ):aJ:=⟨1+(c.n.tmod 5+5)%5,1+(c.w.tmod 4+4)%4,1+(c.q.tmod 8+8)%8,1+(c.h.tmod 20+20)%20,1+(c.l.tmod 4+4)%4,1+(c.p.tmod 3+3)%3⟩
structure aJ.aW(c:aJ):Prop where
 n:1<=c.n/\c.n<=5
 w:1<=c.w/\c.w<=4
 q:1<=c.q/\c.q<=8
 h:1<=c.h/\c.h<=20
 l:1<=c.l/\c.l<=4
 p:1<=c.p/\c.p<=3
theorem Iy(c:aJ):(xd c).aW:=by refine⟨?_,?_,?_,?_,?_,?_⟩<;>simp only[xd]<;>omega
theorem qY(n:Int)(k:Int)(a:0<k):-k<n.tmod k/\n.tmod k<k:=⟨zO n a,yX n a⟩
theorem Km(c:aJ)(L:List aa):Fn prog 11 #[.agg (ab.cells c).toArray] L λv L'=>v=.agg (ab.cells (xd c)).toArray/\L'=L:=by have f:=qY c.n 5 U;have d:=qY c.w 4 U;have g:=qY c.q 8 U;have a:=qY c.h 20 U;have e:=qY c.l 4 U;have b:=qY c.p 3 U;refine fo func11 ntmps11 ?_;exact bh
end
end
section
instance(c:aj)(e:Ev):Decidable (e.dY c):=by unfold Ev.dY;infer_instance
def wK(c:aj)(l:List Ev):Nat->Nat->Option Nat
 |0,_=>none
 |k+1,m=>match l.findIdx? (λe=>decide (e.dY c)&&decide (e.r=(m:Int)))with
  |some i=>some i
  |none=>wK c l k (m+1)
def wY:Nat->aj->List Ev->List Ev×List Ev×aj
 |0,c,l=>([],l,c)
 |n+1,c,l=>match wK c l 5 0 with
  |none=>([],l,c)
  |some i=>match l[i]? with
   |none=>([],l,c)
   |some e=>(e::(wY n (c.set e.r.toNat e.n) (l.eraseIdx i)).1,(wY n (c.set e.r.toNat e.n) (l.eraseIdx i)).2)
theorem Ns(c:aj)(l:List Ev):∀(k m i:Nat),(∀e∈l,e.dY c->(m:Int)<=e.r)->wK c l k m=some i->jm c l i
 |0,_,_,_,h=>by cases h
 |k+1,m,i,hm,h=>by
  unfold wK at h;split at h
  ·rename_i j g;obtain rfl:j=i:=by simpa using h
   obtain⟨n,d,_⟩:=List.findIdx?_eq_some_iff_getElem.1 g;simp only[dT,kZ]at d;exact⟨n,d.1,λx hx b=>by rw[d.2];exact hm _ (bT hx) b⟩
  ·rename_i o;refine Ns c l k (m+1) i (λe f b=>?_) h;have p:=hm e f b;have a:=List.findIdx?_eq_none_iff.1 o e f;simp only[Bool.and_eq_false_iff,Cl]at a;rcases a with a|a
   ·exact absurd b a
   ·omega
theorem It(c:aj)(l:List Ev):∀(k m:Nat),wK c l k m=none->∀e∈l,e.dY c->e.r<m\/(m+k:Int)<=e.r
 |0,m,_,e,_,_=>by omega
 |k+1,m,h,e,he,hr=>by
  unfold wK at h;split at h
  ·cases h
  ·rename_i b;have a:=List.findIdx?_eq_none_iff.1 b e he;simp only[Bool.and_eq_false_iff,Cl]at a;have:=It c l k (m+1) h e he hr;rcases a with a|a
   ·exact absurd hr a
   ·omega
theorem HJ:∀(n:Nat) (c:aj) (l:List Ev),l.length<=n->fG l->wY n c l=drain c l
 |0,c,l,hl,hd=>by
  obtain rfl:=dZ (Nat.le_zero.1 hl);rw[oZ (λi ⟨h,_⟩=>by simp at h)];rfl
 |n+1,c,l,hl,hd=>by
  unfold wY;split
  ·rename_i d;refine(oZ λi hi=>?_).symm;obtain⟨a,b,_⟩:=hi;have:=It c l 5 0 d _ (bT a) b;have g:=b.1;have j:=b.2.1;omega
  ·rename_i i f;have hx:=Ns c l 5 0 i (λe _ b=>b.1) f;obtain⟨a,_⟩:=id hx;rw[gV a];simp only;rw[HJ n _ (l.eraseIdx i) (by rw[uZ,an a];omega) (hd.erase i)];rw[qL hd a hx]
def fJ(c:aj)(l:List Ev):List Ev×List Ev×aj:=wY (cK c l).length c (cK c l)
theorem Bt(c:aj)(l:List Ev):fJ c l=drain c (cK c l):=HJ _ c _ (bj _) (qE c _ [] List.Pairwise.nil)
def aG.jt(st:aG)(c:aJ)(r:Int)(l:List Ev):aG×Int:=
 if c.h<(fJ st.aT (st.held++l)).2.1.length then(st,22)else
 if(fJ st.aT (st.held++l)).1=[]then({st with aT:=(fJ st.aT (st.held++l)).2.2,held:=(fJ st.aT (st.held++l)).2.1},0)else
 if(st.write (bw 2 r (fJ st.aT (st.held++l)).1)).2≠0 then((st.write (bw 2 r (fJ st.aT (st.held++l)).1)).1,18)else
 ({(st.write (bw 2 r (fJ st.aT (st.held++l)).1)).1 with aT:=(fJ st.aT (st.held++l)).2.2,held:=(fJ st.aT (st.held++l)).2.1,log:=st.log++(fJ st.aT (st.held++l)).1},0)
def aG.dw(st:aG)(c:aJ)(r:Int)(f:aF×Int):aG×Int:=
 if st.up=false then(st,18)else
 if f.2≠0 then(st,f.2)else
 if f.1.r≠r then(st,23)else
 if(f.1.l.any λe=>decide (e.r=r\/c.n<=e.r))=true then(st,23)else
 if f.1.kind=2 then st.iD r f.1.upto else if f.1.kind=4 then st.jt c r f.1.l else(st,23)
structure eO(k:Nat)(c:aJ)(r:Int)(st:aG):Prop where
 cm:c.aW
 rg:0<=r/\r<c.n
 aE:∀x∈st.aE,x.aW
 tail:iS st.tail=none
 size:(cO st.aE).length+st.tail.length<=500000*k
 lN:(replay st.aE).1.length<=50*k
 iZ:∀e∈(replay st.aE).1,e.aW
 ia:0<=(replay st.aE).2/\(replay st.aE).2<=1048576
 up:st.up=true->st.tail=[]/\replay st.aE=(st.log,st.sent)
 aT:st.up=true->∀i,i<5->0<=st.aT.get i/\st.aT.get i<=50*k
 held:st.up=true->(st.held.length:Int)<=c.h/\∀e∈st.held,e.aW
 wait:st.up=true->iV st.sent st.wait/\(st.wait.length:Int)<=c.q/\∀e∈st.wait,e.aW/\e.r=r
structure jX(st:aG)(ds:DS):Prop where
 b:ds.b=cO st.aE++st.tail
 up:st.up=true->ds.down=false
 cut:ds.cut=st.bE
 keep:st.bE=true->ds.keep=st.keep
variable{st s:aG}
theorem aG.sO(h:st.bE=false)(x:aF):st.write x=({st with aE:=st.aE++[x]},0):=by unfold aG.write;rw[ai (by rw[h];simp)]
theorem aG.uu(h:st.bE=true)(x:aF):st.write x=((if x.bytes.length<=jT st.keep x.bytes.length then{st with up:=false,bE:=false,aE:=st.aE++[x],tail:=[]}
     else{st with up:=false,bE:=false,tail:=x.bytes.take (jT st.keep x.bytes.length)}),18):=by
  unfold aG.write;rw[an h]
theorem jX.write{st:aG}{ds:DS}(h:jX st ds)(j:st.up=true)(f:st.tail=[])(x:aF):jX (st.write x).1 (ds.write x.bytes).1/\(ds.write x.bytes).2=(st.write x).2:=by
 obtain⟨b,l,k,keep⟩:=ds;obtain⟨a,hd,c,d⟩:=h;simp only at a hd c d;rw[f,ck]at a;have g:=hd j;subst g;cases hcut:st.bE with
 |false=>
  rw[aG.sO hcut];rw[hcut]at c;subst c;refine⟨⟨?_,λ_=>rfl,hcut.symm,d⟩,rfl⟩;show b++x.bytes=cO (st.aE++[x])++st.tail;rw[sh,a,f];simp[cO]
 |true=>
  rw[aG.uu hcut];have i:=d hcut;rw[hcut]at c;subst c;subst i;refine⟨?_,rfl⟩;simp only;by_cases e:x.bytes.length<=jT st.keep x.bytes.length
  ·rw[an e];refine⟨?_,(λhx=>by cases hx),rfl,(λhx=>by cases hx)⟩;show b++x.bytes.take (jT st.keep x.bytes.length)=cO (st.aE++[x])++[];rw[ic e,sh,a];simp[cO]
  ·rw[ai e];refine⟨?_,(λhx=>by cases hx),rfl,(λhx=>by cases hx)⟩;show b++x.bytes.take (jT st.keep x.bytes.length)=cO st.aE++_;rw[a]
theorem aG.tq(st:aG)(x:aF):(st.write x).2=0\/(st.write x).2=18:=by unfold aG.write;split<;>simp
theorem aG.mq(st:aG)(x:aF):((st.write x).2=0->(st.write x).1={st with aE:=st.aE++[x]})/\((st.write x).2≠0->(st.write x).1.up=false):=by
 unfold aG.write;split
 ·refine⟨λh=>by simp at h,λ_=>?_⟩;simp only;split<;>rfl
 ·exact⟨λ_=>rfl,λh=>absurd rfl h⟩
def eU(p:aF×Int):List UInt8:=if p.2=0 then p.1.bu else[]
end
section
theorem Ev.aW.lens{e:Ev}(h:e.aW):e.ed.key.length<=8/\e.ed.value.length<=12:=by
 have a:=h.ed;unfold Ed.err at a;split at a
 ·cases a
 ·split at a
  ·exact absurd a (by assumption)
  ·rename_i b;have b:iH e.ed.key=0:=U;have d:e.ed.key.length<=8:=by
    unfold iH at b;split at b
    ·rename_i h;exact h.2.1
    ·cases b
   refine⟨d,?_⟩;split at a
   ·split at a
    ·cases a
    ·split at a
     ·cases a
     ·rename_i c;simp at c;rw[c];simp
   ·split at a
    ·rename_i f;exact absurd a f
    ·unfold mR at a;split at a
     ·rename_i h;exact h.2
     ·cases a
theorem GZ(k:List UInt8)(f:List Ev->List Ev):∀m:fz,(fK k f m).length<=m.length+1
 |[]=>by unfold fK;split<;>simp
 |p::m=>by
  unfold fK;split
  ·split
   ·simp;omega
   ·simp
  ·have:=GZ k f m;simp;omega
theorem FT(k:List UInt8)(f:List Ev->List Ev):∀(m:fz) (p:List UInt8×List Ev),p∈fK k f m->p.1=k\/∃q∈m,q.1=p.1
 |[],p,h=>by
  unfold fK at h;split at h
  ·simp at h
  ·simp at h;exact .inl (by rw[h])
 |q::m,p,h=>by
  unfold fK at h;split at h
  ·split at h
   ·exact .inr ⟨p,eu _ h,rfl⟩
   ·rcases gA.1 h with rfl|h
    ·exact .inl rfl
    ·exact .inr ⟨p,eu _ h,rfl⟩
  ·rcases gA.1 h with rfl|h
   ·exact .inr ⟨p,fP ..,rfl⟩
   ·rcases FT k f m p h with h|⟨x,a,b⟩
    ·exact .inl h
    ·exact .inr ⟨x,eu _ a,b⟩
theorem zt(a:List Ev):(cf a).length<=a.length/\cZ (cf a)<=a.length/\∀p∈cf a,∃e∈a,e.ed.key=p.1:=by
 have n:∀(l:List Ev) (m:fz),(l.foldl ik m).length<=m.length+l.length/\∀p∈l.foldl ik m,(∃q∈m,q.1=p.1)\/∃e∈l,e.ed.key=p.1:=by
  intro l
  induction l with
  |nil=>exactλm=>⟨bj _,λp b=>.inl ⟨p,b,rfl⟩⟩
  |cons e l ih=>
   intro m;obtain⟨c,d⟩:=ih (ik m e);have o:(ik m e).length<=m.length+1:=GZ ..;refine⟨by rw[qa,dL];omega,λp b=>?_⟩;rcases d p b with⟨q,f,g⟩|⟨x,hx,j⟩
   ·rcases FT _ _ m q f with h|⟨y,hy,k⟩
    ·exact .inr ⟨e,fP ..,by rw[<-g,h]⟩
    ·exact .inl ⟨y,hy,by rw[k,g]⟩
   ·exact .inr ⟨x,eu _ hx,j⟩
 have c:=n a [];have d:=EX a [];refine⟨by have:=c.1;simp at this;exact this,by have i:cZ []=0:=rfl;rw[i]at d;unfold cf;omega,λp b=>?_⟩;rcases c.2 p b with⟨q,f,_⟩|h
 ·simp at f
 ·exact h
theorem EH(k:List UInt8):∀m:fz,(cp k m).length<=cZ m
 |[]=>by simp[cp]
 |p::m=>by have h:cZ (p::m)=p.2.length+cZ m:=rfl;have:=EH k m;unfold cp;split<;>omega
theorem N3(a:List UInt8)(b:Int)(ws:List Ev):(qJ a b ws).length<=ws.length:=by unfold qJ;have c:=AG (iO ((oH a b ws).map λe=>e.ed.value));rw[(jZ _).length_eq,bC]at c;have d:(oH a b ws).length<=ws.length:=jJ ..;omega
theorem X0(m:fz):(iv m).length<=m.length*cZ m/\∀c∈iv m,c.s0.length<=cZ m/\c.s1.length<=cZ m:=by
 constructor
 ·unfold iv;have e:∀l:List (List UInt8),(l.flatMap λk=>lW (cp k m)).length<=l.length*cZ m:=by
   intro l
   induction l with
   |nil=>simp
   |cons k l ih=>have b:=Kc (cp k m);have d:=EH k m;rw[uT,bo,dL,jr];omega
  have:=e (iO (m.map (·.1)));rwa[(jZ _).length_eq,bC]at this
 ·intro c a;unfold iv at a;rw[Db]at a;obtain⟨k,_,a⟩:=a;unfold lW at a;rw[fA]at a;obtain⟨q,_,rfl⟩:=a;have b:(ph (cp k m) (fi (cp k m))).length<=(cp k m).length:=jJ ..;have d:=EH k m;have f:=N3 q 0 (ph (cp k m) (fi (cp k m)));have g:=N3 q 1 (ph (cp k m) (fi (cp k m)));exact⟨by show(qJ q 0 _).length<=_;omega,by show(qJ q 1 _).length<=_;omega⟩
theorem zn{l:List Ev}(h:∀e∈l,e.aW)(c:aj):1<=lq l c/\lq l c<=16777217/\IntKind.i64.wrap (lq l c)=lq l c:=by have:=VN (c:=c) (λe a=>(h e a).h) (show(0:Int)<=16777216 by omega);have b:lq l c=(l.foldl (fg c) (0,false)).1+1:=rfl;refine⟨U,U,xG ?_⟩;unfold cD;omega
theorem II(c:aj)(l:List Ev):fG l->∀e∈(drain c l).1,e∈l:=by
 refine xu (motive:=λc l=>fG l->∀e∈(drain c l).1,e∈l) (λc l h hd e a=>?_) (λc l i hi b d hd e a=>?_) c l
 ·rw[oZ h]at a;simp at a
 ·rw[qL hd hi b]at a;rcases gA.1 a with rfl|a
  ·exact bT hi
  ·exact List.mem_of_mem_eraseIdx (d (hd.erase i) e a)
theorem xv{b:List UInt8}(h:(cV b).2=0):(cV b).1.cM/\(cV b).1.bu=b:=by
 unfold cV at h⊢
 split
 ·rename_i a;rw[an a]at h;cases h
 ·rename_i a;rw[ai a]at h;split
  ·rename_i c;rw[c]at h;cases h
  ·rename_i q c;rw[c]at h;simp only at h;split
   ·rename_i d;rw[d]at h;cases h
   ·rename_i x d;rw[d]at h;simp only at h;split
    ·rename_i e;exact e
    ·rename_i e;rw[ai e]at h;cases h
theorem Ev.aW.I{e:Ev}(h:e.aW):cD e.n/\cD e.h:=by have a:=h.n;have b:=h.h;unfold cD;omega
variable{st s:aG}
variable{c:aJ}
theorem aG.Aj{e:Ed}(a:eO k c r st)(m:k<=200)(b:st.up=true)(d:e.err=0)(n:st.aT.get r.toNat<1048576)(f:lq st.log st.aT<=16777216):(st.dm r e).aW:=by
 have h:=a.rg;have j:=a.cm.n;have l:=a.aT b r.toNat U;have g:∀x∈st.log,x.aW:=by have:=a.iZ;rw[(a.up b).2]at this;exact this
 refine⟨by show 0<=r/\r<5;omega,by show 1<=st.aT.get r.toNat+1/\st.aT.get r.toNat+1<=1048576;omega,⟨(zn g st.aT).1,f⟩,λi hi=>?_,by show st.aT.get r.toNat=st.aT.get r.toNat+1-1;omega,d⟩;have:=a.aT b i hi;show 0<=st.aT.get i/\st.aT.get i<=1048576;omega
end
section
theorem aA.opens:∀(As M:List aa),Sub (As++M) (aA As::M)
 |[],M=>iC _ (bW _)
 |A::As,M=>ar (bl A (aA.opens As M)) (og M)
theorem aA.BJ:∀(As M:List aa),Sub (aA As::M) (As++M)
 |[],M=>ly M
 |A::As,M=>ar (oi M) (bl A (aA.BJ As M))
theorem Sub.pick{A:aa}(i:Nat)(e:L[i]?=some A)(h:Sub M (L.eraseIdx i)):Sub (A::M) L:=ar (bl A h) (mm i e)
theorem Sub.zE:∀L:List aa,Sub [] L
 |[]=>bW []
 |A::L=>iC A (Sub.zE L)
theorem rP(h:p:=by(repeat(first|exact bW _|refine Sub.pick 0 rfl ?_|refine Sub.pick 1 rfl ?_|refine Sub.pick 2 rfl ?_|refine Sub.pick 3 rfl ?_|refine Sub.pick 4 rfl ?_|refine Sub.pick 5 rfl ?_|refine Sub.pick 6 rfl ?_|refine Sub.pick 7 rfl ?_|refine Sub.pick 8 rfl ?_|refine Sub.pick 9 rfl ?_|refine Sub.pick 10 rfl ?_|refine Sub.pick 11 rfl ?_|refine Sub.pick 12 rfl ?_|refine Sub.pick 13 rfl ?_|refine Sub.pick 14 rfl ?_|refine Sub.pick 15 rfl ?_|refine iC _ ?_))):p:=h
structure NX where
 gb:Nat
 gi:Nat
 go:Nat
 vl:Value
 v0:Value
 vw:Value
structure NX.One(x:NX):Prop where
 l:x.vl.oneCell'=true
 h:x.v0.oneCell'=true
 w:x.vw.oneCell'=true
@[reducible] def nX(gn:Nat)(c:aJ)(r:Int)(st:aG)(dv:Value)(ds:DS)(x:NX)(M:List aa):List aa:=
  dU x.gi c.h st.aT x.v0::aL x.v0 st.held::cd gn c r true dv x.vl st.sent (ay x.gb) (ay x.gi) (ay x.go)::cC dv ds::
   ec x.go c.q c.w st.sent x.vw::aL x.vw st.wait::aL x.vl st.log::df x.gb (cf st.log)::M
@[reducible] def AY(gn:Nat)(c:aJ)(r:Int)(dv:Value)(ds:DS)(vl:Value)(sent:Int)(b i o:Value)(M:List aa):List aa:=
 cd gn c r false dv vl sent b i o::cC dv ds::M
def bD(gn:Nat)(c:aJ)(r:Int)(st:aG):aa:=λh=>
 (st.up=true/\∃dv ds x,jX st ds/\x.One/\aA (nX gn c r st dv ds x []) h)\/
 (st.up=false/\∃dv ds vl sent b i o,jX st ds/\aA (AY gn c r dv ds vl sent b i o []) h)
variable{st s:aG}
variable{c:aJ}
theorem bD.fn{k:FuncId}{args:Array Value}{gn:Nat}
  (hd:st.up=false->∀dv ds vl sent b i o,jX st ds->Fn P k args (AY gn c r dv ds vl sent b i o M) R)
  (f:st.up=true->∀dv ds x,jX st ds->x.One->Fn P k args (nX gn c r st dv ds x M) R):Fn P k args (bD gn c r st::M) R:=λF w0 w rr ⟨h,a,d,s⟩=>by
 rcases a with⟨u,dv,ds,x,e,o,a⟩|⟨u,dv,ds,vl,sent,b,i,o,e,a⟩
 ·exact f u dv ds x e o F w0 w rr (aA.opens _ _ w F ⟨h,a,d,s⟩)
 ·exact hd u dv ds vl sent b i o e F w0 w rr (aA.opens _ _ w F ⟨h,a,d,s⟩)
theorem bD.vE{gn:Nat}(x:NX)(b:st.up=true)(d:jX st ds)(o:x.One)(M:List aa):
  Sub (bD gn c r st::M) (nX gn c r st dv ds x M):=
 ar (jE (λ_ a=>.inl ⟨b,dv,ds,x,d,o,a⟩) (bW M)) (aA.BJ (nX gn c r st dv ds x []) M)
theorem bD.wj{gn:Nat}{gd:Nat}(x:NX)(a:st.up=true)(b:jX st ds)(o:x.One)(M:List aa):
    Sub (bD gn c r st::M) (dU x.gi c.h st.aT x.v0::aL x.v0 st.held::cd gn c r true (ay gd) x.vl st.sent (ay x.gb) (ay x.gi) (ay x.go)::bG gd ds::
   ec x.go c.q c.w st.sent x.vw::aL x.vw st.wait::aL x.vl st.log::df x.gb (cf st.log)::M):=
  ar (bD.vE x a b o M) (bl _ (bl _ (bl _ (cC.of _))))
theorem bD.tc{gn:Nat}{sent:Int}{b i o:Value}(d:st.up=false)(e:jX st ds)(M:List aa):
  Sub (bD gn c r st::M) (AY gn c r dv ds vl sent b i o M):=
 ar (jE (λ_ a=>.inr ⟨d,dv,ds,vl,sent,b,i,o,e,a⟩) (bW M)) (aA.BJ (AY gn c r dv ds vl sent b i o []) M)
theorem bD.tv{gn:Nat}{gd:Nat}{sent:Int}{b i o:Value}(a:st.up=false)(d:jX st ds)(M:List aa):
  Sub (bD gn c r st::M) (cd gn c r false (ay gd) vl sent b i o::bG gd ds::M):=
 ar (bD.tc a d M) (bl _ (cC.of _))
theorem bB.nil(M:List aa):Sub (bB (.slice none 0 0) []::M) M:=cA (α:=UInt8) none 5 M
def my(gn:Nat)(c:aJ)(r:Int)(vl:Value)(sent:Int)(b i o:Value):aa:=λh=>∃a d,cd gn c r a d vl sent b i o h
theorem my.val{gn:Nat}{sent:Int}{b i o:Value}
  (h:∀e d,aP P op f (cd gn c r e d vl sent b i o::M) v):aP P op f (my gn c r vl sent b i o::M) v:=λF w ⟨x,⟨e,d,a⟩,g,s⟩=>h e d F w ⟨x,a,g,s⟩
theorem my.pa{gn:Nat}{d:Value}{sent:Int}{b i o:Value}(h:Sub L M):
  bk (my gn c r vl sent b i o::L) (cd gn c r up d vl sent b i o::M):=gC (jE (λx a=>⟨up,d,a⟩) h)
end
section
theorem eO.log{k:Nat}{c:aJ}{r:Int}{st:aG}(a:eO k c r st)(f:st.up=true):st.log.length<=50*k/\∀e∈st.log,e.aW:=by have b:=a.lN;have d:=a.iZ;rw[(a.up f).2]at b d;exact⟨b,d⟩
variable{st s:aG}
variable{c:aJ}
theorem eO.r5(a:eO k c r st):0<=r/\r<5:=by have b:=a.rg;have d:=a.cm.n;omega
theorem jX.mem{st':aG}(h:jX st ds)(b:st'.aE=st.aE)(c:st'.tail=st.tail)(d:st'.up=st.up)(a:st'.bE=st.bE)(e:st'.keep=st.keep):jX st' ds:=
 ⟨by rw[b,c];exact h.b,by rw[d];exact h.up,by rw[a];exact h.cut,by rw[a,e];exact h.keep⟩
theorem pb{k:Int}{l:List Ev}(d:k=1/\l.length=1\/k=2\/k=5)(c:0<=r/\r<5)(a:l.length<=4096)(b:∀e∈l,e.aW):(bw k r l).aW:=by
 refine⟨by show 1<=k/\k<=6;omega,c,⟨eH _,by show(0:Int)<=1048576;omega⟩,a,λi hi=>?_,λ_=>rfl,λ_=>rfl,λh=>?_,b,λh=>?_⟩
 ·have:aj.zero.get i=0:=by
   match i,hi with
   |0,_=>rfl
   |1,_=>rfl
   |2,_=>rfl
   |3,_=>rfl
   |4,_=>rfl
  show 0<=aj.zero.get i/\aj.zero.get i<=1048576;omega
 ·exfalso;apply h;show k=1\/k=2\/k=5\/k=4;omega
 ·have:k=1:=h;show l.length=1;omega
theorem eO.pw(b:eO k c r st)(d:k<=200)(a:jX st ds):ds.b.length<=100000000:=by have:=b.size;rw[a.b,bo];omega
theorem eO.cP(b:eO k c r st)(d:k<=200)(a:st.up=true):∀i,i<5->0<=st.aT.get i/\st.aT.get i<=1048576:=λi hi=>by have:=b.aT a i hi;omega
theorem eO.sent{k:Nat}{c:aJ}{r:Int}{st:aG}(a:eO k c r st)(b:st.up=true):0<=st.sent/\st.sent<=1048576:=by have:=a.ia;rw[(a.up b).2]at this;exact this
theorem eO.cI(d:eO k c r st)(a:k<=200)(b:st.up=true):st.aT.I:=λi hi=>by have:=d.cP a b i hi;unfold cD;omega
theorem Ce{L P:Int}{l:List eW}{e:Ed}(h:kb L P l e=0):e.err=0:=by
 unfold kb at h;split at h
 ·exact h
 ·rename_i a;simpa using a
end
section
set_option maxRecDepth 20000 attribute [local irreducible] Ex aM Fn bI bJ bV fin meet ch aX bZ aP aN aI Rd aK Row ao Sub bk bP bS bN bg bR Hid bY
section
attribute [local irreducible] bG cC my
theorem Uc(gn:Nat)(c:aJ)(r:Int)(dv vl:Value)(sent:Int)(b i o:Value)(s:DS)(a:List Ev)(M:List aa)
  (l:O1 vl)(m:a.length<=4096)(k:∀e∈a,e.ed.key.length<=1000/\e.ed.value.length<=1000)(j:(⟨4,r,sent,aj.zero,a⟩:aF).aW)
  (g:s.b.length+(⟨4,r,sent,aj.zero,a⟩:aF).bytes.length<=140737488355328):
  Fn prog 45 #[ay gn] (cd gn c r true dv vl sent b i o::cC dv s::aL vl a::M)
   λv L'=>∃gd,v=.int .i64 (s.write (⟨4,r,sent,aj.zero,a⟩:aF).bytes).2/\L'=cd gn c r (true&&decide ((s.write (⟨4,r,sent,aj.zero,a⟩:aF).bytes).2=0)) (ay gd) vl sent b i o::bG gd (s.write (⟨4,r,sent,aj.zero,a⟩:aF).bytes).1::aL vl a::M:=by
 refine fo func45 ntmps45 ?_;refine rn ?_;(repeat(first|intro(o:O1 _)|intro h));refine bU 15 [my gn c r vl sent b i o] rfl rQ (my.pa (Sub.zE _)) ?_;refine mn ?_;(repeat(first|intro(o:O1 _)|intro h));refine fZ J J J (my.val λf d=>rV) ?_;refine mn ?_;(repeat(first|intro(o:O1 _)|intro h));refine fZ J J J (my.val λf d=>rV) ?_;refine mn ?_;(repeat(first|intro(o:O1 _)|intro h));refine fZ J J J (my.val λf d=>rV) ?_;refine mn ?_;(repeat(first|intro(o:O1 _)|intro h));refine bX J J J ?_;refine bc [] J call103 rE J (xP gn c r true dv vl sent b i o s ⟨4,r,sent,aj.zero,a⟩ vl _ rD l (by show a.length<=_;omega) k j g) ?_;rintro _ _ ⟨gd,rfl,rfl⟩;refine bn ?_;refine br (my.pa (Sub.zE _)) ?_;refine mn ?_;intros;refine rn ?_;intros;refine fr ?_;exact⟨_,rB,gd,rfl,rfl⟩
end
end
def ky:=@aA.opens
def mr:=@aA.BJ
def dt:=@Sub.pick
def eI:=@Sub.zE
def oD:=@bD.fn
def kn:=@bD.vE
def uW:=@bD.wj
def qC:=@bD.tc
def sT:=@bD.tv
def gX:=@bB.nil
end Go.Proofs.YtogcfijlhpaeeaaGreat
