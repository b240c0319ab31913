/- Texts. No condition. -/
import Derived.ScopeJumps
import Derived.Test.YtogcfijlhpaeeaaGreatYpad
open Go.RowKit Go.Proofs.Tryz
set_option linter.all false
set_option maxHeartbeats 32000000
namespace Go.Proofs.YtogcfijlhpaeeaaGreat
variable{k g i sz o:Nat}{e bt:TypeId}{x y z:Operand}{L' As:List aa}{v u:Value}{cs:List Value}{H:Type}{q:List UInt8}{ts:Array TypeId}{dd:Option Nat}{au:Nat->List Value->List aa->Prop}
section
set_option maxRecDepth 20000 attribute [local irreducible] Ex aM Fn bI bJ bV fin meet ch aX bZ aP aN aI Rd aK Row ao Sub bk bP bS bN bg bR Hid bY
section
theorem tW(n:Int)(M:List aa)(a:0<=n/\n<=1000000000000):Fn prog 179 #[.int .u64 n] M λv L'=>O1 v/\L'=bB v (vB n.toNat)::M:=by obtain⟨k,rfl⟩:=jF a.1;rw[dc];exact Md k M U
theorem Fu(x:aF)(v0:Value)(M:List aa)(hr:aI M v0 x.l)(o0:O1 v0)(hl:x.l.length<=1000000000)(S:∀e∈x.l,e.ed.key.length<=1000/\e.ed.value.length<=1000):
  Fn prog 172 #[.agg (bH x v0).toArray] M λr L'=>(¬x.aW/\r=.tuple #[.slice none 0 0,.int .i64 1]/\L'=M)\/(x.aW/\∃v,O1 v/\r=.tuple #[v,.int .i64 0]/\L'=bB v x.bytes::M):=by
 refine fo func172 ntmps172 ?_;refine rn ?_;(repeat(first|intro(g:Nat)|intro(v:Value)|intro(o:O1 _)|intro(b:_=List.set _ _ _)|intro h));refine bc [] J call233 J J (YS x v0 _ rD o0 hl S) ?_;rintro _ _ ⟨⟨t,A,rfl⟩,rfl⟩;by_cases d:x.aW
 rotate_left
 ·have d7:t=false:=by cases t with|false=>rfl|true=>exact absurd (A.1 rfl) d
  subst d7;refine rn ?_;(repeat(first|intro(g:Nat)|intro(v:Value)|intro(o:O1 _)|intro(b:_=List.set _ _ _)|intro h));refine fr ?_;exact⟨_,rB,.inl ⟨d,rfl,rfl⟩⟩
 have d8:t=true:=A.2 d;subst d8;clear A;have hk:=d.k;have m8:=d.r;have hu:=d.u;have m6:=d.m;have L:=d.c;refine rn ?_;(repeat(first|intro(g:Nat)|intro(v:Value)|intro(o:O1 _)|intro(b:_=List.set _ _ _)|intro h));refine ca [] call234 (DV x.kind _) ?_;rintro _ _ ⟨rfl,rfl⟩;revert g;intro j;have l8:x.ez.length=2:=rfl;have d9:=fy (n:=x.upto.toNat) U;have j6:x.ig.length<=4:=by
  unfold aF.ig;split
  ·exact d9
  ·simp
 have Q:=tH x.c L;have j3:x.jV.length<=20:=by
  unfold aF.jV;split
  ·exact Q 5 U
  ·simp
 have j5:=x.xq d;refine aM.vH 2 [1,5,6,8] (λvs L'=>∃a:Value,a.oneCell'=true/\vs=[.pointer (some ⟨j,0,none⟩),.bool (decide (ea x.kind)),.bool (decide (gj x.kind)),a]/\L'=bB a (x.ez++x.ig)::ao j 88 (bH x v0)::M) ?_ ?_
 ·rintro vs s L' ⟨a,p,rfl,rfl⟩;refine pW 1 [1,5,8] (λvs L'=>∃a:Value,a.oneCell'=true/\vs=[.pointer (some ⟨j,0,none⟩),.bool (decide (ea x.kind)),a]/\L'=bB a (x.ez++x.ig++x.jV)::ao j 88 (bH x v0)::M) ?_ ?_
  ·rintro vs s L' ⟨a,p,rfl,rfl⟩;refine pW 1 [8] (λvs L'=>∃a:Value,a.oneCell'=true/\vs=[a]/\L'=bB a x.body::M) ?_ ?_
   ·rintro vs s L' ⟨a,p,rfl,rfl⟩;have n8:=nJ x.body;have p9:=fy (n:=(dN x.body).length) U;refine rn ?_;(repeat(first|intro(v:Value)|intro(o:O1 _)|intro(b:_=List.set _ _ _)|intro h));refine bc [] J call180 J J (KM a x.body _ rD U) ?_;rintro v9 _ ⟨o9,rfl⟩;refine rn ?_;(repeat(first|intro(v:Value)|intro(o:O1 _)|intro(b:_=List.set _ _ _)|intro h));refine ca [] call179 (tW (dN x.body).length _ U) ?_;rintro H _ ⟨C,rfl⟩;rw[dc];refine rn ?_;(repeat(first|intro(v:Value)|intro(o:O1 _)|intro(b:_=List.set _ _ _)|intro h));refine fr ?_;exact⟨_,rB,.inr ⟨d,v,o,rfl,rfl⟩⟩
   intro f;by_cases e:ea x.kind
   ·rw[bf e];have m:x.kx=vB x.l.length++de x.l:=an e;obtain⟨P,y⟩:∃P,P=x.ez++x.ig++x.jV:=⟨_,rfl⟩;have j0:P.length<=26:=by rw[y,bo,bo];omega
    rw[<-y];have q9:=fy (n:=x.l.length) U;refine rn ?_;(repeat(first|intro(v:Value)|intro(o:O1 _)|intro(b:_=List.set _ _ _)|intro h));refine ca [] call179 (tW x.l.length _ U) ?_;rintro H _ ⟨C,rfl⟩;rw[dc];obtain⟨l,z⟩:∃l,l=P++vB x.l.length:=⟨_,rfl⟩;have e9:l.length<=30:=by rw[z,bo];omega
    refine rn ?_;(repeat(first|intro(v:Value)|intro(o:O1 _)|intro(b:_=List.set _ _ _)|intro h));rw[<-z];refine bF (L':=bB v l::ao j 88 (bH x v0)::M) ?_ rB;refine bm [8,64] (λq vs L'=>∃(i:Nat) (v:Value),i<=x.l.length/\q=x.l.length-i/\v.oneCell'=true/\vs=[v,.int .i64 i]/\L'=bB v (l++de (x.l.take i))::ao j 88 (bH x v0)::M) x.l.length ⟨0,v,U,rfl,o,rfl,by simp[de]⟩ ?_;rintro q vs W V ⟨i,I,hi,rfl,F,rfl,rfl⟩;refine bp [8,62,63,64] rG (λs=>?_);by_cases k:i<x.l.length
    ·have m9:=S _ (bT k);have R:=d.l _ (bT k);have j4:=(vI R).2;have j9:(de (x.l.take i)).length<=60*i:=by have:=vQ (x.l.take i) (λe m=>d.l e (mM m));rw[dy]at this;omega
     have c8:de (x.l.take (i+1))=de (x.l.take i)++(x.l[i]'k).bytes:=by rw[da k,zW];simp[de]
     refine rn ?_;(repeat(first|intro(v:Value)|intro(o:O1 _)|intro(b:_=List.set _ _ _)|intro h));refine ca [] call178 (Ky (x.l[i]'k) _ U U) ?_;rintro _ _ (⟨d6,_,_⟩|⟨r0,v3,o3,rfl,rfl⟩)
     ·exact absurd R d6
     refine rn ?_;(repeat(first|intro(v:Value)|intro(o:O1 _)|intro(b:_=List.set _ _ _)|intro h));rw[dB,<-c8];exact aS ⟨x.l.length-(i+1),_,U,rB,i+1,v,U,rfl,o,av rfl (av (aQ U) rfl),rfl⟩
    ·have w:i=x.l.length:=U;subst w;have hb:l++de (x.l.take x.l.length)=x.body:=by rw[dI,z,y];unfold aF.body;rw[m,dB _ (vB _)]
     rw[hb];refine rn ?_;(repeat(first|intro(v:Value)|intro(o:O1 _)|intro(b:_=List.set _ _ _)|intro h));exact f _ _ ⟨_,rB,I,F,av rfl rfl,rfl⟩
   ·rw[bd e];have m:x.body=x.ez++x.ig++x.jV:=by unfold aF.body;rw[show x.kx=[]from ai e,ck]
    rw[<-m];refine rn ?_;(repeat(first|intro(v:Value)|intro(o:O1 _)|intro(b:_=List.set _ _ _)|intro h));exact f _ _ ⟨_,rB,a,p,av rfl rfl,rfl⟩
  intro f;by_cases c:gj x.kind
  ·rw[bf c];have e:x.jV=gu x.c 5:=an c;refine rn ?_;(repeat(first|intro(v:Value)|intro(o:O1 _)|intro(b:_=List.set _ _ _)|intro h));refine bm [8,44] (λq vs L'=>∃(i:Nat) (v:Value),i<=5/\q=5-i/\v.oneCell'=true/\vs=[v,.int .i64 i]/\L'=bB v (x.ez++x.ig++gu x.c i)::ao j 88 (bH x v0)::M) 5 ⟨0,a,U,rfl,p,rfl,by simp[gu]⟩ ?_;rintro q vs W V ⟨i,I,hi,rfl,F,rfl,rfl⟩;refine bp [1,5,8,43,44] rG (λs=>?_);by_cases k:i<5
   ·have j8:=L i k;have b:=tO x.c i;have j1:=Q i hi;have j7:=fy (n:=(x.c.get i).toNat) U;refine rn ?_;(repeat(first|intro(v:Value)|intro(o:O1 _)|intro(b:_=List.set _ _ _)|intro h));refine cH J J J (pU J J J J J U U) ?_;rw[show(⟨x.c.a,x.c.b,x.c.c,x.c.d,x.c.e⟩:aj).get (i:Int).toNat=x.c.get i from rfl];refine rn ?_;(repeat(first|intro(v:Value)|intro(o:O1 _)|intro(b:_=List.set _ _ _)|intro h));refine ca [] call179 (tW (x.c.get i) _ U) ?_;rintro H _ ⟨C,rfl⟩;refine rn ?_;(repeat(first|intro(v:Value)|intro(o:O1 _)|intro(b:_=List.set _ _ _)|intro h));rw[show x.ez++x.ig++gu x.c i++vB (x.c.get i).toNat=x.ez++x.ig++gu x.c (i+1)by rw[b,dB (x.ez++x.ig)]];exact aS ⟨5-(i+1),_,U,rB,i+1,v,U,rfl,o,av rfl (av (aQ U) rfl),rfl⟩
   ·have w:i=5:=U;subst w;refine rn ?_;(repeat(first|intro(v:Value)|intro(o:O1 _)|intro h));rw[<-e];exact f _ _ ⟨_,rB,I,F,av rfl (av rfl (av rfl rfl)),rfl⟩
  ·rw[bd c];refine rn ?_;(repeat(first|intro(v:Value)|intro(o:O1 _)|intro h));have e:x.jV=[]:=ai c;simp only[e,ck]at f;exact f _ _ ⟨_,rB,a,p,av rfl (av rfl (av rfl rfl)),rfl⟩
 intro f;by_cases u:iP x.kind
 ·rw[bf u];have e:x.ig=vB x.upto.toNat:=an u;refine rn ?_;(repeat(first|intro(v:Value)|intro(o:O1 _)|intro h));refine ca [] call179 (tW x.upto _ U) ?_;rintro H _ ⟨C,rfl⟩;refine rn ?_;(repeat(first|intro(v:Value)|intro(o:O1 _)|intro h));simp only[e]at f;exact f _ _ ⟨_,rB,v,o,av rfl (av rfl (av rfl (av rfl rfl))),rfl⟩
 ·rw[bd u];refine rn ?_;intros;have e:x.ig=[]:=ai u;simp only[e,ck]at f;exact f _ _ ⟨_,rB,_,rfl,av rfl (av rfl (av rfl (av rfl rfl))),rfl⟩
end
section
theorem HV(k r:UInt8)(q:List UInt8):sG (k::r::q)=if 1<=(k.toNat:Int)/\(k.toNat:Int)<=6 then
   match (if iP k.toNat then iy q else some (0,q))with
   |none=>none
   |some (u,q1)=>match (if gj k.toNat then gH 5 q1 else some (aj.zero,q1))with
    |none=>none
    |some (c,q2)=>match (if ea k.toNat then mS q2 else some ([],q2))with
     |none=>none
     |some (l,_)=>some ⟨k.toNat,r.toNat,u,c,l⟩
  else none:=rfl
theorem PF{b:List UInt8}(h:b.length<2):sG b=none:=by
 rcases b with _|⟨a,_|⟨c,q⟩⟩
 ·rfl
 ·rfl
 ·simp at h;omega
theorem AQ(x:aF)(v:Value)(i:Nat)(n:Int)(hi:i<5)(o:Nat)(a:o=3+i):(bH x v).set o (.int .i64 n)=bH ⟨x.kind,x.r,x.upto,x.c.set i n,x.l⟩ v:=by subst a;have:i=0\/i=1\/i=2\/i=3\/i=4:=U;rcases this with rfl|rfl|rfl|rfl|rfl<;>rfl
theorem Gc:∀(n k:Nat) (b:List UInt8),gH n b=none->gH (n+k) b=none
 |n,0,b,h=>h
 |n,k+1,b,h=>by rw[<-qR,gH,Gc n k b h]
@[reducible] def Hj(r:Value)(l:Option aF)(M L':List aa):Prop:=
 (l=none/\(∃y,r=.tuple #[.agg (bH y (.slice none 0 0)).toArray,.bool false])/\L'=M)\/∃x u,l=some x/\u.oneCell'=true/\r=.tuple #[.agg (bH x u).toArray,.bool true]/\L'=aL u x.l::M
theorem ZF(v0:Value)(b:List UInt8)(M:List aa)(hr:aI M v0 b)(H:O1 v0)(hb:b.length<=1000000000):Fn prog 248 #[v0] M λr L'=>Hj r (sG b) M L':=by
 refine fo func248 ntmps248 ?_;by_cases t:b.length<2
 ·rw[PF t];refine rn ?_;(repeat(first|intro(g:Nat)|intro(v:Value)|intro(o:O1 _)|intro(cs:List Value)|intro(j:_=List.set _ _ _)|intro(zs:List _)|intro h));refine fr ?_;exact⟨_,rB,.inl ⟨rfl,⟨⟨0,0,0,aj.zero,[]⟩,rfl⟩,rfl⟩⟩
 obtain⟨k,r,q,rfl⟩:∃k r q,b=k::r::q:=by
  rcases b with _|⟨a,_|⟨c,q⟩⟩
  ·simp at t
  ·simp at t
  ·exact⟨a,c,q,rfl⟩
 have f:=HV k r q;simp only[dL]at t hb;refine rn ?_;(repeat(first|intro(g:Nat)|intro(v:Value)|intro(o:O1 _)|intro(cs:List Value)|intro(j:_=List.set _ _ _)|intro(zs:List _)|intro h));have C:aI M (bg v0 2 (q.length+1+1) 1) q:=ni hr (by simp) rfl J;refine ji ?_;(repeat(first|intro(g:Nat)|intro(v:Value)|intro(o:O1 _)|intro(cs:List Value)|intro(j:_=List.set _ _ _)|intro(zs:List _)|intro h));refine rn ?_;(repeat(first|intro(g:Nat)|intro(v:Value)|intro(o:O1 _)|intro(cs:List Value)|intro(j:_=List.set _ _ _)|intro(zs:List _)|intro h));rename_i V;revert g;intro W;refine ca [] call234 (DV k.toNat _) ?_;rintro _ _ ⟨rfl,rfl⟩;by_cases w:1<=(k.toNat:Int)/\(k.toNat:Int)<=6
 rotate_left
 ·have u:¬iP k.toNat:=by unfold iP;omega
  have c:¬gj k.toNat:=by unfold gj;omega
  have e:¬ea k.toNat:=by unfold ea;omega
  rw[ai w]at f;rw[f,bd w,bd u,bd c,bd e];refine rn ?_;(repeat(first|intro(j:_=List.set _ _ _)|intro h));refine fr ?_;exact⟨_,rB,.inl ⟨rfl,⟨⟨k.toNat,r.toNat,0,aj.zero,[]⟩,rfl⟩,rfl⟩⟩
 rw[an w]at f;rw[bf w];by_cases u:iP k.toNat
 ·have c:¬gj k.toNat:=by unfold gj;unfold iP at u;omega
  rw[bf u,bd c];simp only[an u,ai c]at f;refine rn ?_;(repeat(first|intro(j:_=List.set _ _ _)|intro h));refine ca [] call288 (EZ _ q _ M C rB (jB H) U) ?_;rintro _ _ (⟨m,rfl,rfl⟩|⟨n,y,S,m,I,e9,d8,d9,rfl,F,rfl⟩)
  ·rw[m]at f;rw[f];refine rn ?_;(repeat(first|intro(j:_=List.set _ _ _)|intro h));refine fr ?_;exact⟨_,rB,.inl ⟨rfl,⟨⟨k.toNat,r.toNat,0,aj.zero,[]⟩,rfl⟩,rfl⟩⟩
  ·rw[m]at f;simp only at f;by_cases e:ea k.toNat
   ·rw[bf e];simp only[an e]at f;refine rn ?_;(repeat(first|intro(j:_=List.set _ _ _)|intro h));refine ca [] call289 (MK _ y _ (F.sub rB) I U) ?_;rintro _ _ (⟨l,rfl,rfl⟩|⟨Q,ql,P,l,L,rfl,rfl⟩)
    ·rw[l]at f;rw[f];refine rn ?_;(repeat(first|intro(j:_=List.set _ _ _)|intro h));refine fr ?_;exact⟨_,rB,.inl ⟨rfl,⟨⟨k.toNat,r.toNat,n,aj.zero,[]⟩,rfl⟩,rfl⟩⟩
    ·rw[l]at f;rw[f];refine rn ?_;(repeat(first|intro(j:_=List.set _ _ _)|intro h));refine fr ?_;exact⟨_,rB,.inr ⟨⟨k.toNat,r.toNat,n,aj.zero,Q⟩,P,rfl,L,rfl,rfl⟩⟩
   ·rw[bd e];simp only[ai e]at f;rw[f];refine rn ?_;(repeat(first|intro(j:_=List.set _ _ _)|intro h));refine fr ?_;exact⟨_,ar (cA (α:=Ev) none 80 _) rB,.inr ⟨⟨k.toNat,r.toNat,n,aj.zero,[]⟩,_,rfl,rfl,rfl,rfl⟩⟩
 ·rw[bd u];simp only[ai u]at f;by_cases c:gj k.toNat
  ·have e:¬ea k.toNat:=by unfold ea;unfold gj at c;omega
   rw[bf c,bd e];simp only[an c,ai e]at f;refine rn ?_;(repeat(first|intro(j:_=List.set _ _ _)|intro h));refine bm [8,9,10] (λz vs L'=>∃(i:Nat) (d:aj) (x:Bool) (A:Value),i<=5/\A.oneCell'=true/\((x=true/\z=6-i/\∃s:List UInt8,gH i q=some (d,s)/\s.length<=q.length/\aI M A s)\/(x=false/\z=0/\gH 5 q=none))/\vs=[.bool x,A,.int .i64 i]/\L'=ao W 88 (bH ⟨k.toNat,r.toNat,0,d,[]⟩ (.slice none 0 0))::ao V 88 (bH ⟨0,0,0,aj.zero,[]⟩ (.slice none 0 0))::M) 6 ⟨0,aj.zero,true,_,U,jB H,.inl ⟨rfl,rfl,q,rfl,bj _,C⟩,rfl,rfl⟩ ?_;rintro z vs g0 L1 ⟨i,d,x,A,hi,j3,(⟨rfl,rfl,s,p,j7,j1⟩|⟨rfl,rfl,p⟩),rfl,rfl⟩
   ·refine bp [2,4,6,8,9,10] rG (λgk=>?_);by_cases R:i<5
    ·refine rn ?_;(repeat(first|intro(j:_=List.set _ _ _)|intro h));refine ca [] call288 (EZ _ s _ M j1 rB j3 U) ?_;rintro _ _ (⟨m,rfl,rfl⟩|⟨n,y,S,m,I,e9,d8,d9,rfl,F,rfl⟩)
     ·have e8:gH 5 q=none:=by
       have h1:gH (i+1) q=none:=by rw[gH,p];simp only;rw[m]
       have:=Gc (i+1) (5-(i+1)) q h1;rwa[show i+1+(5-(i+1))=5 by omega]at this
      refine rn ?_;(repeat(first|intro(j:_=List.set _ _ _)|intro h));rw[AQ _ _ i _ R _ (by show 3+(i:Int).toNat*1=3+i;omega)]at j;subst j;exact aS ⟨0,_,U,rB,i+1,_,false,_,U,rfl,.inr ⟨rfl,rfl,e8⟩,av rfl (av rfl (av (aQ U) rfl)),rfl⟩
     ·have d6:gH (i+1) q=some (d.set i n,y):=by rw[gH,p];simp only;rw[m]
      refine rn ?_;(repeat(first|intro(j:_=List.set _ _ _)|intro h));rw[AQ _ _ i _ R _ (by show 3+(i:Int).toNat*1=3+i;omega)]at j;subst j;exact aS ⟨6-(i+1),_,U,rB,i+1,_,true,S,U,I,.inl ⟨rfl,rfl,y,d6,U,F⟩,av rfl (av rfl (av (aQ U) rfl)),rfl⟩
    ·have h5:i=5:=U;subst h5;rw[p]at f;rw[f];refine rn ?_;intros;refine fr ?_;exact⟨_,ar (cA (α:=Ev) none 80 _) rB,.inr ⟨⟨k.toNat,r.toNat,0,d,[]⟩,_,rfl,rfl,rfl,rfl⟩⟩
   ·refine bp [2,4,6,8,9,10] rG (λgk=>?_);rw[p]at f;rw[f];refine rn ?_;intros;refine fr ?_;exact⟨_,rB,.inl ⟨rfl,⟨⟨k.toNat,r.toNat,0,d,[]⟩,rfl⟩,rfl⟩⟩
  ·have e:ea k.toNat:=by unfold ea;unfold gj at c;unfold iP at u;omega
   rw[bd c,bf e];simp only[ai c,an e]at f;refine rn ?_;intros;refine ca [] call289 (MK _ q _ (C.sub rB) (jB H) U) ?_;rintro _ _ (⟨l,rfl,rfl⟩|⟨Q,ql,P,l,L,rfl,rfl⟩)
   ·rw[l]at f;rw[f];refine rn ?_;intros;refine fr ?_;exact⟨_,rB,.inl ⟨rfl,⟨⟨k.toNat,r.toNat,0,aj.zero,[]⟩,rfl⟩,rfl⟩⟩
   ·rw[l]at f;rw[f];refine rn ?_;intros;refine fr ?_;exact⟨_,rB,.inr ⟨⟨k.toNat,r.toNat,0,aj.zero,Q⟩,P,rfl,L,rfl,rfl⟩⟩
end
section
theorem E4:∀(n:Nat) (b:List UInt8) (l:List Ev) (q:List UInt8),gF n b=some (l,q)->l.length=n/\∀e∈l,e.ed.key.length<=8/\e.ed.value.length<=12
 |0,b,l,q,h=>by
  simp only[gF,iE,kR]at h;obtain⟨rfl,rfl⟩:=h;exact⟨rfl,λe a=>by cases a⟩
 |n+1,b,l,q,h=>by
  unfold gF at h;split at h
  ·split at h
   ·cases h
   ·rename_i g i c;simp only[iE,kR]at h;obtain⟨rfl,rfl⟩:=h;obtain⟨d,f⟩:=E4 n _ _ _ c;refine⟨by rw[dL,d],λe a=>?_⟩;rcases gA.1 a with rfl|a
    ·exact NV b
    ·exact f e a
  ·cases h
theorem Tp{b:List UInt8}{l:List Ev}(h:mS b=some (l,q)):l.length<=4096/\∀e∈l,e.ed.key.length<=8/\e.ed.value.length<=12:=by
 unfold mS at h;split at h
 ·cases h
 ·split at h
  ·cases h
  ·obtain⟨c,a⟩:=E4 _ _ _ _ h;exact⟨U,a⟩
theorem T8{b:List UInt8}{x:aF}(h:sG b=some x):x.l.length<=4096/\∀e∈x.l,e.ed.key.length<=8/\e.ed.value.length<=12:=by
 rcases b with _|⟨k,_|⟨r,q⟩⟩
 ·cases h
 ·cases h
 ·rw[HV]at h;split at h
  ·split at h
   ·cases h
   ·split at h
    ·cases h
    ·split at h
     ·cases h
     ·rename_i a;simp only[iE]at h;subst h;split at a
      ·exact Tp a
      ·simp only[iE,kR]at a;obtain⟨rfl,rfl⟩:=a;exact⟨eM _,λe c=>by cases c⟩
  ·cases h
theorem G4{b:List UInt8}(h:gL b=some q):q.length<=b.length:=by
 unfold gL at h;split at h
 ·simp only[iE]at h;rw[<-h,dy];omega
 ·cases h
theorem LF(u v:Value)(a b:List UInt8)(M:List aa)(c:aI M u a)(d:aI M v b)(g:O1 u)(h:O1 v)(e:a.length<=1000000000)(f:b.length<=1000000000):Fn prog 196 #[u,v] M λr L'=>r=.bool (decide (a=b))/\L'=M:=by refine fo func196 ntmps196 ?_;refine rn ?_;intros;refine fr ?_;exact⟨_,rB,cn Value.bool (by rw[Cm]),rfl⟩
@[reducible] def WW(r:Value)(l:Option (aF×Nat))(M L':List aa):Prop:=
 (l=none/\(∃y,r=.tuple #[.agg (bH y (.slice none 0 0)).toArray,.int .i64 0,.bool false])/\L'=M)\/∃x k u,l=some (x,k)/\u.oneCell'=true/\r=.tuple #[.agg (bH x u).toArray,.int .i64 k,.bool true]/\L'=aL u x.l::M
open Classical in
theorem PQ(v0:Value)(b:List UInt8)(M:List aa)(C:aI M v0 b)(H:O1 v0)(z:b.length<=1000000000):Fn prog 185 #[v0] M λr L'=>WW r (iS b) M L':=by
 refine fo func185 ntmps185 ?_;refine rn ?_;intros;refine bc [] J call247 J J (wX _ b _ rD z) ?_;rintro _ _ ⟨rfl,rfl⟩;have j:=th b 0 0;cases hv:iQ b with
 |error e=>
  have m:vT 0 0 b=.error e:=hv;rw[m]at j;have o:e=2\/e=3:=j;have a:iS b=none:=by unfold iS;rw[hv]
  rw[a];unfold oB;simp only;refine rn ?_;intros;refine fr ?_;exact⟨_,rB,.inl ⟨rfl,⟨⟨0,0,0,aj.zero,[]⟩,rfl⟩,rfl⟩⟩
 |ok nk=>
  obtain⟨n,k⟩:=nk;have m:vT 0 0 b=.ok (n,k):=hv;rw[m]at j;have V:0<k/\k<=0+b.length:=j;unfold oB;simp only;by_cases p:b.length<k+n
  ·have a:iS b=none:=by unfold iS;rw[hv];simp only;rw[an p]
   rw[a];refine rn ?_;intros;refine fr ?_;exact⟨_,rB,.inl ⟨rfl,⟨⟨0,0,0,aj.zero,[]⟩,rfl⟩,rfl⟩⟩
  have a:iS b=match gL ((b.take (k+n)).drop k)with
   |none=>none
   |some l=>match sG l with
    |none=>none
    |some x=>if x.aW/\x.bytes=b.take (k+n)then some (x,k+n)else none:=by
   unfold iS;rw[hv];simp only;rw[ai p];rfl
  obtain⟨W,i⟩:∃W,W=b.take (k+n):=⟨_,rfl⟩;have w:W.length=k+n:=by rw[i,dy];omega
  rw[<-i]at a;refine rn ?_;intros;have v:((k:Int)+(n:Int)).toNat=k+n:=U;rw[v,<-i];have q:aI M (bg v0 0 (k+n) 1) W:=by rw[i];exact aI.to C U rfl
  have I:(bg v0 0 (k+n) 1).oneCell'=true:=jB H;have A:aI M (bg (bg v0 0 (k+n) 1) (k:Int).toNat W.length 1) (W.drop k):=ni q U rfl U;have S:(W.drop k).length<=W.length:=by rw[ew];omega
  refine ca [] call194 (Kn _ (W.drop k) _ (A.sub rB) U) ?_;rintro _ _ (⟨f,rfl,rfl⟩|⟨l,u,f,P,rfl,rfl⟩)
  ·rw[f]at a;simp only at a;rw[a];refine rn ?_;intros;refine fr ?_;exact⟨_,rB,.inl ⟨rfl,⟨⟨0,0,0,aj.zero,[]⟩,rfl⟩,rfl⟩⟩
  rw[f]at a;simp only at a;have R:=G4 f;refine rn ?_;intros;refine bc [] J call248 J J (ZF _ l _ rD P U) ?_;rintro _ _ (⟨g,⟨y,rfl⟩,rfl⟩|⟨x,t,g,s,rfl,rfl⟩)
  ·rw[g]at a;simp only at a;rw[a];refine rn ?_;intros;refine fr ?_;exact⟨_,rB,.inl ⟨rfl,⟨⟨0,0,0,aj.zero,[]⟩,rfl⟩,rfl⟩⟩
  rw[g]at a;simp only at a;obtain⟨c8,F⟩:=T8 g;refine rn ?_;intros;refine bc [] J call172 J J (Fu x t _ rD s U (λe o=>by have:=F e o;omega)) ?_;rintro _ _ (⟨d,rfl,rfl⟩|⟨d,Q,L,rfl,rfl⟩)
  ·rw[ai (λh=>d h.1)]at a;rw[a];refine rn ?_;intros;refine fr ?_;exact⟨_,rB,.inl ⟨rfl,⟨⟨0,0,0,aj.zero,[]⟩,rfl⟩,rfl⟩⟩
  have c7:=(x.lR d).2;refine rn ?_;intros;refine bc [] J call196 J J (LF Q (bg v0 0 (k+n) 1) x.bytes W _ rD (q.sub rB) L I U U) ?_;rintro _ _ ⟨rfl,rfl⟩;by_cases c:x.bytes=W
  ·rw[an ⟨d,c⟩]at a;rw[a,bf c];refine rn ?_;intros;refine fr ?_;exact⟨_,rB,.inr ⟨x,k+n,t,rfl,s,by rw[w],rfl⟩⟩
  ·rw[ai (λh=>c h.2)]at a;rw[a,bd c];refine rn ?_;intros;refine fr ?_;exact⟨_,rB,.inl ⟨rfl,⟨⟨0,0,0,aj.zero,[]⟩,rfl⟩,rfl⟩⟩
end
end
section
def jmp(l:Nat)(I:Nat->List Value->List aa->Prop)(m:Nat)(ss:List Nat)(Q:bx):bx
 | .goto l',f,L=>l'=l/\∃a L',a<m/\Sub L' L/\I a (ss.map f) L'
 |e,f,L=>Q e f L
def cq(I:Nat->List Value->List aa->Prop)(ss:List Nat):bx
 | .normal,f,L=>∃m L',Sub L' L/\I m (ss.map f) L'
 |_,_,_=>False
section
variable{P:Program}{n:Nat}{Q:bx}{f:Nat->Value}{L:List aa}
theorem Ex.goto{l:Nat}(h:Q (.goto l) f L):Ex P n (.goto l) Q f L:=λD F w0 f0 ws a w H b=>wp_goto ⟨f,L,H,h⟩
theorem Ex.Ts{c r1 u rest:Code}{l:Nat}(ss:List Nat)(I:Nat->List Value->List aa->Prop)(p:c=.seq r1 (.seq u (.seq (.label l) rest)))(j0:findLabel r1 l=none)(j1:findLabel u l=none)
  (first:Ex P n r1 (bI P n u (cq I ss)) f L)
  (j4:∀(m:Nat) (vs:List Value) (g:Nat->Value) (L':List aa),I m vs L'->Ex P n rest (jmp l I m ss Q) (lA (nv f g (writes c)) ss vs) L'):Ex P n (.scope c) Q f L:=λD F w0 f0 ws a w H hW=>by
 let i:Act->World->Nat->Prop:=λa w m=>∃b L',gB D n F w0 f (λt=>(writes c).any (Nat.beq t)) a w b L'/\I m (ss.map b) L';obtain⟨r,y,s,d9⟩:=H;have c7:∀a w,(∃m,i a w m)->rest.wp P (Exit.jump l (λR w'=>(∃m,i R w' m)/\leastOf (i R w')<leastOf (i a w)) (eN D n F w0 f (λt=>(writes c).any (Nat.beq t)) Q)) a w:=by
  rintro a w ⟨m,A⟩;have hl:=(Bb A).1;obtain⟨b,L',H,z⟩:=hl;have hf:=H.2.2.2;have e:b=lA (nv f b (writes c)) ss (ss.map b):=by
   have:nv f b (writes c)=b:=by
    funext t;unfold nv;cases hb:(writes c).any (Nat.beq t)with
    |true=>simp only[hb]
    |false=>simp only[hb];exact(hf t hb).symm
   rw[this,oW]
  have S:=j4 _ _ b L' z;rw[<-e]at S;refine jo (S D F w0 f _ a w H (λd hd=>?_)) ?_
  ·show(writes c).any (Nat.beq d)=true;simp only[eR];refine⟨d,?_,by simp⟩;rw[p];exact mT _ (mT _ (mT _ hd))
  rintro e a w ⟨j,o,H,q⟩;cases e with
  |goto l'=>
   obtain⟨rfl,m',v,e9,C,c9⟩:=q;have V:i a w m':=⟨j,v,⟨H.1,H.2.1,C w F H.2.2.1,H.2.2.2⟩,c9⟩;exact⟨rfl,⟨m',V⟩,Ea (Bb V).2 e9⟩
  |_=>exact⟨j,o,H,q⟩
 refine jo (Q:=eN D n F w0 f (λt=>(writes c).any (Nat.beq t)) Q) ?_ ?_
 ·refine wp_scope_jumps l (λa w=>∃m,i a w m) (λa w=>leastOf (i a w)) (rest:=.seq .skip rest) (by rw[p];simp[findLabel,j0,j1]) ?_ ?_
  ·have j3:∀(x:Exit->Act->World->Prop),(Code.seq r1 (.seq u (.seq (.label l) rest))).wp P x a w->c.wp P x a w:=λx h=>by rw[p];exact h
   refine j3 _ ?_;refine wp_seq (jo (first D F w0 f _ a w ⟨r,y,s,λ_ _=>rfl⟩ (λd hd=>by show(writes c).any (Nat.beq d)=true;simp only[eR];refine⟨d,?_,by simp⟩;rw[p];exact lk _ hd)) ?_);rintro e a w ⟨j,o,H,q⟩;cases e with
   |normal=>
    refine wp_seq (jo (q D F w0 f _ a w H (λd hd=>by show(writes c).any (Nat.beq d)=true;simp only[eR];refine⟨d,?_,by simp⟩;rw[p];exact mT _ (lk _ hd))) ?_);rintro e a w ⟨j,o,H,q⟩;by_cases W:e=.normal
    case neg=>cases e<;>first|exact absurd rfl W|exact q.elim
    subst W;obtain⟨m,v,C,z⟩:=q;refine wp_seq (wp_label ?_);refine jo (c7 a w ⟨m,j,v,⟨H.1,H.2.1,C w F H.2.2.1,H.2.2.2⟩,z⟩) ?_;intro e a w q;cases e with
    |goto l'=>exact⟨q.1,q.2.1⟩
    |_=>exact q
   |_=>exact q.elim
  ·intro a w A;exact wp_seq (wp_skip (c7 a w A))
 ·rintro e a w ⟨j,o,⟨r,y,s,k⟩,q⟩;refine⟨j,o,⟨r,y,s,λt M=>?_⟩,q⟩;rw[<-d9 t M];refine k t ?_;cases hb:(writes c).any (Nat.beq t)with
  |false=>exact hb
  |true=>simp only[eR]at hb;obtain⟨d,hd,d7⟩:=hb;have:=mj d7;subst this;rw[hW t hd]at M;cases M
end
end
section
theorem ON{α:Type}[ab α]{xs:List α}{j:Nat}(a:j<xs.length):((cellsOf xs).drop (j*ab.sz α)).take (ab.sz α)=ab.cells (xs[j]'a):=by rw[td,vV a];show((ab.cells (xs[j]'a))++cellsOf (xs.drop (j+1))).take (ab.sz α)=_;rw[<-ab.len (xs[j]'a),jL]
theorem NI{α:Type}[ab α]{xs:List α}{j:Nat}(b:j<xs.length)(a:α):(cellsOf xs).take (j*ab.sz α)++ab.cells a++(cellsOf xs).drop (j*ab.sz α+ab.sz α)=cellsOf (xs.set j a):=by have e:xs.set j a=xs.take j++a::xs.drop (j+1):=List.set_eq_take_append_cons_drop .. |>.trans (by rw[an b]);rw[e,nR,rf,<-uo,td];show cellsOf (xs.take j)++ab.cells a++cellsOf (xs.drop (j+1))=cellsOf (xs.take j)++(ab.cells a++cellsOf (xs.drop (j+1)));rw[dB]
section
variable{P:Program}{n:Nat}{ops:Array Oper}{Q:bx}{f:Nat->Value}{L:List aa}{rest:List Oper}{d:Nat}{ty:TypeId}{pos:String}{af:Array Edge}{gd:Option (Nat×Bool)}
variable{α:Type}[ab α]{xs:List α}
end
end
section
def aA:List aa->aa
 |[],_=>True
 |A::As,h=>∃a b:aU,h=a.add b/\a.iN b/\A a/\aA As b
theorem Ie{a b c:aU}:(a.add b).add c=a.add (b.add c):=by funext n;unfold aU.add;cases a n<;>rfl
theorem aA.tV{A:aa}(L:List aa):Sub (A::aA As::L) (aA (A::As)::L):=λw F ⟨h,⟨b,c,g,hd,a,rs⟩,d,s⟩=>by
 subst g;have e:b.iN F:=λn=>by
  rcases d n with x|x
  ·left;unfold aU.add at x;cases hh:b n with
   |none=>rfl
   |some o=>rw[hh]at x;cases x
  ·exact .inr x
 have f:c.iN F:=λn=>by
  rcases d n with x|x
  ·rcases hd n with y|y
   ·left;unfold aU.add at x;rw[y]at x;exact x
   ·exact .inl y
  ·exact .inr x
 refine⟨b,a,e,c,rs,?_,?_⟩
 ·rw[aU.lL];exact⟨vJ hd,f⟩
 ·rw[<-DJ hd,<-Ie];exact s
theorem aA.sa{A:aa}(L:List aa):Sub (aA (A::As)::L) (A::aA As::L):=λw F ⟨c,a,d,e,rs,b,s⟩=>by
 rw[aU.lL]at b;refine⟨c.add e,⟨c,e,rfl,vJ b.1,a,rs⟩,?_,?_⟩
 ·intro n;rcases d n with x|x
  ·rcases b.2 n with y|y
   ·left;unfold aU.add;rw[x];exact y
   ·exact .inr y
  ·exact .inr x
 ·rw[Ie,DJ (vJ b.1)];exact s
theorem aA.nil(L:List aa):Sub (aA []::L) L:=λw F s=>by
 refine⟨λ_=>none,trivial,λn=>Or.inl rfl,?_⟩;have:aU.add (λ_=>none) F=F:=by funext n;rfl
 rw[this];exact s
theorem aA.focus:∀{As:List aa} {i:Nat} {A:aa} (L:List aa),As[i]?=some A->Sub (A::aA (As.eraseIdx i)::L) (aA As::L)
 |[],_,_,_,h=>by simp at h
 |B::As,0,A,L,h=>by
  simp at h;subst h;exact aA.tV L
 |B::As,i+1,A,L,h=>by simp at h;have a:=aA.focus (As:=As) (i:=i) (A:=A) L h;refine ar ?_ (aA.tV L);refine ar ?_ (bl B a);refine ar (bl A (aA.sa (A:=B) (As:=As.eraseIdx i) L)) ?_;exact mm (L:=B::A::aA (As.eraseIdx i)::L) 1 rfl
theorem aA.qt:∀{As:List aa} {i:Nat} (A:aa) (L:List aa),i<As.length->Sub (aA (As.set i A)::L) (A::aA (As.eraseIdx i)::L)
 |[],_,_,_,h=>by simp at h
 |B::As,0,A,L,h=>aA.sa L
 |B::As,i+1,A,L,h=>by have a:=aA.qt (As:=As) (i:=i) A L (by simpa using h);refine ar (aA.sa (A:=B) (As:=As.set i A) L) ?_;refine ar (bl B a) ?_;refine ar (mm (L:=A::B::aA (As.eraseIdx i)::L) 1 rfl) ?_;exact bl A (aA.tV (A:=B) (As:=As.eraseIdx i) L)
theorem aA.last(A:aa):∀(L:List aa),Sub (aA (As++[A])::L) (A::aA As::L):=by
 induction As with
 |nil=>exactλL=>aA.sa L
 |cons B As ih=>intro L;refine ar (aA.sa (A:=B) (As:=As++[A]) L) ?_;refine ar (bl B (ih L)) ?_;refine ar (mm (L:=A::B::aA As::L) 1 rfl) ?_;exact bl A (aA.tV L)
def jf(A B:aa):aa:=aA [A,B]
theorem jf.GJ(A B:aa)(L:List aa):Sub (A::B::L) (jf A B::L):=
 ar (bl A (ar (bl B (iC _ (bW L))) (aA.tV (A:=B) (As:=[]) L))) (aA.tV (A:=A) (As:=[B]) L)
theorem jf.cls(A B:aa)(L:List aa):Sub (jf A B::L) (A::B::L):=
 ar (aA.sa (A:=A) (As:=[B]) L) (bl A (ar (aA.sa (A:=B) (As:=[]) L) (bl B (aA.nil L))))
structure Ptr where
 g:Nat
deriving DecidableEq
instance:ab Ptr:=⟨1,λp=>[.pointer (some ⟨p.g,0,none⟩)],by decide,λ_=>rfl,λ_=>rfl⟩
section
variable{P:Program}{n:Nat}{ops:Array Oper}{Q:bx}{f:Nat->Value}{L:List aa}{rest:List Oper}{d:Nat}{ty:TypeId}{pos:String}{af:Array Edge}{gd:Option (Nat×Bool)}
variable{α:Type}[ab α]{xs:List α}
theorem JT{pre post:List Value}{j q:Nat}(a:j<xs.length)(d:q<ab.sz α):(pre++cellsOf xs++post)[pre.length+j*ab.sz α+q]?=(ab.cells (xs[j]'a))[q]?:=by
 have c:=cN xs;have b:j*ab.sz α+q<xs.length*ab.sz α:=by have:(j+1)*ab.sz α<=xs.length*ab.sz α:=iW _ U;rw[uo]at this;omega
 rw[dB,AU U,show pre.length+j*ab.sz α+q-pre.length=j*ab.sz α+q by omega,qH (by rw[c];exact b)];have:=ON a;rw[<-this,mz,an d,tg]
theorem Qf(i:Nat){t:TypeId}{j:Nat}{pre post:List Value}(xs:List α)(hx:aH f x=.pointer (some ⟨g,o+j*sz,none⟩))(hi:L[i]?=some (ao g bt cs))(h:cs=pre++cellsOf xs++post)(n:pre.length=o)(e:cR P t=some true)(m:P.cellsOf t=sz)(p:ab.sz α=sz)(b:j<xs.length):
  aP P ⟨some d,.load t x,ty,pos,af,gd⟩ f L (.agg (ab.cells (xs[j]'b)).toArray):=λF w s=>by
 subst h;subst n;subst p;have:=vC (P:=P) w (t:=t) (a:=⟨g,pre.length+j*ab.sz α,none⟩) (cs:=ab.cells (xs[j]'b)) e (by rw[m,ab.len]) (by rw[ab.len];exact ab.pos) (λk u c=>by
  rw[iY];have l:k<ab.sz α:=by have:=(iA.1 c).1;rwa[ab.len]at this
  exact jz hi (by rw[JT b l];exact c) s)
 simp[execOp,hx,Instr.loadAt,Instr.sureAddr,this]
theorem Hg(i:Nat){t:TypeId}{j q:Nat}{pre post:List Value}(xs:List α)(hx:aH f x=.pointer (some ⟨g,o+j*sz+q,none⟩))(hi:L[i]?=some (ao g bt cs))(c:cs=pre++cellsOf xs++post)(e:pre.length=o)(b:cR P t=some false)(k:ab.sz α=sz)(a:j<xs.length)(h:q<sz)(l:(ab.cells (xs[j]'a))[q]?=some v):
  aP P ⟨some d,.load t x,ty,pos,af,gd⟩ f L v:=λF w s=>by
 subst c;subst e;subst k;have:=jz hi (o:=pre.length+j*ab.sz α+q) (v:=v) (by rw[JT a h];exact l) s;simp[execOp,hx,Instr.loadAt,Instr.sureAddr,ug w b this]
theorem VP{pre post:List Value}{j:Nat}(b:j<xs.length)(a:α):(pre++cellsOf xs++post).take (pre.length+j*ab.sz α)++ab.cells a++(pre++cellsOf xs++post).drop (pre.length+j*ab.sz α+ab.sz α)=pre++cellsOf (xs.set j a)++post:=by
 have d:=cN xs;have c:j*ab.sz α+ab.sz α<=xs.length*ab.sz α:=by have:(j+1)*ab.sz α<=xs.length*ab.sz α:=iW _ U;rwa[uo]at this
 rw[<-NI b a,dB pre,DZ,FQ,ic (show pre.length<=pre.length+j*ab.sz α by omega),pk (show pre.length<=pre.length+j*ab.sz α+ab.sz α by omega)];rw[show pre.length+j*ab.sz α-pre.length=j*ab.sz α by omega,show pre.length+j*ab.sz α+ab.sz α-pre.length=j*ab.sz α+ab.sz α by omega,Bj U,Am U];simp[dB]
theorem YW(i:Nat){t:TypeId}{j:Nat}{pre post:List Value}(xs:List α){a:α}(hx:aH f x=.pointer (some ⟨g,o+j*sz,none⟩))(hi:L[i]?=some (ao g bt cs))(d:cs=pre++cellsOf xs++post)(l:pre.length=o)(hy:aH f y=.agg (ab.cells a).toArray)(k:P.cellsOf t=sz)(m:ab.sz α=sz)(e:j<xs.length)
  (b:L.set i (ao g bt (pre++cellsOf (xs.set j a)++post))=L')(h:aM P n ops rest Q f L'):aM P n ops (⟨none,.store t x y,ty,pos,af,none⟩::rest) Q f L:=by
 subst d;subst l;subst m;refine FH i hx hy (ab.one a) hi (by rw[k,ab.len]) (by rw[ab.len];exact tA (show 0+1<=_ from ab.pos)) (by rw[ab.len];have p:=cN xs;have c:(j+1)*ab.sz α<=xs.length*ab.sz α:=iW _ U;rw[uo]at c;exact tA (by simp only[bo];omega)) ?_ h;rw[ab.len,VP e a,b]
theorem W4{t:TypeId}{m:Nat}(hx:aH f x=.pointer (some ⟨g,o,none⟩))(h:P.underlying t=some (.array m e))(c:P.cellsOf e=sz)(b:Nat.blt 0 sz=true)(a:Nat.blt 0 m=true):
  aP P ⟨some d,.slice t x none none none,ty,pos,af,gd⟩ f L (.slice (some ⟨g,o,none⟩) m m):=λF w s=>by
 have a:=cT a;simp[execOp,hx,Instr.sliceAt,cX h,Instr.sureAddr,Instr.sliceBounds,gQ w c (cT b),show¬m=0 by omega,iY]
theorem TR{pre post:List Value}{a:List α}(hy:a.length<=xs.length):(pre++cellsOf xs++post).take pre.length++cellsOf a++(pre++cellsOf xs++post).drop (pre.length+(cellsOf a).length)=pre++cellsOf (a++xs.drop a.length)++post:=by have d:=cN xs;have b:=cN a;have c:a.length*ab.sz α<=xs.length*ab.sz α:=iW _ hy;rw[nR,<-td,dB pre,jL,FQ,pk (show pre.length<=pre.length+(cellsOf a).length by omega),show pre.length+(cellsOf a).length-pre.length=(cellsOf a).length by omega,Am U,b];simp[dB]
theorem RC(i:Nat){t t2:TypeId}{m c:Nat}{pre post:List Value}(xs b:List α)(hd:fv n dd=true)(hx:aH f x=.slice (some ⟨g,o,none⟩) m c)(hi:L[i]?=some (ao g bt cs))(V:cs=pre++cellsOf xs++post)(ho:pre.length=o)(hm:xs.length=m)(hy:aH f y=u)(hr:aI L u b)(d:b.length<=m)
  (C:P.underlying t=some (.slice e))(z:P.cellsOf e=sz)(e8:ab.sz α=sz)
  (h:aM P n ops rest Q (cg f dd (.int .i64 (b.length:Nat))) (L.set i (ao g bt (pre++cellsOf (b++xs.drop b.length)++post)))):aM P n ops (⟨dd,.call ⟨.builtin .copy,#[x,y],#[t,t2]⟩,ty,pos,af,none⟩::rest) Q f L:=by
 subst V;subst ho;subst hm;subst e8;subst hy;have q:0<ab.sz α:=ab.pos;refine lr rfl hd (R:=λr L'=>r=.int .i64 (b.length:Nat)/\L'=L.set i (ao g bt (pre++cellsOf (b++xs.drop b.length)++post))) (λF w s=>?_) (λv' L' e=>by obtain⟨rfl,rfl⟩:=e;exact h);obtain⟨hl,a,j0,l,j5,j1,M,S⟩:=hr w F s;have c8:Nat.min b.length xs.length=b.length:=qf d;have c9:min b.length xs.length=b.length:=qf d;cases a with
 |none=>
  have k:b.length=0:=by have:=M rfl;omega
  have H:b=[]:=dZ k;refine⟨_,w,_,.inl ?_,gO w,?_,rfl,rfl⟩
  ·simp[execOp,resolve,invoke,builtin,hx,l,Builtin.copy_,cX C,Builtin.lenOf,Builtin.firstCells,gQ w z q,k,loadCells,loadCellsFrom,storeCells,goInt]
  ·subst H;have I:pre++cellsOf ([]++xs.drop ([]:List α).length)++post=pre++cellsOf xs++post:=by simp
   rw[I,uA hi];exact s
 |some ad=>have p:=run_loadCells_list (P:=P) w ad (cellsOf b) (λj u W=>S ad rfl j u W);rw[cN]at p;have j4:b.length*ab.sz α<=xs.length*ab.sz α:=iW _ d;obtain⟨w',d9,d8,A⟩:=ET (P:=P) (cellsOf b) 0 pre.length w L (pre++cellsOf xs++post) hi (by simp only[bo,cN];omega) (λv hv=>uy _ v hv) s;rw[tn,TR d]at A;refine⟨_,w',_,.inl ?_,d8,A,rfl,rfl⟩;simp[execOp,resolve,invoke,builtin,hx,l,Builtin.copy_,cX C,Builtin.lenOf,Builtin.firstCells,gQ w z q,c8,c9,p,d9,goInt]
theorem zU(r:Nat){t:TypeId}{a:α}(hx:aH f x=fM v (i*sz+0))(hy:aH f y=.agg (ab.cells a).toArray)(hi:L[r]?=some (aK v e xs))(m:P.cellsOf t=sz)(z:ab.sz α=sz)(l:i<xs.length)
  (j:L.set r (aK v e (xs.set i a))=L')(h:aM P n ops rest Q f L'):aM P n ops (⟨none,.store t x y,ty,pos,af,none⟩::rest) Q f L:=by
 subst z;subst j;have d:0<ab.sz α:=ab.pos;refine lr rfl rfl (R:=λ_ b=>b=L.set r (aK v e (xs.set i a))) (λF w s=>?_) (λv b e=>by subst e;exact h);have k:(i+1)*ab.sz α<=xs.length*ab.sz α:=iW _ U;rw[uo]at k;obtain⟨g,w',⟨c,A⟩,q,p,u⟩:=yy (P:=P) (w:=w) (o:=i*ab.sz α) (us:=ab.cells a) (xs':=xs.set i a) hi (by rw[ab.len];omega) (by rw[ab.len];exact d) (ab.one a) (by rw[ab.len];exact NI l a) (by simp) s;refine⟨_,w',_,.inr ⟨?_,rfl⟩,p,u,rfl⟩;subst A;simp only[fM,iY,mL,tn]at hx;simp[execOp,hx,hy,Instr.storeAt,Instr.sureAddr,storeVar,Value.cells,gQ w m d,q,ab.len]
end
end
section
structure ej where
 x:aF
 v:Value
 o:v.oneCell'=true
instance:ab ej:=⟨9,λr=>bH r.x r.v,by decide,λ_=>rfl,λr=>by simp[r.o];exact⟨rfl,rfl,rfl,rfl,rfl,rfl,rfl,rfl⟩⟩
instance:hQ prog 88 ej:=⟨⟨aF.zero,.slice none 0 0,rfl⟩,by kernel_rfl,by kernel_rfl⟩
@[reducible] def jI(v:Value)(l:List ej):aa:=aK v 88 l
def ej.ev(r:ej):aa:=aL r.v r.x.l
theorem TX{ss:List Nat}{f:Nat->Value}{L:List aa}(h:∃m L',Sub L' L/\au m (ss.map f) L'):cq au ss .normal f L:=h
theorem Tr{l:Nat}{m:Nat}{ss:List Nat}{Q:bx}{f:Nat->Value}{L:List aa}(h:∃a L',a<m/\Sub L' L/\au a (ss.map f) L'):jmp l au m ss Q (.goto l) f L:=⟨rfl,h⟩
theorem WU{l:Nat}{m:Nat}{ss:List Nat}{Q:bx}{f:Nat->Value}{L:List aa}(h:Q .ret f L):jmp l au m ss Q .ret f L:=h
theorem UH{P:Program}{n:Nat}{c:Code}{Q:bx}{l:Nat}{f:Nat->Value}{L:List aa}(h:Q (.goto l) f L):bI P n c Q (.goto l) f L:=h
attribute [local irreducible] aA
set_option maxRecDepth 20000 attribute [local irreducible] Ex aM Fn bI bJ bV fin meet ch aX bZ aP aN aI Rd aK Row ao Sub bk bP bS bN bg bR Hid bY
section
attribute [local irreducible] jmp cq
theorem Ic(v0:Value)(b:List UInt8)(M:List aa)(s:aI M v0 b)(w:O1 v0)(A:b.length<=1000000000):Fn prog 125 #[v0] M
  λr L'=>∃(l:List ej) (n:Nat) (u:Value),oR b (l.map (·.x)) n/\n<=b.length/\O1 u/\r=.tuple #[u,.int .i64 n]/\L'=jI u l::aA (l.map ej.ev)::M:=by
 refine fo func125 ntmps125 ?_;refine rn ?_;(repeat(first|intro(g:Nat)|intro(v:Value)|intro(o:O1 _)|intro h));refine Ex.Ts [4,5] (λm vs L'=>∃(k:Nat) (l:List ej) (a:Value),k<=b.length/\m=b.length-k/\a.oneCell'=true/\l.length<=k/\(∀e n,oR (b.drop k) e n->oR b (l.map (·.x)++e) (k+n))/\vs=[a,.int .i64 k]/\L'=jI a l::aA (l.map ej.ev)::M) rfl J J ?_ ?_
 ·refine rn ?_;(repeat(first|intro(g:Nat)|intro(v:Value)|intro(o:O1 _)|intro h));refine TX ⟨_,_,?_,0,[],.slice none 0 0,eM _,rfl,rfl,bj _,λe n h=>by simpa using h,rfl,rfl⟩;exact ar (bl _ (aA.nil M)) (cA (α:=ej) none 88 M)
 rintro m vs g L' ⟨k,l,a,i,rfl,z,C,f,rfl,rfl⟩;have hd:(b.drop k).length=b.length-k:=ew;refine rn ?_;(repeat(first|intro(v:Value)|intro(o:O1 _)|intro h));have t:aI M (bg v0 (k:Int).toNat b.length 1) (b.drop k):=ni s i rfl U;refine ca [] call185 (PQ _ (b.drop k) _ (t.sub rB) (jB w) U) ?_;rintro _ _ (⟨d,⟨y,rfl⟩,rfl⟩|⟨x,n,u,d,j,rfl,rfl⟩)
 ·refine rn ?_;(repeat(first|intro(v:Value)|intro(o:O1 _)|intro h));refine WU ?_;refine fr ?_;have c:=f [] 0 (.nil d);rw[ck,tn]at c;exact⟨_,rB,l,k,a,c,i,z,rfl,rfl⟩
 ·obtain⟨p,q,F⟩:=RS d;have H:=(x.lR p).1;have I:n<=b.length-k:=by have:=cn List.length q;rw[bo,hd]at this;omega
  rw[show bH x u=ab.cells (⟨x,u,j⟩:ej)from rfl];refine rn ?_;(repeat(first|intro(v:Value)|intro(o:O1 _)|intro h));refine Ex.goto (UH (Tr ⟨b.length-(k+n),_,U,?_,k+n,l++[⟨x,u,j⟩],v,U,rfl,o,by rw[bo,oV];omega,?_,av rfl (av (aQ U) rfl),rfl⟩))
  ·rw[dA];exact ar (bl _ (aA.last _ _)) (cW [3,2] rE rB)
  ·intro e L h;rw[<-mO]at h;have c:=f _ _ (.cons d h);rw[dA,dB,qR];exact c
end
end
section
def eQ{κ:Type}[DecidableEq κ](k:κ):List (κ×Value)->Nat->Option (Nat×Value)
 |[],_=>none
 |p::m,i=>if k=p.1 then some (i,p.2)else eQ k m (i+1)
class pM(P:outParam Program)(kt:TypeId)(κ:outParam Type)[DecidableEq κ] where
 kv:κ->Value
 inj:∀a b:κ,kv a=kv b->a=b
 check:∀(w:World) (em:Bool) (a:κ),(Instr.checkKey em 10000 kt (kv a)).run P w=.ok () w
 stays:∀(w:World) (k:κ),(Instr.keyThatStays (kv k) (kv k)).run P w=.ok (kv k) w
 find:∀(w:World) (k:κ) (es:List MapEntry) (m:List (κ×Value)),es.map (λe=>(e.key,e.val))=m.map (λp=>(kv p.1,p.2))->(Instr.findKey kt (kv k) es).run P w=.ok (eQ k m 0) w
def eX{κ:Type}(kv:κ->Value)(g:Nat)(m:List (κ×Value)):aa:=λh=>∃a b,h=aU.one g (.map a b)/\a.toList.map (λe=>(e.key,e.val))=(m.map λp=>(kv p.1,p.2))/\MapKept.Stamped a b
def mv{κ:Type}[DecidableEq κ](k:κ)(v:Value)(m:List (κ×Value)):List (κ×Value):=match eQ k m 0 with|some q=>m.set q.1 (k,v)|none=>m++[(k,v)]
theorem Tk{P:Program}{kt:TypeId}{κ:Type}[ab κ][K:vf P kt κ][DecidableEq κ](k:κ)(w:World):∀(a:List MapEntry) (m:List (κ×Value)) (i:Nat),a.map (λe=>(e.key,e.val))=m.map (λp=>(fc p.1,p.2))->
  (Instr.findAsking kt (fc k) a i).run P w=.ok (eQ k m i) w
 |[],[],i,_=>by simp[Instr.findAsking,eQ]
 |e::a,p::m,i,h=>by
  simp only[kq,jH,kR]at h;obtain⟨⟨d,f⟩,g⟩:=h;have b:=Bc (P:=P) (t:=kt) k p.1 w;unfold Instr.findAsking;rw[d];by_cases c:k=p.1
  ·rw[bf c]at b;rw[show eQ k (p::m) i=some (i,p.2)from an c];simp[b,f]
  ·rw[bd c]at b;rw[show eQ k (p::m) i=eQ k m (i+1)from ai c];simp[b,Tk k w a m (i+1) g]
 |[],_::_,_,h=>by simp at h
 |_::_,[],_,h=>by simp at h
theorem GF{κ:Type}[DecidableEq κ](k:κ):∀(m:List (κ×Value)) (s:Nat),(eQ k m s=none/\∀p∈m,p.1≠k)\/∃i,∃h:i<m.length,(m[i]'h).1=k/\eQ k m s=some (s+i,(m[i]'h).2)
 |[],s=>.inl ⟨rfl,by simp⟩
 |p::m,s=>by
  by_cases a:k=p.1
  ·exact .inr ⟨0,by simp,a.symm,an a⟩
  ·rcases GF k m (s+1)with⟨b,c⟩|⟨i,hi,b,c⟩
   ·refine .inl ⟨(ai a).trans b,λx hx=>?_⟩;rcases gA.1 hx with rfl|hx
    ·exactλh=>a h.symm
    ·exact c x hx
   ·refine .inr ⟨i+1,by simp;omega,by simpa using b,(ai a).trans ?_⟩;rw[c];simp;omega
section
variable{κ:Type}{kv:κ->Value}{L:List aa}{F:aU}{w:World}
theorem xK{m:List (κ×Value)}(hi:L[i]?=some (eX kv g m))(s:aN w L F):∃a b,w.heap[g]?=some (.map a b)/\a.toList.map (λe=>(e.key,e.val))=(m.map λp=>(kv p.1,p.2))/\MapKept.Stamped a b:=by obtain⟨h,⟨a,b,rfl,c,f⟩,d,j⟩:=vW hi s;exact⟨a,b,ue j g _ (nz g _),c,f⟩
theorem vA{m a:List (κ×Value)}{b es':Array MapEntry}{clock':Nat}(hi:L[i]?=some (eX kv g m))(f:w.heap[g]?=some (.map b k))(c:es'.toList.map (λe=>(e.key,e.val))=a.map λp=>(kv p.1,p.2))(o:MapKept.Stamped es' clock')(s:aN w L F):
  aN {w with heap:=w.heap.setIfInBounds g (.map es' clock')} (L.set i (eX kv g a)) F:=by
 obtain⟨h,⟨t,r,rfl,_,_⟩,d,q⟩:=vW hi s;have j:g<w.heap.size:=(gR.1 f).1;refine Dw (o':=.map es' clock') (iA.1 hi).1 d q ⟨es',clock',rfl,c,o⟩ (λn l=>?_) ?_
 ·show(w.heap.setIfInBounds g _)[n]?=_;rw[Ay (ur l)]
 ·show(w.heap.setIfInBounds g _)[g]?=_;simp[j]
end
section
variable{P:Program}{n:Nat}{ops:Array Oper}{Q:bx}{f:Nat->Value}{L:List aa}{rest:List Oper}{d:Nat}{ty:TypeId}{pos:String}{af:Array Edge}{gd:Option (Nat×Bool)}
theorem XQ(kv:H->Value){t:TypeId}(hd:Nat.blt d n=true)(h:∀g,aM P n ops rest Q (aZ f d (.map (some g))) (eX kv g []::L)):aM P n ops (⟨some d,.makeMap t none,ty,pos,af,none⟩::rest) Q f L:=by
 refine lr rfl hd (R:=λv L'=>∃g,v=.map (some g)/\L'=eX kv g []::L) (λF w s=>?_) ?_
 ·refine⟨_,w.alloc (.map #[] 0),_,.inl (by simp[execOp,Instr.makeMap]),yJ (gO w) _,qx _ s (A:=eX kv w.heap.size []) ⟨#[],0,rfl,rfl,MapKept.stamped_empty 0⟩,w.heap.size,rfl,rfl⟩
 ·rintro v L' ⟨g,rfl,rfl⟩;exact h g
variable{κ:Type}[DecidableEq κ]{t kt et:TypeId}[K:pM P kt κ]
theorem Hm{m:List (κ×Value)}{k:κ}{z:Value}{w:World}{F:aU}(c:Bool)(h:P.underlying t=some (.map kt et))(a:((P.info? et).bind (·.zero))=some z)(hi:L[i]?=some (eX K.kv g m))(s:aN w L F):
  (Instr.lookup t (.map (some g)) (K.kv k) c).run P w=.ok (if c then .tuple #[match eQ k m 0 with|some q=>q.2|none=>z,.bool (eQ k m 0).isSome]else match eQ k m 0 with|some q=>q.2|none=>z) w:=by
 obtain⟨d,n,f,j,o⟩:=xK hi s;have b:=K.find w k d.toList m j;have e:=K.check w d.isEmpty k;have l:(zeroValue et).run P w=.ok z w:=by
  cases hii:P.info? et with
  |none=>rw[hii]at a;cases a
  |some inf=>rw[hii]at a;have a:inf.zero=some z:=a;simp[zeroValue,typeInfo,hii,a]
 cases hp:eQ k m 0 with
 |none=>
  rw[hp]at b;cases c<;>simp[Instr.lookup,cX h,nZ f,e,b,l]
 |some q=>rw[hp]at b;cases c<;>simp[Instr.lookup,cX h,nZ f,e,b]
theorem Qn(i:Nat){m:List (κ×Value)}{k:κ}{z:Value}(hx:aH f x=.map (some g))(hy:aH f y=K.kv k)(hi:L[i]?=some (eX K.kv g m))(a:P.underlying t=some (.map kt et))(b:((P.info? et).bind (·.zero))=some z):
  aP P ⟨some d,.lookup t x y false,ty,pos,af,gd⟩ f L (match eQ k m 0 with|some q=>q.2|none=>z):=λF w s=>by
 have:=Hm (P:=P) (k:=k) false a b hi s;simp only[od,oz]at this;simp[execOp,hx,hy,this]
theorem YC(i:Nat){m:List (κ×Value)}{k:κ}{z:Value}(hx:aH f x=.map (some g))(hy:aH f y=K.kv k)(hi:L[i]?=some (eX K.kv g m))(a:P.underlying t=some (.map kt et))(b:((P.info? et).bind (·.zero))=some z):
  aP P ⟨some d,.lookup t x y true,ty,pos,af,gd⟩ f L (.tuple #[match eQ k m 0 with|some q=>q.2|none=>z,.bool (eQ k m 0).isSome]):=λF w s=>by
 have:=Hm (P:=P) (k:=k) true a b hi s;simp only[jn]at this;simp[execOp,hx,hy,this]
theorem FZ{α β:Type}(φ:α->β):∀(l:List α) (i:Nat) (a:α),(l.set i a).map φ=(l.map φ).set i (φ a)
 |[],_,_=>rfl
 |_::_,0,_=>rfl
 |b::l,i+1,a=>by simp[FZ φ l i a]
theorem Hl(a:Array MapEntry)(i:Nat)(key v:Value):((a.modify i λe=>{e with key:=key,val:=v}).toList.map λe=>(e.key,e.val))=(a.toList.map λe=>(e.key,e.val)).set i (key,v):=by
 apply ux;intro j;simp only[kz,ua,qG,yS,bC,Array.length_toList];by_cases b:i=j
 ·subst b;simp only[jn];by_cases c:i<a.size
  ·simp[c]
  ·simp[c]
 ·simp[b]
theorem MZ{a:Array MapEntry}{m:List (κ×Value)}{k:κ}(d:a.toList.map (λe=>(e.key,e.val))=m.map λp=>(K.kv p.1,p.2))(f:∀p∈m,p.1≠k):∀x∈a.toList,x.key=K.kv k->False:=λx hx e=>by have b:(x.key,x.val)∈a.toList.map (λe=>(e.key,e.val)):=rj hx;rw[d]at b;obtain⟨p,g,c⟩:=fA.1 b;simp only[kR]at c;exact f p g (K.inj _ _ (c.1.trans e))
theorem Oo(i:Nat){kv:κ->Value}(c8:K.kv=kv){m:List (κ×Value)}{k:κ}(hx:aH f x=.map (some g))(hy:aH f y=K.kv k)(S:aH f z=v)(hi:L[i]?=some (eX kv g m))(M:P.underlying t=some (.map kt et))
  (V:L.set i (eX kv g (mv k v m))=L')(h:aM P n ops rest Q f L'):aM P n ops (⟨none,.mapUpdate t x y z,ty,pos,af,none⟩::rest) Q f L:=by
 subst V;subst c8;refine lr rfl rfl (R:=λ_ A=>A=L.set i (eX K.kv g (mv k v m))) (λF w s=>?_) (λv A e=>by subst e;exact h);obtain⟨d,r,c,b,I⟩:=xK hi s;have p:=K.find w k d.toList m b;have C:=K.check w false k;rcases GF k m 0 with⟨o,c9⟩|⟨j,W,c7,o⟩
 ·rw[o]at p;have u:mv k v m=m++[(k,v)]:=by unfold mv;rw[o]
  refine⟨undef,_,_,.inr ⟨?_,rfl⟩,?_,vA (es':=d.push {key:=K.kv k,val:=v,born:=r}) (clock':=r+1) hi c (by rw[u];simp[b]) (MapKept.stamped_push I (λx hx e=>MZ b c9 x hx e)) s,rfl⟩
  ·simp[execOp,hx,hy,S,Instr.mapUpdate,cX M,nZ c,C,p,rW _ c]
  ·exact⟨rfl,rfl,rfl⟩
 ·rw[o,mL]at p;have u:mv k v m=m.set j (k,v):=by unfold mv;rw[o];simp
  have q:j<d.size:=by have:=cn List.length b;simp at this;omega
  have H:(d[j]'q).key=K.kv k:=by have a:=cn (λl=>l[j]?) b;simp only[kz,ua]at a;rw[oX q,gV W]at a;simp only[oF,iE,kR]at a;rw[a.1,c7]
  have d6:=K.stays w k;refine⟨undef,_,_,.inr ⟨?_,rfl⟩,?_,vA (es':=d.modify j λe=>{e with key:=K.kv k,val:=v}) (clock':=r) hi c (by rw[u,Hl,b,FZ]) (MapKept.stamped_modify I j _ (λ_ _=>rfl) (λe _ a=>by rw[oX q,iE]at a;subst a;exact H.symm)) s,rfl⟩
  ·simp[execOp,hx,hy,S,Instr.mapUpdate,cX M,nZ c,C,p,rW _ c,q,H,d6]
  ·exact⟨rfl,rfl,rfl⟩
end
end
section
theorem Na(a b:List UInt8):(S a==S b)=decide (a=b):=by rw[Cm,MapKept.bytes_beq];simp
@[reducible] def uC(n:Int):Value:=.int .i64 n
@[reducible] def iG(l:List UInt8):Value:=.string (S l)
theorem Fo{κ:Type}[DecidableEq κ](kv:κ->Value)(d:TypeDesc)(hd:∀a b:κ,Instr.sameNow d (kv a) (kv b)=some (decide (a=b)))(k:κ):∀(c:List MapEntry) (m:List (κ×Value)) (i:Nat),c.map (λe=>(e.key,e.val))=m.map (λp=>(kv p.1,p.2))->Instr.findNow d (kv k) c i=some (eQ k m i)
 |[],[],i,_=>rfl
 |e::c,p::m,i,h=>by
  simp only[kq,jH,kR]at h;obtain⟨⟨g,j⟩,l⟩:=h;unfold Instr.findNow;rw[g,hd];by_cases f:k=p.1
  ·rw[bf f,show eQ k (p::m) i=some (i,p.2)from an f,j]
  ·rw[bd f,show eQ k (p::m) i=eQ k m (i+1)from ai f];exact Fo kv d hd k c m (i+1) l
 |[],_::_,_,h=>by simp at h
 |_::_,[],_,h=>by simp at h
@[reducible] def pM.ofInt{P:Program}{kt:TypeId}(c:P.underlying kt=some (.int .i64)):pM P kt Int where
 kv:=uC
 inj:=λa b h=>by simpa[uC]using h
 check:=λw d a=>by
  have f:∀m,(Instr.checkKey d (m+1) kt (uC a)).run P w=.ok () w:=λm=>by simp[Instr.checkKey,cX c]
  exact f 9999
 stays:=λw k=>by simp[Instr.keyThatStays,Instr.sameBits]
 find:=λw k e m h=>by have:=Fo uC (.int .i64) (λa b=>by simp[Instr.sameNow,uC];rfl) k e m 0 h;simp[Instr.findKey,cX c,this]
@[reducible] def pM.ofStr{P:Program}{kt:TypeId}(c:P.underlying kt=some .string):pM P kt (List UInt8) where
 kv:=iG
 inj:=λa b h=>by simpa[iG]using h
 check:=λw d a=>by
  have f:∀m,(Instr.checkKey d (m+1) kt (iG a)).run P w=.ok () w:=λm=>by simp[Instr.checkKey,cX c]
  exact f 9999
 stays:=λw k=>by simp[Instr.keyThatStays,Instr.sameBits,Na]
 find:=λw k e m h=>by have:=Fo iG .string (λa b=>by simp only[Instr.sameNow,iG,iE];exact Na a b) k e m 0 h;simp[Instr.findKey,cX c,this]
section
variable{P:Program}{n:Nat}{ops:Array Oper}{Q:bx}{f:Nat->Value}{L:List aa}{rest:List Oper}{d:Nat}{ty:TypeId}{pos:String}{af:Array Edge}{gd:Option (Nat×Bool)}
variable{κ:Type}[DecidableEq κ]{kt et t:TypeId}[K:pM P kt κ]
def qb(k:κ)(m:List (κ×Value)):List (κ×Value):=match eQ k m 0 with|some q=>m.eraseIdx q.1|none=>m
def nK(k:κ)(m:List (κ×Value))(z:Value):Value×Bool:=match eQ k m 0 with|some q=>(q.2,true)|none=>(z,false)
theorem Yl(i:Nat){m:List (κ×Value)}{k:κ}{z:Value}(hx:aH f x=.map (some g))(hy:aH f y=K.kv k)(hi:L[i]?=some (eX K.kv g m))(a:P.underlying t=some (.map kt et))(b:((P.info? et).bind (·.zero))=some z):
  aP P ⟨some d,.lookup t x y true,ty,pos,af,gd⟩ f L (.tuple #[(nK k m z).1,.bool (nK k m z).2]):=by
 have h:=YC (P:=P) (d:=d) (ty:=ty) (pos:=pos) (af:=af) (gd:=gd) i hx hy hi a b;unfold nK;cases hp:eQ k m 0 with
 |none=>rw[hp]at h;exact h
 |some q=>rw[hp]at h;exact h
theorem Mw(i:Nat){m:List (κ×Value)}{k:κ}{z:Value}(hx:aH f x=.map (some g))(hy:aH f y=K.kv k)(hi:L[i]?=some (eX K.kv g m))(a:P.underlying t=some (.map kt et))(b:((P.info? et).bind (·.zero))=some z):
  aP P ⟨some d,.lookup t x y false,ty,pos,af,gd⟩ f L (nK k m z).1:=by
 have h:=Qn (P:=P) (d:=d) (ty:=ty) (pos:=pos) (af:=af) (gd:=gd) i hx hy hi a b;unfold nK;cases hp:eQ k m 0 with
 |none=>rw[hp]at h;exact h
 |some q=>rw[hp]at h;exact h
theorem Vg(i:Nat){kv:κ->Value}(C:K.kv=kv){m:List (κ×Value)}{k:κ}(hx:aH f x=.map (some g))(hy:aH f y=K.kv k)(hi:L[i]?=some (eX kv g m))(z:ts[0]?=some t)(u:P.underlying t=some (.map kt et))
  (A:L.set i (eX kv g (qb k m))=L')(h:aM P n ops rest Q f L'):aM P n ops (⟨none,.call ⟨.builtin .delete,#[x,y],ts⟩,ty,pos,af,none⟩::rest) Q f L:=by
 subst A;subst C;refine lr rfl rfl (R:=λ_ l=>l=L.set i (eX K.kv g (qb k m))) (λF w s=>?_) (λv l e=>by subst e;exact h);obtain⟨b,o,a,d,r⟩:=xK hi s;have c:=K.find w k b.toList m d;have p:=K.check w b.isEmpty k;cases hp:eQ k m 0 with
 |none=>
  rw[hp]at c;have j:qb k m=m:=by unfold qb;rw[hp]
  refine⟨.tuple #[],_,_,.inl ?_,?_,vA (es':=b) (clock':=o) hi a (by rw[j,d]) r s,rfl⟩
  ·simp[execOp,resolve,invoke,builtin,hx,hy,Builtin.delete_,z,cX u,nZ a,p,c,rW _ a]
  ·exact⟨rfl,rfl,rfl⟩
 |some q=>
  rw[hp]at c;have j:qb k m=m.eraseIdx q.1:=by unfold qb;rw[hp]
  refine⟨.tuple #[],_,_,.inl ?_,?_,vA (es':=b.eraseIdxIfInBounds q.1) (clock':=o) hi a (by rw[j,Array.toList_eraseIdxIfInBounds,tF,d,tF]) (MapKept.stamped_erase r _) s,rfl⟩
  ·simp[execOp,resolve,invoke,builtin,hx,hy,Builtin.delete_,z,cX u,nZ a,p,c,rW _ a]
  ·exact⟨rfl,rfl,rfl⟩
theorem ym(i:Nat){kv:κ->Value}(c8:K.kv=kv){m:List (κ×Value)}{k:κ}(hx:aH f x=.map (some g))(hy:aH f y=K.kv k)(S:aH f z=v)(hi:L[i]?=some (eX kv g m))(M:P.underlying t=some (.map kt et))
  (V:L.set i (eX kv g (mv k v m))=L')(h:aM P n ops rest Q f L'):aM P n ops (⟨none,.insert t x y z,ty,pos,af,none⟩::rest) Q f L:=by
 subst V;subst c8;refine lr rfl rfl (R:=λ_ A=>A=L.set i (eX K.kv g (mv k v m))) (λF w s=>?_) (λv A e=>by subst e;exact h);obtain⟨d,r,c,b,I⟩:=xK hi s;have p:=K.find w k d.toList m b;have C:=K.check w false k;rcases GF k m 0 with⟨o,c9⟩|⟨j,W,c7,o⟩
 ·rw[o]at p;have u:mv k v m=m++[(k,v)]:=by unfold mv;rw[o]
  refine⟨undef,_,_,.inr ⟨?_,rfl⟩,?_,vA (es':=d.push {key:=K.kv k,val:=v,born:=r}) (clock':=r+1) hi c (by rw[u];simp[b]) (MapKept.stamped_push I (λx hx e=>MZ b c9 x hx e)) s,rfl⟩
  ·simp[execOp,hx,hy,S,Instr.mapUpdate,cX M,nZ c,C,p,rW _ c]
  ·exact⟨rfl,rfl,rfl⟩
 ·rw[o,mL]at p;have u:mv k v m=m.set j (k,v):=by unfold mv;rw[o];simp
  have q:j<d.size:=by have:=cn List.length b;simp at this;omega
  have H:(d[j]'q).key=K.kv k:=by have a:=cn (λl=>l[j]?) b;simp only[kz,ua]at a;rw[oX q,gV W]at a;simp only[oF,iE,kR]at a;rw[a.1,c7]
  have d6:=K.stays w k;refine⟨undef,_,_,.inr ⟨?_,rfl⟩,?_,vA (es':=d.modify j λe=>{e with key:=K.kv k,val:=v}) (clock':=r) hi c (by rw[u,Hl,b,FZ]) (MapKept.stamped_modify I j _ (λ_ _=>rfl) (λe _ a=>by rw[oX q,iE]at a;subst a;exact H.symm)) s,rfl⟩
  ·simp[execOp,hx,hy,S,Instr.mapUpdate,cX M,nZ c,C,p,rW _ c,q,H,d6]
  ·exact⟨rfl,rfl,rfl⟩
end
instance:pM prog 3 Int:=pM.ofInt rQ
instance:pM prog 9 (List UInt8):=pM.ofStr rQ
end
section
set_option maxRecDepth 20000 attribute [local irreducible] Ex aM Fn bI bJ bV fin meet ch aX bZ aP aN aI Rd aK Row ao Sub bk bP bS bN bg bR Hid bY
section
theorem MS(n:Int)(M:List aa):Fn prog 241 #[.int .i64 n] M λr L'=>r=.bool (decide (0<=n/\n<=1048576))/\L'=M:=by
 refine fo func241 ntmps241 ?_;by_cases a:0<=n
 ·by_cases b:n<=1048576
  ·rw[bf (show 0<=n/\n<=1048576 by omega)];refine rn ?_;intros;refine fr ?_;exact⟨_,rB,by first|rfl|(simp;omega),rfl⟩
  ·rw[bd (show¬(0<=n/\n<=1048576)by omega)];refine rn ?_;intros;refine fr ?_;exact⟨_,rB,by first|rfl|(simp;omega),rfl⟩
 ·rw[bd (show¬(0<=n/\n<=1048576)by omega)];refine rn ?_;intros;refine fr ?_;exact⟨_,rB,by first|rfl|(simp;omega),rfl⟩
@[reducible] def lI(a b c:Bool):List Value:=[.bool a,.bool b,.bool c]
def tQ(k:Int):Value:=.agg (lI (decide (dR k)) (decide (eE k)) (decide (eg k))).toArray
def Cc:List (Int×Value):=[(1,.agg (lI true false false).toArray),(2,.agg (lI false true false).toArray),(3,.agg (lI false false true).toArray),(4,.agg (lI true false false).toArray),(5,.agg (lI false false true).toArray)]
theorem RH(k:Int):nK k Cc (Value.agg (lI false false false).toArray)=(tQ k,decide (1<=k/\k<=5)):=by
 have h:k=1\/k=2\/k=3\/k=4\/k=5\/(k≠1/\k≠2/\k≠3/\k≠4/\k≠5):=U;rcases h with rfl|rfl|rfl|rfl|rfl|⟨a,b,c,d,e⟩
 ·rfl
 ·rfl
 ·rfl
 ·rfl
 ·rfl
 ·have f:eQ k Cc 0=none:=by simp[Cc,eQ,a,b,c,d,e]
  unfold nK;rw[f];unfold tQ;simp only;rw[bd (show¬dR k by unfold dR;omega),bd (show¬eE k by unfold eE;omega),bd (show¬eg k by unfold eg;omega),bd (show¬(1<=k/\k<=5)by omega)]
theorem Gz(k:Int)(M:List aa):Fn prog 177 #[.int .i64 k] M λr L'=>r=.tuple #[tQ k,.bool (decide (1<=k/\k<=5))]/\L'=M:=by refine fo func177 ntmps177 ?_;refine rn ?_;intros;refine XQ uC J (λb=>?_);refine rn ?_;intros;refine ym (kt:=3) (et:=278) 0 rfl (k:=(1:Int)) J J J J rQ rfl ?_;refine rn ?_;intros;refine ym (kt:=3) (et:=278) 0 rfl (k:=(2:Int)) J J J J rQ rfl ?_;refine rn ?_;intros;refine ym (kt:=3) (et:=278) 0 rfl (k:=(3:Int)) J J J J rQ rfl ?_;refine rn ?_;intros;refine ym (kt:=3) (et:=278) 0 rfl (k:=(4:Int)) J J J J rQ rfl ?_;refine rn ?_;intros;refine ym (kt:=3) (et:=278) 0 rfl (k:=(5:Int)) J J J J rQ rfl ?_;refine rn ?_;intros;have a:=RH k;refine cH J J J (Yl (kt:=3) (et:=278) 0 (m:=Cc) (k:=k) J J J rQ (z:=.agg (lI false false false).toArray) rQ) ?_;rw[a];unfold tQ;exact bh
end
section
theorem TA(x:aF)(v0:Value)(M:List aa)(hr:aI M v0 x.l)(o0:O1 v0)(hl:x.l.length<=1000000000)(hs:∀e∈x.l,e.ed.key.length<=1000/\e.ed.value.length<=1000):Fn prog 176 #[.agg (bH x v0).toArray] M λv L'=>(∃t:Bool,(t=true↔x.cM)/\v=.bool t)/\L'=M:=by
 refine fo func176 ntmps176 ?_;refine rn ?_;(repeat(first|intro(g:Nat)|intro h));refine ca [] call177 (Gz x.kind _) ?_;rintro _ _ ⟨rfl,rfl⟩;unfold tQ;by_cases A:1<=x.kind/\x.kind<=5
 rotate_left
 ·rw[bd A];refine rn ?_;(repeat(first|intro(g:Nat)|intro h));refine fr ?_;exact⟨_,rB,⟨false,by simp;exactλh=>A h.k,rfl⟩,rfl⟩
 rw[bf A];by_cases C:0<=x.r
 rotate_left
 ·refine rn ?_;(repeat(first|intro(g:Nat)|intro h));refine fr ?_;exact⟨_,rB,⟨false,by simp;exactλh=>C h.r.1,rfl⟩,rfl⟩
 by_cases h3:x.r<5
 rotate_left
 ·refine rn ?_;(repeat(first|intro(g:Nat)|intro h));refine fr ?_;exact⟨_,rB,⟨false,by simp;exactλh=>h3 h.r.2,rfl⟩,rfl⟩
 refine rn ?_;(repeat(first|intro(g:Nat)|intro h));refine ca [] call241 (MS x.upto _) ?_;rintro _ _ ⟨rfl,rfl⟩;by_cases F:0<=x.upto/\x.upto<=1048576
 rotate_left
 ·rw[bd F];refine rn ?_;(repeat(first|intro(g:Nat)|intro h));refine fr ?_;exact⟨_,rB,⟨false,by simp;exactλh=>F h.u,rfl⟩,rfl⟩
 rw[bf F];rename_i w;revert g;intro g3;refine aM.wc 1 [1] (λvs L'=>(¬eE x.kind->x.upto=0)/\(¬eg x.kind->x.c=aj.zero)/\(¬dR x.kind->x.l=[])/\vs=[.pointer (some ⟨w,0,none⟩)]/\L'=ao w 192 (bH x v0)::M) ?_ ?_
 ·rintro vs Q L' ⟨n,k,d,rfl,rfl⟩;refine rn ?_;intros;refine bm [65] (λq vs L'=>∃i:Nat,i<=5/\q=5-i/\(∀j,j<i->0<=x.c.get j/\x.c.get j<=1048576)/\vs=[.int .i64 i]/\L'=ao w 192 (bH x v0)::M) 5 ⟨0,U,rfl,λj f=>by omega,rfl,rfl⟩ ?_;rintro q vs V S ⟨i,hi,rfl,o,rfl,rfl⟩;refine bp [1,64,65] rG (λQ=>?_);by_cases l:i<5
  ·refine rn ?_;intros;refine cH J J J (pU J J J J J U U) ?_;rw[show(⟨x.c.a,x.c.b,x.c.c,x.c.d,x.c.e⟩:aj).get (i:Int).toNat=x.c.get i from rfl];refine rn ?_;intros;refine ca [] call241 (MS (x.c.get i) _) ?_;rintro _ _ ⟨rfl,rfl⟩;by_cases L:0<=x.c.get i/\x.c.get i<=1048576
   ·rw[bf L];refine rn ?_;intros;exact aS ⟨5-(i+1),_,U,rB,i+1,U,rfl,λj f=>by
     rcases mY j i with h|h
     ·exact o j h
     ·rw[show j=i by omega];exact L,av (aQ U) rfl,rfl⟩
   ·rw[bd L];refine rn ?_;intros;refine fr ?_;exact⟨_,rB,⟨false,by simp;exactλh=>L (h.c i l),rfl⟩,rfl⟩
  ·have H:i=5:=U;subst H;clear hi l;have d7:∀i,i<5->0<=x.c.get i/\x.c.get i<=1048576:=o;clear o;by_cases H:x.l.length<=20
   rotate_left
   ·refine rn ?_;intros;refine fr ?_;exact⟨_,rB,⟨false,by simp;exactλh=>H h.m,rfl⟩,rfl⟩
   have fin:(x.kind=1->x.l≠[])->(∀e∈x.l,e.aW)->(x.kind=1->∀e∈x.l,e.r=x.r)->x.cM:=λa b c=>⟨A,⟨C,h3⟩,F,n,k,d,d7,H,a,b,c⟩;by_cases P:x.kind=1
   ·by_cases W:x.l.length=0
    ·refine rn ?_;intros;refine fr ?_;exact⟨_,rB,⟨false,by simp;exactλh=>h.p P (dZ W),rfl⟩,rfl⟩
    ·refine rn ?_;intros;refine bm [90] (λq vs L'=>∃i:Nat,i<=x.l.length/\q=x.l.length-i/\(∀j (f:j<x.l.length),j<i->(x.l[j]'f).aW/\(x.l[j]'f).r=x.r)/\vs=[.int .i64 i]/\L'=ao w 192 (bH x v0)::M) x.l.length ⟨0,U,rfl,λj _ f=>by omega,rfl,rfl⟩ ?_;rintro q vs V S ⟨i,hi,rfl,o,rfl,rfl⟩;refine bp [1,88,89,90] rG (λQ=>?_);by_cases l:i<x.l.length
     ·have d9:=hs _ (bT l);refine rn ?_;intros;refine ca [] call236 (xU (x.l[i]'l) _ U U) ?_;rintro _ _ ⟨⟨y,hy,rfl⟩,rfl⟩;by_cases z:y=0
      ·subst z;have R:=hy.1 rfl;by_cases c8:(x.l[i]'l).r=x.r
       ·refine rn ?_;intros;exact aS ⟨x.l.length-(i+1),_,U,rB,i+1,U,rfl,λj f d8=>by
         rcases mY j i with h|h
         ·exact o j f h
         ·have:j=i:=U;subst this;exact⟨R,c8⟩,av (aQ U) rfl,rfl⟩
       ·refine rn ?_;intros;refine fr ?_;exact⟨_,rB,⟨false,by simp;exactλh=>c8 (h.own P _ (bT l)),rfl⟩,rfl⟩
      ·refine rn ?_;intros;refine fr ?_;exact⟨_,rB,⟨false,by simp;exactλh=>z (hy.2 (h.l _ (bT l))),rfl⟩,rfl⟩
     ·refine rn ?_;intros;refine fr ?_;have I:∀e∈x.l,e.aW/\e.r=x.r:=λe s=>by obtain⟨j,f,rfl⟩:=la s;exact o j f U
      exact⟨_,rB,⟨true,by simp;exact fin (λ_ h=>W (by rw[h];rfl)) (λe s=>(I e s).1) (λ_ e s=>(I e s).2),rfl⟩,rfl⟩
   ·refine rn ?_;intros;refine bm [90] (λq vs L'=>∃i:Nat,i<=x.l.length/\q=x.l.length-i/\(∀j (f:j<x.l.length),j<i->(x.l[j]'f).aW)/\vs=[.int .i64 i]/\L'=ao w 192 (bH x v0)::M) x.l.length ⟨0,U,rfl,λj _ f=>by omega,rfl,rfl⟩ ?_;rintro q vs V S ⟨i,hi,rfl,o,rfl,rfl⟩;refine bp [1,88,89,90] rG (λQ=>?_);by_cases l:i<x.l.length
    ·have d9:=hs _ (bT l);refine rn ?_;intros;refine ca [] call236 (xU (x.l[i]'l) _ U U) ?_;rintro _ _ ⟨⟨y,hy,rfl⟩,rfl⟩;by_cases z:y=0
     ·subst z;have R:=hy.1 rfl;refine rn ?_;intros;exact aS ⟨x.l.length-(i+1),_,U,rB,i+1,U,rfl,λj f d8=>by
       rcases mY j i with h|h
       ·exact o j f h
       ·have:j=i:=U;subst this;exact R,av (aQ U) rfl,rfl⟩
     ·refine rn ?_;intros;refine fr ?_;exact⟨_,rB,⟨false,by simp;exactλh=>z (hy.2 (h.l _ (bT l))),rfl⟩,rfl⟩
    ·refine rn ?_;intros;refine fr ?_;have I:∀e∈x.l,e.aW:=λe s=>by obtain⟨j,f,rfl⟩:=la s;exact o j f U
     exact⟨_,rB,⟨true,by simp;exact fin (λh=>absurd h P) I (λh=>absurd h P),rfl⟩,rfl⟩
 intro p;by_cases a:¬eE x.kind/\x.upto≠0
 ·rw[bd a.1];have a2:=a.2;refine rn ?_;intros;refine fr ?_;exact⟨_,rB,⟨false,by simp;exactλh=>a2 (h.nu a.1),rfl⟩,rfl⟩
 have n:¬eE x.kind->x.upto=0:=λh=>nW λC=>a ⟨h,C⟩;by_cases u:eE x.kind
 ·rw[bf u];by_cases c:eg x.kind
  ·have k:¬eg x.kind->x.c=aj.zero:=λh=>absurd c h;rw[bf c];by_cases e:dR x.kind
   ·have d:¬dR x.kind->x.l=[]:=λh=>absurd e h;rw[bf e];refine rn ?_;intros;exact p _ _ ⟨_,rB,n,k,d,av rfl rfl,rfl⟩
   rw[bd e];by_cases m:x.l.length=0
   ·have d:¬dR x.kind->x.l=[]:=λh=>dZ m;refine rn ?_;intros;exact p _ _ ⟨_,rB,n,k,d,av rfl rfl,rfl⟩
   ·refine rn ?_;intros;refine fr ?_;exact⟨_,rB,⟨false,by simp;exactλh=>m (by rw[h.ne e];rfl),rfl⟩,rfl⟩
  rw[bd c];by_cases c2:x.c=aj.zero
  ·have k:¬eg x.kind->x.c=aj.zero:=λ_=>c2;by_cases e:dR x.kind
   ·have d:¬dR x.kind->x.l=[]:=λh=>absurd e h;rw[bf e];refine rn ?_;intros;refine cH J J J (nF (a:=x.c) (b:=aj.zero) J J c2) ?_;refine rn ?_;intros;exact p _ _ ⟨_,rB,n,k,d,av rfl rfl,rfl⟩
   rw[bd e];by_cases m:x.l.length=0
   ·have d:¬dR x.kind->x.l=[]:=λh=>dZ m;refine rn ?_;intros;refine cH J J J (nF (a:=x.c) (b:=aj.zero) J J c2) ?_;refine rn ?_;intros;exact p _ _ ⟨_,rB,n,k,d,av rfl rfl,rfl⟩
   ·refine rn ?_;intros;refine cH J J J (nF (a:=x.c) (b:=aj.zero) J J c2) ?_;refine rn ?_;intros;refine fr ?_;exact⟨_,rB,⟨false,by simp;exactλh=>m (by rw[h.ne e];rfl),rfl⟩,rfl⟩
  ·refine rn ?_;intros;refine cH J J J (xO (a:=x.c) (b:=aj.zero) J J c2) ?_;refine rn ?_;intros;refine fr ?_;exact⟨_,rB,⟨false,by simp;exactλh=>c2 (h.nc c),rfl⟩,rfl⟩
 ·rw[bd u];have u0:=n u;by_cases c:eg x.kind
  ·have k:¬eg x.kind->x.c=aj.zero:=λh=>absurd c h;rw[bf c];by_cases e:dR x.kind
   ·have d:¬dR x.kind->x.l=[]:=λh=>absurd e h;rw[bf e];refine rn ?_;intros;exact p _ _ ⟨_,rB,n,k,d,av rfl rfl,rfl⟩
   rw[bd e];by_cases m:x.l.length=0
   ·have d:¬dR x.kind->x.l=[]:=λh=>dZ m;refine rn ?_;intros;exact p _ _ ⟨_,rB,n,k,d,av rfl rfl,rfl⟩
   ·refine rn ?_;intros;refine fr ?_;exact⟨_,rB,⟨false,by simp;exactλh=>m (by rw[h.ne e];rfl),rfl⟩,rfl⟩
  rw[bd c];by_cases c2:x.c=aj.zero
  ·have k:¬eg x.kind->x.c=aj.zero:=λ_=>c2;by_cases e:dR x.kind
   ·have d:¬dR x.kind->x.l=[]:=λh=>absurd e h;rw[bf e];refine rn ?_;intros;refine cH J J J (nF (a:=x.c) (b:=aj.zero) J J c2) ?_;refine rn ?_;intros;exact p _ _ ⟨_,rB,n,k,d,av rfl rfl,rfl⟩
   rw[bd e];by_cases m:x.l.length=0
   ·have d:¬dR x.kind->x.l=[]:=λh=>dZ m;refine rn ?_;intros;refine cH J J J (nF (a:=x.c) (b:=aj.zero) J J c2) ?_;refine rn ?_;intros;exact p _ _ ⟨_,rB,n,k,d,av rfl rfl,rfl⟩
   ·refine rn ?_;intros;refine cH J J J (nF (a:=x.c) (b:=aj.zero) J J c2) ?_;refine rn ?_;intros;refine fr ?_;exact⟨_,rB,⟨false,by simp;exactλh=>m (by rw[h.ne e];rfl),rfl⟩,rfl⟩
  ·refine rn ?_;intros;refine cH J J J (xO (a:=x.c) (b:=aj.zero) J J c2) ?_;refine rn ?_;intros;refine fr ?_;exact⟨_,rB,⟨false,by simp;exactλh=>c2 (h.nc c),rfl⟩,rfl⟩
end
section
theorem zy(x:aF)(v0:Value)(M:List aa)(hr:aI M v0 x.l)(o0:O1 v0)(hl:x.l.length<=1000000000)(I:∀e∈x.l,e.ed.key.length<=1000/\e.ed.value.length<=1000):
  Fn prog 109 #[.agg (bH x v0).toArray] M λr L'=>(¬x.cM/\r=.tuple #[.slice none 0 0,.int .i64 1]/\L'=M)\/(x.cM/\∃v,O1 v/\r=.tuple #[v,.int .i64 0]/\L'=bB v x.bu::M):=by
 refine fo func109 ntmps109 ?_;refine rn ?_;(repeat(first|intro(g:Nat)|intro(v:Value)|intro(o:O1 _)|intro(cs:List Value)|intro(a:_=List.set _ _ _)|intro(zs:List _)|intro h));refine bc [] J call176 J J (TA x v0 _ rD o0 hl I) ?_;rintro _ _ ⟨⟨t,z,rfl⟩,rfl⟩;by_cases f:x.cM
 rotate_left
 ·have d7:t=false:=by cases t with|false=>rfl|true=>exact absurd (z.1 rfl) f
  subst d7;refine rn ?_;(repeat(first|intro(g:Nat)|intro(v:Value)|intro(o:O1 _)|intro(cs:List Value)|intro(a:_=List.set _ _ _)|intro(zs:List _)|intro h));refine fr ?_;exact⟨_,rB,.inl ⟨f,rfl,rfl⟩⟩
 have d8:t=true:=z.2 f;subst d8;clear z;have hk:=f.k;have m8:=f.r;have hu:=f.u;have m6:=f.m;have F:=f.c;refine rn ?_;(repeat(first|intro(g:Nat)|intro(v:Value)|intro(o:O1 _)|intro(cs:List Value)|intro(a:_=List.set _ _ _)|intro(zs:List _)|intro h));refine ca [] call177 (Gz x.kind _) ?_;rintro _ _ ⟨rfl,rfl⟩;unfold tQ;revert g;intro k;have l8:x.ez.length=2:=rfl;have d9:=fy (n:=x.upto.toNat) U;have j6:x.im.length<=4:=by
  unfold aF.im;split
  ·exact d9
  ·simp
 have c7:=tH x.c F;have j5:=x.vu f;have W:x.iu.length<=1300:=by
  have:x.dJ.length=x.ez.length+x.iu.length+x.im.length+x.lv.length:=by unfold aF.dJ;simp only[bo]
  omega
 refine aM.vH 2 [1,4,6] (λvs L'=>∃(b:Value) (j:Nat),b.oneCell'=true/\vs=[.pointer (some ⟨k,0,none⟩),.pointer (some ⟨j,0,none⟩),b]/\L'=bB b (x.ez++x.iu)::ao j 278 (lI (decide (dR x.kind)) (decide (eE x.kind)) (decide (eg x.kind)))::ao k 192 (bH x v0)::M) ?_ ?_
 ·rintro vs s L' ⟨b,j,p,rfl,rfl⟩;refine pW 1 [1,4,6] (λvs L'=>∃b:Value,b.oneCell'=true/\vs=[.pointer (some ⟨k,0,none⟩),.pointer (some ⟨j,0,none⟩),b]/\L'=bB b (x.ez++x.iu++x.im)::ao j 278 (lI (decide (dR x.kind)) (decide (eE x.kind)) (decide (eg x.kind)))::ao k 192 (bH x v0)::M) ?_ ?_
  ·rintro vs s L' ⟨b,p,rfl,rfl⟩;refine pW 1 [6] (λvs L'=>∃b:Value,b.oneCell'=true/\vs=[b]/\L'=bB b x.dJ::M) ?_ ?_
   ·rintro vs s L' ⟨b,p,rfl,rfl⟩;have n9:=fy (n:=x.dJ.length) U;refine rn ?_;(repeat(first|intro(g:Nat)|intro(v:Value)|intro(o:O1 _)|intro(cs:List Value)|intro(a:_=List.set _ _ _)|intro(zs:List _)|intro h));refine ca [] call179 (tW x.dJ.length _ U) ?_;rintro Q _ ⟨L,rfl⟩;rw[dc];refine rn ?_;(repeat(first|intro(g:Nat)|intro(v:Value)|intro(o:O1 _)|intro(cs:List Value)|intro(a:_=List.set _ _ _)|intro(zs:List _)|intro h));refine bc [] J call180 J J (KM v (vB x.dJ.length++x.dJ) _ rD (by rw[bo];omega)) ?_;rintro v9 _ ⟨o9,rfl⟩;refine rn ?_;(repeat(first|intro(g:Nat)|intro(v:Value)|intro(o:O1 _)|intro(cs:List Value)|intro(a:_=List.set _ _ _)|intro(zs:List _)|intro h));refine fr ?_;exact⟨_,rB,.inr ⟨f,v9,o9,rfl,rfl⟩⟩
   intro d;by_cases c:eg x.kind
   ·rw[bf c];have e:x.lv=gu x.c 5:=an c;refine rn ?_;(repeat(first|intro(g:Nat)|intro(v:Value)|intro(o:O1 _)|intro(cs:List Value)|intro(a:_=List.set _ _ _)|intro(zs:List _)|intro h));refine bm [6,68] (λq vs L'=>∃(i:Nat) (v:Value),i<=5/\q=5-i/\v.oneCell'=true/\vs=[v,.int .i64 i]/\L'=bB v (x.ez++x.iu++x.im++gu x.c i)::ao j 278 (lI (decide (dR x.kind)) (decide (eE x.kind)) true)::ao k 192 (bH x v0)::M) 5 ⟨0,b,U,rfl,p,rfl,by simp[gu]⟩ ?_;rintro q vs S R ⟨i,C,hi,rfl,A,rfl,rfl⟩;refine bp [6,67,68] rG (λs=>?_);by_cases l:i<5
    ·have j8:=F i l;have a:=tO x.c i;have j4:=c7 i hi;have j7:=fy (n:=(x.c.get i).toNat) U;refine rn ?_;(repeat(first|intro(g:Nat)|intro(v:Value)|intro(o:O1 _)|intro(cs:List Value)|intro(a:_=List.set _ _ _)|intro(zs:List _)|intro h));refine cH J J J (pU J J J J J U U) ?_;rw[show(⟨x.c.a,x.c.b,x.c.c,x.c.d,x.c.e⟩:aj).get (i:Int).toNat=x.c.get i from rfl];refine rn ?_;(repeat(first|intro(g:Nat)|intro(v:Value)|intro(o:O1 _)|intro(cs:List Value)|intro(a:_=List.set _ _ _)|intro(zs:List _)|intro h));refine ca [] call179 (tW (x.c.get i) _ U) ?_;rintro Q _ ⟨L,rfl⟩;refine rn ?_;(repeat(first|intro(g:Nat)|intro(v:Value)|intro(o:O1 _)|intro(cs:List Value)|intro(a:_=List.set _ _ _)|intro(zs:List _)|intro h));rw[show x.ez++x.iu++x.im++gu x.c i++vB (x.c.get i).toNat=x.ez++x.iu++x.im++gu x.c (i+1)by rw[a,dB (x.ez++x.iu++x.im)]];exact aS ⟨5-(i+1),_,U,rB,i+1,v,U,rfl,o,av rfl (av (aQ U) rfl),rfl⟩
    ·have w:i=5:=U;subst w;refine rn ?_;(repeat(first|intro(g:Nat)|intro(v:Value)|intro(o:O1 _)|intro(cs:List Value)|intro(a:_=List.set _ _ _)|intro(zs:List _)|intro h));rw[<-e];exact d _ _ ⟨_,rB,C,A,av rfl rfl,rfl⟩
   ·rw[bd c];refine rn ?_;(repeat(first|intro(g:Nat)|intro(v:Value)|intro(o:O1 _)|intro(cs:List Value)|intro(a:_=List.set _ _ _)|intro(zs:List _)|intro h));have e:x.dJ=x.ez++x.iu++x.im:=by unfold aF.dJ;rw[show x.lv=[]from ai c,ck]
    simp only[e]at d;exact d _ _ ⟨_,rB,b,p,av rfl rfl,rfl⟩
  intro d;by_cases u:eE x.kind
  ·rw[bf u];have e:x.im=vB x.upto.toNat:=an u;refine rn ?_;(repeat(first|intro(g:Nat)|intro(v:Value)|intro(o:O1 _)|intro(cs:List Value)|intro(a:_=List.set _ _ _)|intro(zs:List _)|intro h));refine ca [] call179 (tW x.upto _ U) ?_;rintro Q _ ⟨L,rfl⟩;refine rn ?_;(repeat(first|intro(g:Nat)|intro(v:Value)|intro(o:O1 _)|intro(cs:List Value)|intro(a:_=List.set _ _ _)|intro(zs:List _)|intro h));simp only[e,bf u]at d;exact d _ _ ⟨_,rB,v,o,av rfl (av rfl (av rfl rfl)),rfl⟩
  ·rw[bd u];refine rn ?_;(repeat(first|intro(g:Nat)|intro(v:Value)|intro(o:O1 _)|intro(cs:List Value)|intro(a:_=List.set _ _ _)|intro(zs:List _)|intro h));have e:x.im=[]:=ai u;simp only[e,ck,bd u]at d;exact d _ _ ⟨_,rB,b,p,av rfl (av rfl (av rfl rfl)),rfl⟩
 intro d;by_cases e:dR x.kind
 ·rw[bf e];have m:x.iu=UInt8.ofNat x.l.length::de x.l:=an e;refine rn ?_;(repeat(first|intro(g:Nat)|intro(v:Value)|intro(o:O1 _)|intro(cs:List Value)|intro(a:_=List.set _ _ _)|intro(zs:List _)|intro h));rename_i j g4;obtain⟨P,y⟩:∃P,P=x.ez++[UInt8.ofNat x.l.length]:=⟨_,rfl⟩;have j3:P.length=3:=by rw[y];rfl
  rw[show[UInt8.ofNat x.kind.toNat,UInt8.ofNat x.r.toNat]++[UInt8.ofNat (x.l.length:Int).toNat]=P from y.symm];refine bF (L':=bB v P::ao j 278 (lI true (decide (eE x.kind)) (decide (eg x.kind)))::ao k 192 (bH x v0)::M) ?_ rB;refine bm [6,41] (λq vs L'=>∃(i:Nat) (v:Value),i<=x.l.length/\q=x.l.length-i/\v.oneCell'=true/\vs=[v,.int .i64 i]/\L'=bB v (P++de (x.l.take i))::ao j 278 (lI true (decide (eE x.kind)) (decide (eg x.kind)))::ao k 192 (bH x v0)::M) x.l.length ⟨0,v,U,rfl,o,rfl,by simp[de]⟩ ?_;rintro q vs S R ⟨i,C,hi,rfl,A,rfl,rfl⟩;refine bp [1,4,6,39,40,41] rG (λs=>?_);by_cases l:i<x.l.length
  ·have m9:=I _ (bT l);have H:=f.l _ (bT l);have W:=(vI H).2;have j9:(de (x.l.take i)).length<=60*i:=by have:=vQ (x.l.take i) (λe m=>f.l e (mM m));rw[dy]at this;omega
   have c8:de (x.l.take (i+1))=de (x.l.take i)++(x.l[i]'l).bytes:=by rw[da l,zW];simp[de]
   refine rn ?_;(repeat(first|intro(v:Value)|intro(o:O1 _)|intro h));refine ca [] call178 (Ky (x.l[i]'l) _ U U) ?_;rintro _ _ (⟨d6,_,_⟩|⟨p9,v3,o3,rfl,rfl⟩)
   ·exact absurd H d6
   refine rn ?_;(repeat(first|intro(v:Value)|intro(o:O1 _)|intro h));rw[dB,<-c8];exact aS ⟨x.l.length-(i+1),_,U,rB,i+1,v,U,rfl,o,av rfl (av (aQ U) rfl),rfl⟩
  ·have w:i=x.l.length:=U;subst w;have V:P++de (x.l.take x.l.length)=x.ez++x.iu:=by rw[dI,y,m,dB];rfl
   rw[V];refine rn ?_;intros;simp only[bf e]at d;exact d _ _ ⟨_,rB,C,j,A,av rfl (av rfl (av rfl rfl)),rfl⟩
 ·rw[bd e];have m:x.iu=[]:=ai e;refine rn ?_;intros;simp only[m,ck,bd e]at d;exact d _ _ ⟨_,rB,_,_,rfl,av rfl (av rfl (av rfl rfl)),rfl⟩
end
section
theorem LV(v0:Value)(b:List UInt8)(M:List aa)(i:aI M v0 b)(d:b.length<=1000000000):Fn prog 251 #[v0] M
  λr L'=>(iy b=none/\r=.tuple #[.int .i64 0,.int .i64 0,.bool false]/\L'=M)\/∃(n:Int) (k:Nat),iy b=some (n,b.drop k)/\k<=b.length/\0<=n/\n<=1048576/\r=.tuple #[.int .i64 n,.int .i64 k,.bool true]/\L'=M:=by
 refine fo func251 ntmps251 ?_;refine rn ?_;intros;refine bc [] J call247 J J (wX _ b _ rD d) ?_;rintro _ _ ⟨rfl,rfl⟩;have a:=th b 0 0;cases hv:iQ b with
 |error e=>
  have c:vT 0 0 b=.error e:=hv;rw[c]at a;have f:e=2\/e=3:=a;have hN:iy b=none:=by unfold iy;rw[hv]
  unfold oB;simp only;refine rn ?_;intros;refine fr ?_;exact⟨_,rB,.inl ⟨hN,rfl,rfl⟩⟩
 |ok nk=>
  obtain⟨n,k⟩:=nk;have c:vT 0 0 b=.ok (n,k):=hv;rw[c]at a;have g:0<k/\k<=0+b.length:=a;unfold oB;simp only;by_cases h:1048576<(n:Int)
  ·have hN:iy b=none:=by unfold iy;rw[hv];simp only;rw[an U]
   refine rn ?_;intros;refine fr ?_;exact⟨_,rB,.inl ⟨hN,rfl,rfl⟩⟩
  ·have hN:iy b=some ((n:Int),b.drop k):=by unfold iy;rw[hv];simp only;rw[ai U]
   refine rn ?_;intros;refine fr ?_;exact⟨_,rB,.inr ⟨n,k,hN,U,U,U,rfl,rfl⟩⟩
theorem YO(v0:Value)(b:List UInt8)(M:List aa)(A:aI M v0 b)(F:O1 v0)(t:b.length<=1000000000):Fn prog 250 #[v0] M
  λr L'=>(si b=none/\r=.tuple #[.slice none 0 0,.bool false]/\L'=M)\/∃x u,si b=some x/\O1 u/\r=.tuple #[u,.bool true]/\L'=aL u x::M:=by
 refine fo func250 ntmps250 ?_;rcases b with _|⟨c,q⟩
 ·refine rn ?_;(repeat(first|intro(v:Value)|intro(o:O1 _)|intro h));refine fr ?_;exact⟨_,rB,.inl ⟨rfl,rfl,rfl⟩⟩
 have p:si (c::q)=(gF c.toNat q).map Prod.fst:=rfl;rw[p];have R:=c.toNat_lt;simp only[dL]at t;obtain⟨m,y⟩:∃m,m=c.toNat:=⟨_,rfl⟩;refine rn ?_;(repeat(first|intro(v:Value)|intro(o:O1 _)|intro h));have z:aI M (bg v0 1 (q.length+1) 1) q:=ni A (by simp) rfl J;have H:(bg v0 1 (q.length+1) 1).oneCell'=true:=jB F;rw[<-y];refine bF ?_ (cA (α:=Ev) none 80 M);refine bm [0,4,19] (λk vs L'=>∃(i:Nat) (l:List Ev) (a:List UInt8) (f e:Value),i<=m/\k=m-i/\gF i q=some (l,a)/\f.oneCell'=true/\e.oneCell'=true/\aI M f a/\vs=[f,e,.int .i64 i]/\L'=aL e l::M) m ⟨0,[],q,_,_,U,U,rfl,H,rfl,z,rfl,rfl⟩ ?_;rintro k vs P L ⟨i,l,a,f,e,hi,rfl,g,n,I,C,rfl,rfl⟩;refine bp [0,4,18,19] rG (λQ=>?_);have S:=Dv i q g;by_cases V:i<m
 ·have d:=Bo i q;rw[g]at d;simp only at d;refine rn ?_;(repeat(first|intro(v:Value)|intro(o:O1 _)|intro h));refine bc [] J call290 J J (Jd _ a _ rD n U) ?_;rintro _ _ ⟨rfl,rfl⟩;have W:=Ih a;by_cases j:(gf a).2.2=0
  ·rw[an j]at d;refine rn ?_;(repeat(first|intro(v:Value)|intro(o:O1 _)|intro h));exact aS ⟨m-(i+1),aL v (l++[(gf a).1])::M,U,rB,i+1,_,_,_,v,U,rfl,d,jB n,o,ni C U rfl J,av rfl (av rfl (av (aQ U) rfl)),rfl⟩
  ·rw[ai j]at d;have s:gF m q=none:=by have:=DD (i+1) (m-(i+1)) q d;rwa[show i+1+(m-(i+1))=m by omega]at this
   refine rn ?_;intros;refine fr ?_;exact⟨_,rB,.inl ⟨by rw[s];rfl,rfl,rfl⟩⟩
 ·have w:i=m:=U;subst w;refine rn ?_;intros;refine fr ?_;exact⟨_,rB,.inr ⟨l,e,by rw[g];rfl,I,rfl,rfl⟩⟩
end
end
def og:=@aA.tV
def oi:=@aA.sa
def ly:=@aA.nil
def qA:=@aA.focus
def so:=@aA.last
def vR:=@jf.GJ
def qn:=@jf.cls
end Go.Proofs.YtogcfijlhpaeeaaGreat
