/- Texts. No condition. -/
import Derived.Test.YtogcfijlhpaeeaaGreatYpac
open Go.RowKit Go.Proofs.Tryz
set_option linter.all false
set_option maxHeartbeats 32000000
namespace Go.Proofs.YtogcfijlhpaeeaaGreat
variable{k g:Nat}{t bt:TypeId}{x y:Operand}{L':List aa}{v:Value}{cs zs:List Value}{w0:World}{f0:Nat->Value}{G' p:Prop}{F:aU}{ws:Nat->Bool}{l':List (Nat×Oper)}
section
def gU(b:List UInt8)(r:Int):Nat->Rs->aj×Rs
 |0,s=>(aj.zero,s)
 |m+1,s=>if(m:Int)=r then gU b r m s else((gU b r m s).1.set m (hU b (gU b r m s).2 0 1048576).1,(hU b (gU b r m s).2 0 1048576).2)
def iU(b:List UInt8):Int×Rs:=jD b (0,0) 1 5
def fN(b:List UInt8):Int×Rs:=jD b (iU b).2 0 4
def iq(b:List UInt8):Int×Rs:=hU b (fN b).2 1 1048576
def pR(b:List UInt8):aj×Rs:=gU b (fN b).1 5 (iq b).2
def nH(b:List UInt8):Int×Rs:=hU b (pR b).2 1 16777216
def jq(b:List UInt8):Int×Rs:=jD b (nH b).2 1 8
def lp(b:List UInt8):List UInt8×Rs:=lQ b (jq b).2 (jq b).1 iH
def oQ(b:List UInt8):Int×Rs:=jD b (lp b).2 0 1
def jw(b:List UInt8):Int×Rs:=jD b (oQ b).2 1 12
def oU(b:List UInt8):List UInt8×Rs:=lQ b (jw b).2 (jw b).1 mR
def uM(b:List UInt8):aj:=(pR b).1.set (fN b).1.toNat ((iq b).1-1)
def gZ(b:List UInt8):Ev×Rs:=
 if(iU b).1=1\/(iU b).1=2 then(⟨(fN b).1,(iq b).1,uM b,(nH b).1,⟨(iU b).1,(lp b).1,0,[]⟩⟩,(lp b).2)
 else(⟨(fN b).1,(iq b).1,uM b,(nH b).1,⟨(iU b).1,(lp b).1,(oQ b).1,(oU b).1⟩⟩,(oU b).2)
def gf(b:List UInt8):Ev×Nat×Int:=if(gZ b).2.1=0 then((gZ b).1,(gZ b).2.2,0)else(Ev.zero,0,(gZ b).2.1)
theorem xF(b:List UInt8)(s:Rs)(lo hi:Int)(h:s.2<=b.length):(jD b s lo hi).2.2<=b.length/\s.2<=(jD b s lo hi).2.2/\((jD b s lo hi).1=0\/lo<=(jD b s lo hi).1/\(jD b s lo hi).1<=hi):=by
 unfold jD;by_cases c:s.1≠0
 ·rw[an c];exact⟨h,bj _,.inl rfl⟩
 ·rw[ai c];by_cases a:s.2<b.length
  ·rw[gV a];simp only;split
   ·rename_i d;exact⟨a,by simp,.inr d⟩
   ·exact⟨a,by simp,.inl rfl⟩
  ·rw[pG U];exact⟨h,bj _,.inl rfl⟩
theorem Fv(b:List UInt8)(s:Rs)(lo hi:Int)(h:s.2<=b.length):(hU b s lo hi).2.2<=b.length/\s.2<=(hU b s lo hi).2.2/\((hU b s lo hi).1=0\/lo<=(hU b s lo hi).1/\(hU b s lo hi).1<=hi):=by
 unfold hU;by_cases c:s.1≠0
 ·rw[an c];exact⟨h,bj _,.inl rfl⟩
 ·rw[ai c];have a:=th (b.drop s.2) 0 0;rw[ew]at a;rcases hv:iQ (b.drop s.2)with x|⟨n,k⟩
  ·exact⟨h,bj _,.inl rfl⟩
  ·have d:vT 0 0 (b.drop s.2)=.ok (n,k):=hv;rw[d]at a;have e:0<k/\k<=0+(b.length-s.2):=a;simp only;split
   ·exact⟨h,bj _,.inl rfl⟩
   ·refine⟨?_,?_,.inr ?_⟩
    ·show s.2+k<=b.length;omega
    ·show s.2<=s.2+k;omega
    ·show lo<=(n:Int)/\(n:Int)<=hi;omega
theorem Bu(b:List UInt8)(s:Rs)(n:Int)(a:List UInt8->Int)(h:s.2<=b.length)(e:0<=n):(lQ b s n a).2.2<=b.length/\s.2<=(lQ b s n a).2.2/\((lQ b s n a).1.length:Int)<=n:=by
 unfold lQ;by_cases c:s.1≠0
 ·rw[an c];exact⟨h,bj _,by simpa using e⟩
 ·rw[ai c];by_cases d:(b.length:Int)-s.2<n
  ·rw[an d];exact⟨h,bj _,by simpa using e⟩
  ·rw[ai d];refine⟨?_,?_,?_⟩
   ·show s.2+n.toNat<=b.length;omega
   ·show s.2<=s.2+n.toNat;omega
   ·simp only[dy,ew];omega
theorem Eb(b:List UInt8)(r:Int)(s:Rs)(h:s.2<=b.length):∀m,(gU b r m s).2.2<=b.length/\s.2<=(gU b r m s).2.2
 |0=>⟨h,bj _⟩
 |m+1=>by
  have a:=Eb b r s h m;unfold gU;split
  ·exact a
  ·have:=Fv b (gU b r m s).2 0 1048576 a.1;exact⟨this.1,za a.2 this.2.1⟩
theorem La(b:List UInt8)(r:Int)(m:Nat)(s:Rs):gU b r (m+1) s=if(m:Int)=r then gU b r m s else((gU b r m s).1.set m (hU b (gU b r m s).2 0 1048576).1,(hU b (gU b r m s).2 0 1048576).2):=rfl
theorem nw(b:List UInt8):(iU b).2.2<=b.length/\(fN b).2.2<=b.length/\(iq b).2.2<=b.length/\(pR b).2.2<=b.length/\(nH b).2.2<=b.length/\(jq b).2.2<=b.length/\(lp b).2.2<=b.length/\(oQ b).2.2<=b.length/\(jw b).2.2<=b.length/\(oU b).2.2<=b.length
  /\(0<=(fN b).1/\(fN b).1<=4)/\(0<=(jq b).1/\(jq b).1<=8)/\(0<=(jw b).1/\(jw b).1<=12)/\(0<=(iq b).1/\(iq b).1<=1048576):=by
 have f:=xF b (0,0) 1 5 (eM _);have a:=xF b (iU b).2 0 4 f.1;have c:=Fv b (fN b).2 1 1048576 a.1;have g:=Eb b (fN b).1 (iq b).2 c.1 5;have h:=Fv b (pR b).2 1 16777216 g.1;have d:=xF b (nH b).2 1 8 h.1;have i:0<=(jq b).1/\(jq b).1<=8:=by have:=d.2.2;unfold jq;omega
 have j:=Bu b (jq b).2 (jq b).1 iH d.1 i.1;have k:=xF b (lp b).2 0 1 j.1;have e:=xF b (oQ b).2 1 12 k.1;have l:0<=(jw b).1/\(jw b).1<=12:=by have:=e.2.2;unfold jw;omega
 have m:=Bu b (jw b).2 (jw b).1 mR e.1 l.1;refine⟨f.1,a.1,c.1,g.1,h.1,d.1,j.1,k.1,e.1,m.1,?_,i,l,?_⟩
 ·have:=a.2.2;unfold fN;omega
 ·have:=c.2.2;unfold iq;omega
theorem Ih(b:List UInt8):(gf b).2.1<=b.length:=by
 have h:=nw b;unfold gf;split
 ·unfold gZ;split
  ·exact h.2.2.2.2.2.2.1
  ·exact h.2.2.2.2.2.2.2.2.2.1
 ·exact eM _
theorem X8(b:List UInt8):(gZ b).1.ed.key.length<=8/\(gZ b).1.ed.value.length<=12:=by
 have h:=nw b;have e:=Bu b (jq b).2 (jq b).1 iH h.2.2.2.2.2.1 h.2.2.2.2.2.2.2.2.2.2.2.1.1;have d:=Bu b (jw b).2 (jw b).1 mR h.2.2.2.2.2.2.2.2.1 h.2.2.2.2.2.2.2.2.2.2.2.2.1.1;have g:=e.2.2;have f:=d.2.2;have j:=h.2.2.2.2.2.2.2.2.2.2.2.1.2;have i:=h.2.2.2.2.2.2.2.2.2.2.2.2.1.2;have a:(lp b).1.length<=8:=by unfold lp;omega
 have c:(oU b).1.length<=12:=by unfold oU;omega
 unfold gZ;split
 ·exact⟨a,eM _⟩
 ·exact⟨a,c⟩
theorem NV(b:List UInt8):(gf b).1.ed.key.length<=8/\(gf b).1.ed.value.length<=12:=by
 unfold gf;split
 ·exact X8 b
 ·exact⟨eM _,eM _⟩
theorem xb(p q:List UInt8)(c:UInt8)(lo hi:Int)(h:lo<=(c.toNat:Int)/\(c.toNat:Int)<=hi):jD (p++c::q) (0,p.length) lo hi=((c.toNat:Int),(0,p.length+1)):=by
 unfold jD;rw[ai (by simp)];have:(p++c::q)[p.length]?=some c:=by simp
 simp only[this];rw[an h]
theorem EO(p q:List UInt8)(n:Nat)(lo hi:Int)(h:lo<=(n:Int)/\(n:Int)<=hi)(a:n<2^63):hU (p++(vB n++q)) (0,p.length) lo hi=((n:Int),(0,p.length+(vB n).length)):=by
 unfold hU;rw[ai (by simp)];have:(p++(vB n++q)).drop p.length=vB n++q:=by simp
 simp only[this,wb a];rw[ai U]
theorem N7(p s q:List UInt8)(n:Int)(a:List UInt8->Int)(h:n=s.length)(b:a s=0):lQ (p++(s++q)) (0,p.length) n a=(s,(0,p.length+s.length)):=by
 subst h;unfold lQ;rw[ai (by simp),ai (by simp only[bo];omega)];have:(List.drop p.length (p++(s++q))).take (s.length:Int).toNat=s:=by rw[dc,rA,jL]
 rw[this,b,dc];rfl
theorem aj.zm{a b:aj}(h:∀i,i<5->a.get i=b.get i):a=b:=by obtain⟨j,k,l,m,n⟩:=a;obtain⟨o,p,q,r,s⟩:=b;have c:=h 0 U;have d:=h 1 U;have e:=h 2 U;have f:=h 3 U;have g:=h 4 U;simp only[aj.get]at c d e f g;subst c d e f g;rfl
theorem aj.yf(c:aj)(i j:Nat)(x:Int)(hi:i<5)(d:j<5):(c.set i x).get j=if j=i then x else c.get j:=by have a:i=0\/i=1\/i=2\/i=3\/i=4:=U;have b:j=0\/j=1\/j=2\/j=3\/j=4:=U;rcases a with rfl|rfl|rfl|rfl|rfl<;>rcases b with rfl|rfl|rfl|rfl|rfl<;>rfl
theorem L0(p q:List UInt8)(c:aj)(r:Int)(g:∀i,i<5->0<=c.get i/\c.get i<=1048576):∀m,m<=5->∀z,(∃t,cP c r 5++q=cP c r m++t/\z=p++(cP c r m++t))->
  (gU z r m (0,p.length)).2=(0,p.length+(cP c r m).length)/\∀i,i<5->(gU z r m (0,p.length)).1.get i=if i<m/\(i:Int)≠r then c.get i else 0
 |0,_,z,_=>by
  refine⟨by simp[gU,cP],λi hi=>?_⟩;rw[ai U];have:i=0\/i=1\/i=2\/i=3\/i=4:=U;rcases this with rfl|rfl|rfl|rfl|rfl<;>rfl
 |m+1,hm,z,⟨t,ht,hz⟩=>by
  have a:=px c r m;have d:=L0 p q c r g m U z ⟨(if(m:Int)=r then[]else vB (c.get m).toNat)++t,by rw[ht,a,dB],by rw[hz,a,dB]⟩;rw[La];by_cases e:(m:Int)=r
  ·rw[an e]at a⊢
   rw[ck]at a;rw[a];refine⟨d.1,λi hi=>?_⟩;rw[d.2 i hi];by_cases b:i<m/\(i:Int)≠r
   ·rw[an b,an U]
   ·rw[ai b,ai U]
  ·rw[ai e]at a⊢
   have j:=g m U;have hN:hU z (gU z r m (0,p.length)).2 0 1048576=(c.get m,(0,p.length+(cP c r (m+1)).length)):=by rw[d.1];have f:=EO (p++cP c r m) t (c.get m).toNat 0 1048576 U U;rw[bo,dB,<-dB (cP c r m),<-a,<-hz]at f;rw[f,a,bo,uD j.1,qR]
   rw[hN];refine⟨rfl,λi hi=>?_⟩;show((gU z r m (0,p.length)).1.set m (c.get m)).get i=_;rw[aj.yf _ _ _ _ U hi,d.2 i hi];by_cases h:i=m
   ·subst h;rw[an rfl,an ⟨U,e⟩]
   ·rw[ai h];by_cases b:i<m/\(i:Int)≠r
    ·rw[an b,an U]
    ·rw[ai b,ai U]
theorem jM(k:Int)(a:0<=k)(b:k<256):((UInt8.ofNat k.toNat).toNat:Int)=k:=by
 have:(UInt8.ofNat k.toNat).toNat=k.toNat:=by simp;omega
 rw[this];omega
theorem OV(e:Ev)(l:e.aW)(q:List UInt8):gf (e.bytes++q)=(e,e.bytes.length,0):=by
 have v:=Ed.vO l.ed;have hr:=l.r;have hn:=l.n;have hh:=l.h;have hc:=l.c;have j1:=l.own;obtain⟨b,p⟩:∃b,b=e.bytes++q:=⟨_,rfl⟩;rw[<-p];have r:iU b=(e.ed.kind,(0,1)):=by have:=xb [] (UInt8.ofNat e.r.toNat::(vB e.n.toNat++(cP e.c e.r 5++(vB e.h.toNat++(jQ e.ed++q))))) (UInt8.ofNat e.ed.kind.toNat) 1 5 (by rw[jM _ U U];omega);rw[jM _ U U]at this;unfold iU;rw[p];simpa[Ev.bytes]using this
 have R:fN b=(e.r,(0,2)):=by have:=xb [UInt8.ofNat e.ed.kind.toNat] (vB e.n.toNat++(cP e.c e.r 5++(vB e.h.toNat++(jQ e.ed++q)))) (UInt8.ofNat e.r.toNat) 0 4 (by rw[jM _ U U];omega);rw[jM _ U U]at this;unfold fN;rw[r,p];simpa[Ev.bytes]using this
 obtain⟨o,w⟩:∃o,o=[UInt8.ofNat e.ed.kind.toNat,UInt8.ofNat e.r.toNat]:=⟨_,rfl⟩;have l0:o.length=2:=by rw[w];rfl
 have Q:b=o++(vB e.n.toNat++(cP e.c e.r 5++(vB e.h.toNat++(jQ e.ed++q)))):=by rw[p,w];simp[Ev.bytes]
 have N:iq b=(e.n,(0,2+(vB e.n.toNat).length)):=by have:=EO o (cP e.c e.r 5++(vB e.h.toNat++(jQ e.ed++q))) e.n.toNat 1 1048576 U U;unfold iq;rw[R,<-l0,Q,this,uD U]
 obtain⟨c,x⟩:∃c,c=o++vB e.n.toNat:=⟨_,rfl⟩;have l1:c.length=2+(vB e.n.toNat).length:=by rw[x,bo,l0]
 have S:b=c++(cP e.c e.r 5++(vB e.h.toNat++(jQ e.ed++q))):=by rw[Q,x,dB]
 have C:=L0 c (vB e.h.toNat++(jQ e.ed++q)) e.c e.r hc 5 (bj _) b ⟨vB e.h.toNat++(jQ e.ed++q),rfl,S⟩;have C1:(pR b).2=(0,c.length+(cP e.c e.r 5).length):=by unfold pR;rw[N,R,<-l1];exact C.1
 have P:uM b=e.c:=by
  unfold uM pR;rw[N,R,<-l1];refine aj.zm λi hi=>?_;rw[aj.yf _ _ _ _ U hi,C.2 i hi];by_cases h:i=e.r.toNat
  ·rw[an h,h,j1]
  ·rw[ai h,an U]
 obtain⟨d,y⟩:∃d,d=c++cP e.c e.r 5:=⟨_,rfl⟩;have l2:d.length=c.length+(cP e.c e.r 5).length:=by rw[y,bo]
 have V:b=d++(vB e.h.toNat++(jQ e.ed++q)):=by rw[S,y,dB]
 have H:nH b=(e.h,(0,d.length+(vB e.h.toNat).length)):=by
  have:=EO d (jQ e.ed++q) e.h.toNat 1 16777216 U U;unfold nH;rw[C1,<-l2]
  conv=>lhs;rw[V]
  rw[this,uD U]
 obtain⟨f,z⟩:∃f,f=d++vB e.h.toNat:=⟨_,rfl⟩;have l3:f.length=d.length+(vB e.h.toNat).length:=by rw[z,bo]
 obtain⟨t,M⟩:∃t,t=(if e.ed.kind=1\/e.ed.kind=2 then[]else UInt8.ofNat e.ed.label.toNat::sB e.ed.value)++q:=⟨_,rfl⟩;have W:b=f++(UInt8.ofNat e.ed.key.length::(e.ed.key++t)):=by rw[V,z,M];simp[jQ,sB]
 have d9:jq b=((e.ed.key.length:Int),(0,f.length+1)):=by
  have k:((UInt8.ofNat e.ed.key.length).toNat:Int)=e.ed.key.length:=by have:=jM (e.ed.key.length:Int) U U;simpa using this
  have:=xb f (e.ed.key++t) (UInt8.ofNat e.ed.key.length) 1 8 (by rw[k];omega);unfold jq;rw[H,<-l3,W,this,k]
 obtain⟨a,A⟩:∃a,a=f++[UInt8.ofNat e.ed.key.length]:=⟨_,rfl⟩;have l4:a.length=f.length+1:=by rw[A,bo];rfl
 have b4:b=a++(e.ed.key++t):=by rw[W,A];simp
 have j3:iH e.ed.key=0:=by
  have:=l.ed;unfold Ed.err at this;split at this
  ·omega
  ·split at this
   ·exact absurd this (by assumption)
   ·rename_i h;exact Bs.1 h
 have KEY:lp b=(e.ed.key,(0,a.length+e.ed.key.length)):=by have:=N7 a e.ed.key t e.ed.key.length iH rfl j3;unfold lp;rw[d9,<-l4,b4];exact this
 have s:e.bytes=a++e.ed.key++(if e.ed.kind=1\/e.ed.kind=2 then[]else UInt8.ofNat e.ed.label.toNat::sB e.ed.value):=by rw[A,z,y,x,w];simp[Ev.bytes,jQ,sB]
 by_cases n:e.ed.kind=1\/e.ed.kind=2
 ·have hx:=v.2.2.2.2.1 n;have u:gZ b=(e,(0,e.bytes.length)):=by
   unfold gZ;rw[r,R,N,P,H,KEY,an n];have k:(⟨e.ed.kind,e.ed.key,0,[]⟩:Ed)=e.ed:=by rw[<-hx.1,<-hx.2]
   simp only[k];rw[s,an n,ck,bo]
  unfold gf;rw[u];rfl
 ·rw[ai n]at M s;obtain⟨g,F⟩:∃g,g=a++e.ed.key:=⟨_,rfl⟩;have l5:g.length=a.length+e.ed.key.length:=by rw[F,bo]
  have b5:b=g++(UInt8.ofNat e.ed.label.toNat::(sB e.ed.value++q)):=by rw[b4,F,M,dB];rfl
  have m6:0<=e.ed.label/\e.ed.label<=1:=U;have LBb:oQ b=(e.ed.label,(0,g.length+1)):=by have:=xb g (sB e.ed.value++q) (UInt8.ofNat e.ed.label.toNat) 0 1 (by rw[jM _ U U];omega);unfold oQ;rw[KEY,<-l5,b5,this,jM _ U U]
  obtain⟨j,I⟩:∃j,j=g++[UInt8.ofNat e.ed.label.toNat]:=⟨_,rfl⟩;have l6:j.length=g.length+1:=by rw[I,bo];rfl
  have b6:b=j++(UInt8.ofNat e.ed.value.length::(e.ed.value++q)):=by rw[b5,I];simp[sB]
  have m9:=v.2.2.2.2.2 n;have n8:=v.2.2.2.1;have VL:jw b=((e.ed.value.length:Int),(0,j.length+1)):=by
   have k:((UInt8.ofNat e.ed.value.length).toNat:Int)=e.ed.value.length:=by have:=jM (e.ed.value.length:Int) U U;simpa using this
   have:=xb j (e.ed.value++q) (UInt8.ofNat e.ed.value.length) 1 12 (by rw[k];omega);unfold jw;rw[LBb,<-l6,b6,this,k]
  obtain⟨m,L⟩:∃m,m=j++[UInt8.ofNat e.ed.value.length]:=⟨_,rfl⟩;have l7:m.length=j.length+1:=by rw[L,bo];rfl
  have b7:b=m++(e.ed.value++q):=by rw[b6,L];simp
  have j4:mR e.ed.value=0:=by unfold mR;rw[an U]
  have VAL:oU b=(e.ed.value,(0,m.length+e.ed.value.length)):=by have:=N7 m e.ed.value q e.ed.value.length mR rfl j4;unfold oU;rw[VL,<-l7,b7];exact this
  have u:gZ b=(e,(0,e.bytes.length)):=by
   unfold gZ;rw[r,R,N,P,H,KEY,ai n,LBb,VAL];have:e.bytes.length=m.length+e.ed.value.length:=by rw[s,L,I,F];simp[sB];omega
   rw[this]
  unfold gf;rw[u];rfl
end
section
def AJ(ops:Array Oper)(kd:Nat->Nat)(m:Nat):Bool:=(List.range m).all λj=>!fu (kd j)||(List.range m).all λk=>!Nat.beq (kd k) 1||Nat.blt k j
def du(P:Program)(n:Nat)(ops:Array Oper)(kd:Nat->Nat)(Lb Le:List aa)(Z:(Nat->Value)->List aa->Prop):List (Nat×Oper)->(Nat->Value)->List aa->Prop
 |[],f,L=>(∃D F w a,gz D n a f/\aN w L F)->∃b,Sub b L/\Z f b
 |(i,o)::l,f,L=>(∃D F w a,gz D n a f/\aN w L F)->
  if fB ops f o=true then
   if kd i=0 then∃v,aP P o f Lb v/\du P n ops kd Lb Le Z l (cg f o.dst v) L
   else if kd i=1 then∃v,aP P o f Le v/\du P n ops kd Lb Le Z l (cg f o.dst v) L
   else∀F w0 w,Rest w0 w->aN w L F->LW P o f w λv w'=>∃b,bk Lb b/\Rest w0 w'/\aN w' b F/\du P n ops kd Lb Le Z l (cg f o.dst v) b
  else du P n ops kd Lb Le Z l (cg f o.dst undef) L
section
variable{P:Program}{n:Nat}{ops:Array Oper}{kd:Nat->Nat}{Lb Le:List aa}{m:Nat}{Z:(Nat->Value)->List aa->Prop}
theorem du.tail{x:Nat×Oper}{l:List (Nat×Oper)}(b:∀f L,bk Lb L->du P n ops kd Lb Le Z l f L->du P n ops kd Lb Le Z l' f L){f:Nat->Value}{L:List aa}(c:bk Lb L)(h:du P n ops kd Lb Le Z (x::l) f L):du P n ops kd Lb Le Z (x::l') f L:=by
 obtain⟨i,o⟩:=x;intro W;have a:=h W;split
 ·rename_i k;rw[an k]at a;split
  ·rename_i d;rw[an d]at a;obtain⟨v,j,g⟩:=a;exact⟨v,j,b _ _ c g⟩
  ·rename_i d;rw[ai d]at a;split
   ·rename_i e;rw[an e]at a;obtain⟨v,j,g⟩:=a;exact⟨v,j,b _ _ c g⟩
   ·rename_i e;rw[ai e]at a;exactλF w0 w r s=>(a F w0 w r s).mono λv w' ⟨p,m,q,t,u⟩=>⟨p,m,q,t,b _ _ m u⟩
 ·rename_i k;rw[ai k]at a;exact b _ _ c a
theorem du.qp:∀{l:List (Nat×Oper)} {f:Nat->Value} {L:List aa},((∃D F w a,gz D n a f/\aN w L F)->du P n ops kd Lb Le Z l f L)->du P n ops kd Lb Le Z l f L
 |[],_,_,h=>λW=>h W W
 |(_,_)::_,_,_,h=>λW=>h W W
theorem du.swap{i:Nat}{p o:Oper}{l:List (Nat×Oper)}(s9:∀cs b,p.op≠.select cs b)(r9:∀cs b,o.op≠.select cs b)(n9:p.apart ops o=true)(e9:fv n p.dst=true)(w7:fv n o.dst=true)
  (q9:kd i=0\/kd k=0\/(kd i=1/\kd k=1)){f:Nat->Value}{L:List aa}(hf:bk Lb L)(h:du P n ops kd Lb Le Z ((k,p)::(i,o)::l) f L):du P n ops kd Lb Le Z ((i,o)::(k,p)::l) f L:=by
 obtain⟨a1,a2,z⟩:=Oper.apart_spec n9;have ep:∀f v,execOp (aH (cg f o.dst v)) p=execOp (aH f) p:=λf v=>AK f p s9 o.dst v z;have R:∀f v,execOp (aH (cg f p.dst v)) o=execOp (aH f) o:=λf v=>AK f o r9 p.dst v a1;have wp:∀f v,fB ops (cg f o.dst v) p=fB ops f p:=λf v=>BM f p o.dst v z;have wo:∀f v,fB ops (cg f p.dst v) o=fB ops f o:=λf v=>BM f o p.dst v a1;have Q:∀f v u,cg (cg f p.dst v) o.dst u=cg (cg f o.dst u) p.dst v:=λf v u=>IV f v u a2;rintro⟨D,F,w,a,M,s⟩;have c:=h ⟨D,F,w,a,M,s⟩;obtain⟨H,sH,_⟩:=hf w F s
 -- o, with whatever p left in its slot, where p leaves the memory as it was
 have go:∀(g:Value) (c9:∀u L,du P n ops kd Lb Le Z l (cg (cg f p.dst g) o.dst u) L->du P n ops kd Lb Le Z ((k,p)::l) (cg f o.dst u) L),
   du P n ops kd Lb Le Z ((i,o)::l) (cg f p.dst g) L->(if fB ops f o=true then
    if kd i=0 then∃v,aP P o f Lb v/\du P n ops kd Lb Le Z ((k,p)::l) (cg f o.dst v) L
    else if kd i=1 then∃v,aP P o f Le v/\du P n ops kd Lb Le Z ((k,p)::l) (cg f o.dst v) L
    else∀F w0 w,Rest w0 w->aN w L F->LW P o f w λv w'=>∃j,bk Lb j/\Rest w0 w'/\aN w' j F/\du P n ops kd Lb Le Z ((k,p)::l) (cg f o.dst v) j
   else du P n ops kd Lb Le Z ((k,p)::l) (cg f o.dst undef) L):=λg c9 e=>by
  obtain⟨a',j6⟩:=nh M e9 g;have d:=e ⟨D,F,w,a',j6,s⟩;rw[wo]at d;split
  ·rename_i m;rw[an m]at d;split
   ·rename_i q;rw[an q]at d;obtain⟨v,hv,e⟩:=d;exact⟨v,(wU (R _ _)).1 hv,c9 _ _ e⟩
   ·rename_i q;rw[ai q]at d;split
    ·rename_i j9;rw[an j9]at d;obtain⟨v,hv,e⟩:=d;exact⟨v,(wU (R _ _)).1 hv,c9 _ _ e⟩
    ·rename_i j9;rw[ai j9]at d;intro I w0 w' r s';have:=d I w0 w' r s';rw[LW.congr (R _ _)]at this;exact this.mono λv w' ⟨j,A,S,V,h4⟩=>⟨j,A,S,V,c9 _ _ h4⟩
  ·rename_i m;rw[ai m]at d;exact c9 _ _ d
 by_cases t:fB ops f p=true
 case neg=>
  rw[ai t]at c;exact go undef (λu L e _=>by rw[wp,ai t,<-Q];exact e) c
 case pos=>
  rw[an t]at c;by_cases y:kd k=0
  ·rw[an y]at c;obtain⟨g,l8,c⟩:=c;exact go g (λu L e _=>by rw[wp,an t,an y];exact⟨g,(wU (ep _ _)).2 l8,by rw[<-Q];exact e⟩) c
  ·rw[ai y]at c;by_cases C:kd k=1
   ·rw[an C]at c;obtain⟨g,l8,c⟩:=c;exact go g (λu L e _=>by rw[wp,an t,ai y,an C];exact⟨g,(wU (ep _ _)).2 l8,by rw[<-Q];exact e⟩) c
   ·-- p acts: o only reads what stays
    have q:kd i=0:=by rcases q9 with x|x|x<;>first|exact x|exact absurd x y|exact absurd x.2 C
    rw[ai C]at c;obtain⟨u1,w1,L1,w8,w9,s1,r0⟩:=(c F w w (gO w) s).some;obtain⟨a',j6⟩:=nh M e9 u1;have d:=r0 ⟨D,F,w1,a',j6,s1⟩;rw[wo]at d;split
    ·rename_i m;rw[an m,an q]at d
     try rw[an q]
     obtain⟨v,hv,_⟩:=d;have m8:=(wU (R _ _)).1 hv;refine⟨v,m8,λW=>?_⟩;rw[wp,an t,ai y,ai C];intro I m6 w' r' s';rw[LW.congr (ep _ _)];refine(c I m6 w' r' s').mono λu w2 ⟨j,A,S,V,h4⟩=>⟨j,A,S,V,du.qp ?_⟩;rintro⟨m9,F2,w3,a2,n8,s2⟩;obtain⟨z,j7⟩:=nh M e9 u;have c8:=h4 ⟨D,F2,w3,z,j7,s2⟩;rw[wo,an m,an q]at c8;obtain⟨v2,u4,e⟩:=c8;obtain⟨H',u6,_⟩:=A w3 F2 s2;rw[<-Q,aP.unique m8 ((wU (R _ _)).1 u4) u6];exact e
    ·rename_i m;rw[ai m]at d;intro W;rw[wp,an t,ai y,ai C];intro I m6 w' r' s';rw[LW.congr (ep _ _)];refine(c I m6 w' r' s').mono λu w2 ⟨j,A,S,V,h4⟩=>⟨j,A,S,V,du.qp ?_⟩;rintro⟨m9,F2,w3,a2,n8,s2⟩;obtain⟨z,j7⟩:=nh M e9 u;have c8:=h4 ⟨D,F2,w3,z,j7,s2⟩;rw[wo,ai m]at c8;rw[<-Q];exact c8
theorem du.front{i:Nat}{o:Oper}{g:List (Nat×Oper)}(e:∀cs b,o.op≠.select cs b)(d:fv n o.dst=true):∀(a:List (Nat×Oper)),(∀x∈a,(∀cs b,x.2.op≠.select cs b)/\x.2.apart ops o=true/\fv n x.2.dst=true/\(kd i=0\/kd x.1=0\/(kd i=1/\kd x.1=1)))->
  ∀{f:Nat->Value} {L:List aa},bk Lb L->du P n ops kd Lb Le Z (a++(i,o)::g) f L->du P n ops kd Lb Le Z ((i,o)::(a++g)) f L
 |[],_,f,L,_,h=>h
 |(k,p)::a,hall,f,L,c,h=>by obtain⟨j,l,m,q⟩:=hall (k,p) (fP ..);refine du.swap j e l m d q c ?_;exact du.tail (λf L c h=>du.front e d a (λx hx=>hall x (eu _ hx)) c h) c h
theorem TW{Q:bx}{D:List Deferred}(F7:nL n ops kd m=true)(m7:AJ ops kd m=true)(B6:∀d,d∈jc ops.toList->ws d=true):
  ∀(c:Nat) (l:List (Nat×Oper)) (u:Array Bool) (a:Act) (w:World) (f:Nat->Value) (L:List aa),l.length=c->Inv ops m u l->gB D n F w0 f0 ws a w f L->bk Lb L->((∃x∈l,kd x.1=1)->bk Le L)->
   du P n ops kd Lb Le (λf L=>aM P n ops (ops.toList.drop m) Q f L) l f L->wpAny P .any ops (eN D n F w0 f0 ws Q) (l.length+(ops.size-m)) u a w:=by
 have w5:=F7;simp only[nL,dT,kW,oI,vF,sm]at w5;obtain⟨⟨⟨⟨⟨c1,c2⟩,c3⟩,c4⟩,c5⟩,c6⟩:=w5;have hm:=cT c6;have z8:∀(j:Nat) (o:Oper),ops[j]?=some o->∀cs b,o.op≠.select cs b:=λj o h cs b=>Region.noSelect_spec c1 j o cs b h;have w7:∀j o,ops[j]?=some o->∀e∈o.after,Region.binds .any e=true->e.on<j:=λj o g e C p=>by have:=c2 j (gR.1 g).1;rw[g]at this;simp only[dT]at this;have q:=this.1;rw[<-CP,kW]at q;have s:=q e (sL.2 C);rw[p]at s;simp at s;exact s
 have j5:∀(j:Nat) (o:Oper),ops[j]?=some o->fv n o.dst=true:=λj o g=>by have:=c2 j (gR.1 g).1;rw[g]at this;simp only[dT]at this;exact this.2
 have B0:∀(j:Nat) (o:Oper),ops[j]?=some o->∀t,o.dst=some t->ws t=true:=λj o g t ht=>
  B6 t (ru.2 ⟨o,sL.2 (ER g),ht⟩)
 have w9:∀j,j<m->fu (kd j)=true->∀k,k<j->kd k=0\/waits ops 4 j k=true\/∃x,x<j/\k<x/\fu (kd x)=true:=λj hj S k R=>by
  rcases c4 j hj with h|h
  ·rw[S]at h;cases h
  ·rcases h k R with(h|h)|h
   ·exact .inl (mj h)
   ·exact .inr (.inl h)
   ·simp only[eR,oI,dT]at h;obtain⟨x,hx,D8,E8⟩:=h;exact .inr (.inr ⟨x,hx,by simpa using D8,E8⟩)
 have G0:m<ops.size->∀k,k<m->jS ops m k=true:=λs k R=>by
  rcases c5 m s with h|h
  ·have:=cT h;omega
  ·rw[Nat.beq_refl]at h;exact kW.1 h k (oI.2 R)
 have A9:∀j,m<j->j<ops.size->jS ops j (j-1)=true:=λj q s=>by
  rcases c5 j s with h|h
  ·have:=cT h;omega
  ·have:Nat.beq j m=false:=by cases hq:Nat.beq j m with|false=>rfl|true=>(have:=mj hq;omega)
   rw[this]at h;exact h
 have u6:∀j,j<m->fu (kd j)=true->∀k,k<m->kd k=1->k<j:=λj hj S k R q=>by
  unfold AJ at m7;simp only[kW,oI,vF,sm]at m7;rcases m7 j hj with h|h
  ·rw[S]at h;cases h
  ·rcases h k R with h|h
   ·have:Nat.beq (kd k) 1=true:=by rw[q];rfl
    rw[this]at h;cases h
   ·simpa using h
 intro c
 induction c with
 |zero=>
  intro l u a w f L hc I H hf hE hM;have S:l=[]:=dZ hc;subst S;obtain⟨L2,hs,hx⟩:=hM ⟨D,F,w,a,H.2.1,H.2.2.1⟩;have hw:=hx D F w0 f0 ws a w ⟨H.1,H.2.1,hs w F H.2.2.1,H.2.2.2⟩ (λd hd=>by obtain⟨o,g,F6⟩:=ru.1 hd;exact B6 d (ru.2 ⟨o,py g,F6⟩));have:=C4 (P:=P) (ops:=ops) (Q:=eN D n F w0 f0 ws Q) (ops.toList.drop m) m u a w (λj=>by simp) (by simp;omega) I.size (λi hi=>by
   cases p:u.getD i false with
   |true=>rfl
   |false=>
    have m8:u.getD i true=false:=by
     have p9:i<u.size:=by rw[I.size];omega
     simp[Array.getD,p9]at p⊢;exact p
    obtain⟨o,g⟩:=I.all i hi m8;cases g) I.back w7 A9 hw
  simpa using this
 |succ c ih=>
  intro l u a w f L hc I H hf hE hM;obtain⟨M,lt,rfl⟩:∃M lt,l=M::lt:=by
   cases l with
   |nil=>simp at hc
   |cons M lt=>exact⟨M,lt,rfl⟩
  obtain⟨u5,H5,l8⟩:=I.mem M (fP ..);have E6:∀k,k<M.1->u.getD k false=true:=λk R=>by
   cases p:u.getD k false with
   |true=>rfl
   |false=>
    have p9:k<u.size:=by rw[I.size];omega
    have m8:u.getD k true=false:=by simp[Array.getD,p9]at p⊢;exact p
    obtain⟨o,g⟩:=I.all k U m8;rcases gA.1 g with e|e
    ·rw[<-e]at R;simp at R
    ·have:=(km.1 I.inc).1 _ e;simp at this;omega
  have z7:M.1∈Region.ready .any ops u:=mem_ready.2 ⟨l8,M.2,u5,λe C p=>E6 _ (w7 _ _ u5 e C p)⟩;have D9:(M::lt).length+(ops.size-m)=lt.length+(ops.size-m)+1:=by simp;omega
  rw[D9];refine⟨λh0=>(by rw[h0]at z7;cases z7),λi hi=>?_⟩;obtain⟨E0,o,g,m6⟩:=mem_ready.1 hi;have u9:=(gR.1 g).1;have d8:i<m:=by
   rcases mY i m with h|h
   ·exact h
   ·exfalso;rcases Nat.eq_or_lt_of_le h with h|h
    ·subst h;obtain⟨o2,W,e,C,d9,e9⟩:=pQ.1 (G0 u9 M.1 U);rw[g]at W;cases W;have q:=m6 e C d9;rw[e9]at q;rw[mf q]at l8;cases l8
    ·obtain⟨o2,W,e,C,d9,e9⟩:=pQ.1 (A9 i h u9);rw[g]at W;cases W;have q:=m6 e C d9;rw[e9]at q;have:=I.back (i-1) U U;rw[mf q]at this;cases this
  obtain⟨o',y8⟩:=I.all i d8 E0;obtain⟨n8,_,_⟩:=I.mem _ y8;simp only at n8;rw[g]at n8;cases n8;obtain⟨z,A,S⟩:=FM y8;rw[S]at I hM hc hE;have u7:=I.inc;rw[tJ,km]at u7;have C8:=du.front (z8 i o g) (j5 i o g) z (λy hy=>by
   obtain⟨y1,y2,y3⟩:=I.mem y (lk _ hy);have y7:y.1<i:=u7.2.2 y hy (i,o) (fP ..);have E9:jS ops i y.1=false:=by
    cases p:jS ops i y.1 with
    |false=>rfl
    |true=>obtain⟨o2,W,e,C,d9,e9⟩:=pQ.1 p;rw[g]at W;cases W;have q:=m6 e C d9;rw[e9]at q;rw[mf q]at y3;cases y3
   refine⟨z8 _ _ y1,?_,j5 _ _ y1,?_⟩
   ·have:=c3 i d8 y.1 y7;rw[E9]at this;rcases this with h|h
    ·cases h
    ·unfold wZ at h;rw[y1,g]at h;exact h
   ·by_cases k0:kd y.1=0
    ·exact .inr (.inl k0)
    ·cases hlk:fu (kd i)with
     |false=>
      unfold fu at hlk;split at hlk
      ·rename_i h;exact .inl h
      ·rename_i h;refine .inr (.inr ⟨h,?_⟩);refine nW λG8=>?_;have G9:fu (kd y.1)=true:=by
        unfold fu;split
        ·rename_i s;exact absurd s k0
        ·rename_i s;exact absurd s G8
        ·rfl
       have:=u6 y.1 y2 G9 i d8 h;omega
      ·cases hlk
     |true=>have:=B3 I w9 (i-y.1) i y.1 (bj _) y7 d8 hlk k0 (.inr hi);rw[mf this]at y3;cases y3) hf hM
  have I':=I.step hi;have w6:(z++A).length=c:=by simp at hc⊢;omega
  have E7:lt.length=(z++A).length:=by
   have:(M::lt).length=(z++(i,o)::A).length:=by rw[S]
   simp at this⊢;omega
  rw[E7];have p:=C8 ⟨D,F,w,a,H.2.1,H.2.2.1⟩;have G6:Region.wanted o (yielded ops a.tmps)=fB ops f o:=by rw[H.2.1.yield ops];rfl
  unfold wpOp;rw[g];simp only;rw[G6];have next:∀(v:Value) (w':World) (L':List aa),Rest w w'->aN w' L' F->bk Lb L'->((∃x∈z++A,kd x.1=1)->bk Le L')->du P n ops kd Lb Le (λf L=>aM P n ops (ops.toList.drop m) Q f L) (z++A) (cg f o.dst v) L'->
    wpAny P .any ops (eN D n F w0 f0 ws Q) ((z++A).length+(ops.size-m)) (u.setIfInBounds i true) (a.put o.dst v) w':=λv w' L' hr hs D7 D6 j0=>
   ih (z++A) _ _ w' _ L' w6 I' (H.mW hr hs (j5 i o g) (B0 i o g) v) D7 D6 j0
  have l9:(∃x∈z++A,kd x.1=1)->bk Le L:=λ⟨x,hx,q⟩=>hE ⟨x,by
   rcases ct.1 hx with hx|hx
   ·exact lk _ hx
   ·exact mT _ (eu _ hx),q⟩
  split
  ·rename_i hw;rw[an hw]at p;refine .inl ?_;unfold Oper.wp;rw[H.2.1.eval];by_cases k0:kd i=0
   ·rw[an k0]at p;obtain⟨v,hv,j0⟩:=p;obtain⟨HH,sH,C9⟩:=hf w F H.2.2.1;rw[hv HH w sH];exact next v w L (gO w) H.2.2.1 hf l9 j0
   ·rw[ai k0]at p;by_cases k1:kd i=1
    ·rw[an k1]at p;obtain⟨v,hv,j0⟩:=p;obtain⟨HH,sH,C9⟩:=hE ⟨(i,o),by simp,k1⟩ w F H.2.2.1;rw[hv HH w sH];exact next v w L (gO w) H.2.2.1 hf l9 j0
    ·rw[ai k1]at p;have w8:fu (kd i)=true:=by
      unfold fu;split
      ·rename_i s;exact absurd s k0
      ·rename_i s;exact absurd s k1
      ·rfl
     have F0:¬∃x∈z++A,kd x.1=1:=λ⟨x,hx,q⟩=>by obtain⟨_,x2,x3⟩:=I'.mem x hx;have G7:=u6 i d8 w8 x.1 x2 q;have:=B3 I w9 (i-x.1) i x.1 (bj _) G7 d8 w8 (by rw[q];decide) (.inr hi);rw[Go.getD_set_ne true U]at x3;rw[mf this]at x3;cases x3
     have V:=p F w0 w H.1 H.2.2.1;have fin:∀v w',(∃L2,bk Lb L2/\Rest w0 w'/\aN w' L2 F/\du P n ops kd Lb Le (λf L=>aM P n ops (ops.toList.drop m) Q f L) (z++A) (cg f o.dst v) L2)->
       wpAny P .any ops (eN D n F w0 f0 ws Q) ((z++A).length+(ops.size-m)) (u.setIfInBounds i true) (a.put o.dst v) w':=by
      rintro v w' ⟨L2,q,s,h3,h4⟩;have hp:=ti (w':=w) H (gO w) H.2.2.1 (j5 i o g) (B0 i o g) v;exact ih (z++A) _ _ w' _ L2 w6 I' ⟨s,hp.2.1,h3,hp.2.2.2⟩ q (λh=>(F0 h).elim) h4
     unfold LW at V;generalize (execOp (aH f) o).run P w=r at V⊢
     cases r with
     |halt x w'=>exact V.elim
     |ok nx w'=>
      cases nx with
      |value v=>exact fin v w' V
      |skip=>exact fin undef w' V
      |enter k args=>
       show Calls P k args w' _;exact Calls.mono V λe w2 ⟨v,C,hv⟩=>by subst C;exact fin v w2 hv
      |row r args=>
       show Rows P r args w' _;exact Rows.mono V λv w2 hv=>fin v w2 hv
      |_=>exact V.elim
  ·rename_i hw;rw[ai hw]at p;exact next undef w L (gO w) H.2.2.1 hf l9 p
theorem Ex.SW{Q:bx}{f:Nat->Value}{L:List aa}(m:Nat)(kd:Nat->Nat)(Lb Le:List aa)(u:P.follows .mixedOrders=true)(j:nL n ops kd m=true)(s:AJ ops kd m=true)(t:bk Lb L)(r:bk Le L)
  (h:du P n ops kd Lb Le (λf L=>aM P n ops (ops.toList.drop m) Q f L) (idx 0 (ops.toList.take m)) f L):Ex P n (.region g ops true) Q f L:=λD F w0 f0 ws a w H q=>by
 have d:=j;simp only[nL,dT]at d;have z:=cT d.2;refine wp_region_any u ?_;have e:(idx 0 (ops.toList.take m)).length=m:=by
  have:∀(l:List Oper) k,(idx k l).length=l.length:=by
   intro l
   induction l with
   |nil=>intro k;rfl
   |cons o l ih=>intro k;simp[idx,ih]
  rw[this];simp;omega
 have:=TW (P:=P) (Q:=Q) (F:=F) (w0:=w0) (f0:=f0) (ws:=ws) j s q m (idx 0 (ops.toList.take m)) (Array.replicate ops.size false) a w.drew f L e ⟨yZ,?_,?_,?_,by simp,?_⟩ ⟨H.1,H.2.1,xw H.2.2.1,H.2.2.2⟩ t (λ_=>r) h
 ·rw[e,show m+(ops.size-m)=ops.size by omega]at this;exact this
 ·intro x hx;obtain⟨y,p,b⟩:=uK hx;simp at p b;rw[mz]at b;split at b
  ·refine⟨by simpa using b,U,?_⟩;simp[Array.getD];omega
  ·cases b
 ·intro i hi _;have c:i<ops.size:=U;refine⟨ops[i],?_⟩;have:=xR (k:=0) (l:=ops.toList.take m) (i:=i) (o:=ops[i]) (by rw[mz,an hi];simp[c]);simpa using this
 ·intro i _ hi;simp[Array.getD,hi]
 ·intro x o v hx;exfalso;have c:=(gR.1 v).1;simp[Array.getD,c]at hx
end
section
variable{P:Program}{n:Nat}{ops:Array Oper}{kd:Nat->Nat}{Lb Le:List aa}{Z:(Nat->Value)->List aa->Prop}{f:Nat->Value}{L:List aa}{i:Nat}{o:Oper}{l:List (Nat×Oper)}
def tC(P:Program)(n:Nat)(kd:Nat->Nat)(ops:Array Oper)(Lb Le:List aa)(Z:(Nat->Value)->List aa->Prop)(l:List (Nat×Oper)):bx
 | .normal,f,L=>bk Lb L/\du P n ops kd Lb Le Z l f L
 |_,_,_=>False
theorem QK(h:Z f L):du P n ops kd Lb Le Z [] f L:=λ_=>⟨L,bW L,h⟩
theorem W0{d:Nat}(b:kd i=0)(a:o.guard=none)(c:o.dst=some d)(e:aP P o f Lb v)(h:du P n ops kd Lb Le Z l (aZ f d v) L):du P n ops kd Lb Le Z ((i,o)::l) f L:=λ_=>by have g:fB ops f o=true:=oY a;rw[an g,an b];exact⟨v,e,by rw[c];exact h⟩
theorem Hy{d:Nat}(a:kd i=1)(b:o.guard=none)(c:o.dst=some d)(e:aP P o f Le v)(h:du P n ops kd Lb Le Z l (aZ f d v) L):du P n ops kd Lb Le Z ((i,o)::l) f L:=λ_=>by have g:fB ops f o=true:=oY b;rw[an g,ai (by rw[a];decide),an a];exact⟨v,e,by rw[c];exact h⟩
theorem D5(z:fu (kd i)=true)(I:o.guard=none)(R:fv n o.dst=true)(h:aM P n ops [o] (tC P n kd ops Lb Le Z l) f L):du P n ops kd Lb Le Z ((i,o)::l) f L:=λ⟨D,_,_,a,u,_⟩=>by
 have hw:fB ops f o=true:=oY I;have k0:kd i≠0:=λe=>by rw[e]at z;simp[fu]at z
 have k1:kd i≠1:=λe=>by rw[e]at z;simp[fu]at z
 rw[an hw,ai k0,ai k1];intro F w0 w r s;have b:=h D F w0 f (λ_=>true) a w ⟨r,u,s,λt ht=>by cases ht⟩ (λ_ _=>rfl);unfold wpList at b;rw[an (oY I)]at b;have fin:∀(q:Act) (d:World),eN D n F w0 f (λ_=>true) (tC P n kd ops Lb Le Z l) .normal q d->∃j g,gz D n q j/\Rest w0 d/\aN d g F/\bk Lb g/\du P n ops kd Lb Le Z l j g:=λq d ⟨j,g,⟨C,p,H,_⟩,q1,q2⟩=>⟨j,g,p,C,H,q1,q2⟩;have e9:∀(v:Value) (j:Nat->Value),gz D n (a.put o.dst v) j->j=cg f o.dst v:=λv j p=>by funext t;rw[<-p.2.2 t,(u.mW R v).2.2 t]
 have y:∀(v:Value) (d:World),eN D n F w0 f (λ_=>true) (tC P n kd ops Lb Le Z l) .normal (a.put o.dst v) d->∃g,bk Lb g/\Rest w0 d/\aN d g F/\du P n ops kd Lb Le Z l (cg f o.dst v) g:=λv d W=>by obtain⟨j,g,p,C,H,S,M⟩:=fin _ _ W;rw[e9 v j p]at M;exact⟨g,S,C,H,M⟩
 rcases b with b|⟨_,q,d,_,_,_,m⟩
 ·unfold Oper.wp at b;rw[u.eval]at b;unfold LW;generalize (execOp (aH f) o).run P w=rr at b⊢
  cases rr with
  |halt x w'=>
   cases x with
   |panic v=>obtain⟨_,_,_,m⟩:=b;exact m.elim
   |_=>exact b.elim
  |ok nx w'=>
   cases nx with
   |value v=>exact y v w' b
   |skip=>exact y undef w' b
   |defer dd=>
    obtain⟨j,g,V,_⟩:=(show eN D n F w0 f (λ_=>true) (tC P n kd ops Lb Le Z l) .normal _ _ from b);have:=V.2.1.1;have Q:=u.1;cases hd:o.dst<;>simp[Act.put,hd,Q]at this
   |enter k args=>
    show Calls P k args w' _;refine Calls.mono b λe d A=>?_;cases e with
    |returned v=>exact⟨v,rfl,y v d A⟩
    |panicked c=>obtain⟨_,_,_,m⟩:=A;exact m.elim
    |outgrown=>obtain⟨_,_,_,_,_,m⟩:=A;exact m.elim
   |row r args=>
    show Rows P r args w' _;exact Rows.mono b λv d hv=>y v d hv
   |_=>exact b.elim
 ·exact m.elim
theorem Fm(a:bk Lb L)(h:du P n ops kd Lb Le Z l f L):tC P n kd ops Lb Le Z l .normal f L:=⟨a,h⟩
def FJ(a:List Nat)(ops:Array Oper)(i:Nat):Nat:=match a.any (Nat.beq i)with
 |true=>1
 |false=>sj ops i
theorem Ex.Ng{Q:bx}(m:Nat)(a:List Nat)(Lb:List aa)(d:P.follows .mixedOrders=true)(e:nL n ops (FJ a ops) m=true)(b:AJ ops (FJ a ops) m=true)(c:bk Lb L)
  (h:du P n ops (FJ a ops) Lb L (λf L=>aM P n ops (ops.toList.drop m) Q f L) (idx 0 (ops.toList.take m)) f L):Ex P n (.region k ops true) Q f L:=
 Ex.SW m _ Lb L d e b c (eb L) h
end
theorem me(k:G')(h:eB G'->p:=by(intro k;(repeat' (first|refine W0 J J J rV ?_|refine Hy J J J rV ?_|refine QK ?_));exact k.out)):p:=h ⟨k⟩
end
section
set_option maxRecDepth 20000 attribute [local irreducible] Ex aM Fn bI bJ bV fin meet ch aX bZ aP aN aI Rd aK Row ao Sub bk bP bS bN bg bR Hid bY
section
@[reducible] def Ja(c b a:Nat):Value:=.func (.func 319) #[] #[.pointer (some ⟨c,0,none⟩),.pointer (some ⟨b,0,none⟩),.pointer (some ⟨a,0,none⟩)]
@[reducible] def Jr(c b a:Nat):Value:=.func (.func 320) #[] #[.pointer (some ⟨c,0,none⟩),.pointer (some ⟨a,0,none⟩),.pointer (some ⟨b,0,none⟩)]
@[reducible] def Jo(c b a:Nat):Value:=.func (.func 321) #[] #[.pointer (some ⟨c,0,none⟩),.pointer (some ⟨a,0,none⟩),.pointer (some ⟨b,0,none⟩)]
theorem Tw(d c a:Nat)(v0:Value)(b:List UInt8)(M:List aa)(g:O1 v0)(f:aI M v0 b)(e:b.length<=1000000000):
  Fn prog 319 #[.int .i64 1,.int .i64 5,.pointer (some ⟨d,0,none⟩),.pointer (some ⟨c,0,none⟩),.pointer (some ⟨a,0,none⟩)] (fF d c a (0,0) v0 M) λr L'=>r=.int .i64 (iU b).1/\L'=fF d c a (iU b).2 v0 M:=xW 1 5 d c a (0,0) v0 b M g f e (eM _)
theorem Qh(d c a:Nat)(v0:Value)(b:List UInt8)(M:List aa)(g:O1 v0)(f:aI M v0 b)(e:b.length<=1000000000):
  Fn prog 319 #[.int .i64 0,.int .i64 4,.pointer (some ⟨d,0,none⟩),.pointer (some ⟨c,0,none⟩),.pointer (some ⟨a,0,none⟩)] (fF d c a (iU b).2 v0 M) λr L'=>r=.int .i64 (fN b).1/\L'=fF d c a (fN b).2 v0 M:=xW 0 4 d c a (iU b).2 v0 b M g f e (nw b).1
theorem On(d c a:Nat)(v0:Value)(b:List UInt8)(M:List aa)(g:O1 v0)(f:aI M v0 b)(e:b.length<=1000000000):
  Fn prog 320 #[.int .i64 1,.int .i64 1048576,.pointer (some ⟨d,0,none⟩),.pointer (some ⟨a,0,none⟩),.pointer (some ⟨c,0,none⟩)] (fF d c a (fN b).2 v0 M) λr L'=>r=.int .i64 (iq b).1/\L'=fF d c a (iq b).2 v0 M:=Gv 1 1048576 d c a (fN b).2 v0 b M g f e (nw b).2.1 U U
theorem Sn(d c a:Nat)(v0:Value)(b:List UInt8)(M:List aa)(g:O1 v0)(f:aI M v0 b)(e:b.length<=1000000000):
  Fn prog 320 #[.int .i64 1,.int .i64 16777216,.pointer (some ⟨d,0,none⟩),.pointer (some ⟨a,0,none⟩),.pointer (some ⟨c,0,none⟩)] (fF d c a (pR b).2 v0 M) λr L'=>r=.int .i64 (nH b).1/\L'=fF d c a (nH b).2 v0 M:=Gv 1 16777216 d c a (pR b).2 v0 b M g f e (nw b).2.2.2.1 U U
theorem Vf(d c a:Nat)(v0:Value)(b:List UInt8)(M:List aa)(g:O1 v0)(f:aI M v0 b)(e:b.length<=1000000000):
  Fn prog 319 #[.int .i64 1,.int .i64 8,.pointer (some ⟨d,0,none⟩),.pointer (some ⟨c,0,none⟩),.pointer (some ⟨a,0,none⟩)] (fF d c a (nH b).2 v0 M) λr L'=>r=.int .i64 (jq b).1/\L'=fF d c a (jq b).2 v0 M:=xW 1 8 d c a (nH b).2 v0 b M g f e (nw b).2.2.2.2.1
theorem PG(d c a:Nat)(v0:Value)(b:List UInt8)(M:List aa)(g:O1 v0)(f:aI M v0 b)(e:b.length<=1000000000):
  Fn prog 319 #[.int .i64 0,.int .i64 1,.pointer (some ⟨d,0,none⟩),.pointer (some ⟨c,0,none⟩),.pointer (some ⟨a,0,none⟩)] (fF d c a (lp b).2 v0 M) λr L'=>r=.int .i64 (oQ b).1/\L'=fF d c a (oQ b).2 v0 M:=xW 0 1 d c a (lp b).2 v0 b M g f e (nw b).2.2.2.2.2.2.1
theorem OU(d c a:Nat)(v0:Value)(b:List UInt8)(M:List aa)(g:O1 v0)(f:aI M v0 b)(e:b.length<=1000000000):
  Fn prog 319 #[.int .i64 1,.int .i64 12,.pointer (some ⟨d,0,none⟩),.pointer (some ⟨c,0,none⟩),.pointer (some ⟨a,0,none⟩)] (fF d c a (oQ b).2 v0 M) λr L'=>r=.int .i64 (jw b).1/\L'=fF d c a (jw b).2 v0 M:=xW 1 12 d c a (oQ b).2 v0 b M g f e (nw b).2.2.2.2.2.2.2.1
theorem Qp(d c a:Nat)(v0:Value)(b:List UInt8)(M:List aa)(g:O1 v0)(f:aI M v0 b)(e:b.length<=1000000000):
  Fn prog 321 #[.int .i64 (jq b).1,.func (.func 222) #[] #[],.pointer (some ⟨d,0,none⟩),.pointer (some ⟨a,0,none⟩),.pointer (some ⟨c,0,none⟩)] (fF d c a (jq b).2 v0 M) λr L'=>r=.string (S (lp b).1)/\L'=fF d c a (lp b).2 v0 M:=by
 have h:=(nw b).2.2.2.2.2.2.2.2.2.2.2.1;exact MX (jq b).1 222 iH call222 (λs L i=>JU s L U) d c a (jq b).2 v0 b M g f e (nw b).2.2.2.2.2.1 U
theorem U8(d c a:Nat)(v0:Value)(b:List UInt8)(M:List aa)(g:O1 v0)(f:aI M v0 b)(e:b.length<=1000000000):
  Fn prog 321 #[.int .i64 (jw b).1,.func (.func 224) #[] #[],.pointer (some ⟨d,0,none⟩),.pointer (some ⟨a,0,none⟩),.pointer (some ⟨c,0,none⟩)] (fF d c a (jw b).2 v0 M) λr L'=>r=.string (S (oU b).1)/\L'=fF d c a (oU b).2 v0 M:=by
 have h:=(nw b).2.2.2.2.2.2.2.2.2.2.2.2.1;exact MX (jw b).1 224 mR call224 (λs L i=>Lf s L U) d c a (jw b).2 v0 b M g f e (nw b).2.2.2.2.2.2.2.2.1 U
section
variable{P:Program}{n:Nat}{ops:Array Oper}{Q:bx}{f:Nat->Value}{L:List aa}{rest:List Oper}{ty:TypeId}{pos:String}{af:Array Edge}
theorem Bh(i:Nat){o:Nat}(hx:aH f x=.pointer (some ⟨g,o,none⟩))(hi:L[i]?=some (ao g bt cs))(hy:aH f y=v)(a:O1 v)(d:P.cellsOf t=1)(e:o<cs.length)
  (c:cs.set o v=zs)(b:L.set i (ao g bt zs)=L')(h:aM P n ops rest Q f L'):aM P n ops (⟨none,.store t x y,ty,pos,af,none⟩::rest) Q f L:=
 Gw i hx hy a hi d (tA e) (by rw[c,b]) h
end
def jR(b:List UInt8)(i:Nat):Ev:=⟨(fN b).1,(iq b).1,(gU b (fN b).1 i (iq b).2).1,0,⟨(iU b).1,[],0,[]⟩⟩
theorem Iv(e:Ev)(i:Nat)(x:Int)(hi:i<5)(o:Nat)(a:o=2+i):(ab.cells e).set o (.int .i64 x)=ab.cells (⟨e.r,e.n,e.c.set i x,e.h,e.ed⟩:Ev):=by subst a;have:i=0\/i=1\/i=2\/i=3\/i=4:=U;rcases this with rfl|rfl|rfl|rfl|rfl<;>rfl
theorem Sj(e d a:Nat)(v0:Value)(b:List UInt8)(M:List aa)(j:O1 v0)(H:aI M v0 b)(f:b.length<=1000000000):
  Fn prog 322 #[Ja e d a,Jr e d a,Jo e d a] (fF e d a (0,0) v0 M) λr L'=>r=.agg (ab.cells (gZ b).1).toArray/\L'=fF e d a (gZ b).2 v0 M:=by
 obtain⟨I,R,x,S,V,W,k7,k8,k9,L,v,P,Q,w⟩:=nw b;refine fo func322 ntmps322 ?_;refine rn ?_;(repeat(first|intro(g:Nat)|intro h));refine iL [3,3,3] (xs:=[.const (.int .i64 1),.const (.int .i64 5)]) (fs:=[]) (us:=[.pointer (some ⟨e,0,none⟩),.pointer (some ⟨d,0,none⟩),.pointer (some ⟨a,0,none⟩)]) (vs:=[.int .i64 1,.int .i64 5]) J J call319 rE J (Tw e d a v0 b _ j rD f) ?_;rintro _ _ ⟨rfl,rfl⟩;refine rn ?_;(repeat(first|intro(g:Nat)|intro h));refine iL [] (xs:=[.const (.int .i64 0),.const (.int .i64 4)]) (fs:=[]) (us:=[.pointer (some ⟨e,0,none⟩),.pointer (some ⟨d,0,none⟩),.pointer (some ⟨a,0,none⟩)]) (vs:=[.int .i64 0,.int .i64 4]) J J call319 rE J (Qh e d a v0 b _ j rD f) ?_;rintro _ _ ⟨rfl,rfl⟩;refine rn ?_;(repeat(first|intro(g:Nat)|intro h));refine iL [] (xs:=[.const (.int .i64 1),.const (.int .i64 1048576)]) (fs:=[]) (us:=[.pointer (some ⟨e,0,none⟩),.pointer (some ⟨a,0,none⟩),.pointer (some ⟨d,0,none⟩)]) (vs:=[.int .i64 1,.int .i64 1048576]) J J call320 rE J (On e d a v0 b _ j rD f) ?_;rintro _ _ ⟨rfl,rfl⟩;refine rn ?_;(repeat(first|intro(g:Nat)|intro h));rename_i o;revert g;intro p;refine fh [3,3,3] rE ?_;refine bm [16] (λq vs L'=>∃i:Nat,i<=5/\q=5-i/\vs=[.int .i64 i]/\L'=fF e d a (gU b (fN b).1 i (iq b).2).2 v0 (ao p 80 (ab.cells (jR b i))::ao o 80 (ab.cells Ev.zero)::M)) 5 ⟨0,U,rfl,rfl,rfl⟩ ?_;rintro q vs C y ⟨i,hi,rfl,rfl,rfl⟩;refine bp [0,1,2,6,7,16] rG (λF=>?_);by_cases t:i<5
 ·have k:=La b (fN b).1 i (iq b).2;have u:=Eb b (fN b).1 (iq b).2 x i;by_cases m:(i:Int)=(jR b i).r
  ·rw[an (show(i:Int)=(fN b).1 from m)]at k;have l:jR b (i+1)=jR b i:=by unfold jR;rw[k]
   refine rn ?_;intros;rw[<-l,<-k];exact aS ⟨5-(i+1),_,U,rB,i+1,U,rfl,av (aQ U) rfl,rfl⟩
  ·rw[ai (show¬(i:Int)=(fN b).1 from m)]at k;refine rn ?_;intros;refine iL [] (xs:=[.const (.int .i64 0),.const (.int .i64 1048576)]) (fs:=[]) (us:=[.pointer (some ⟨e,0,none⟩),.pointer (some ⟨a,0,none⟩),.pointer (some ⟨d,0,none⟩)]) (vs:=[.int .i64 0,.int .i64 1048576]) J J call320 rE J (Gv 0 1048576 e d a (gU b (fN b).1 i (iq b).2).2 v0 b _ j rD f u.1 U U) ?_;rintro _ _ ⟨rfl,rfl⟩;rw[show(hU b (gU b (fN b).1 i (iq b).2).2 0 1048576).2=(gU b (fN b).1 (i+1) (iq b).2).2 by rw[k]];have l:jR b (i+1)=⟨(jR b i).r,(jR b i).n,(jR b i).c.set i (hU b (gU b (fN b).1 i (iq b).2).2 0 1048576).1,(jR b i).h,(jR b i).ed⟩:=by unfold jR;rw[k]
   refine rn ?_;intros;refine Bh 3 J J rE rN J (by show 2+(i:Int).toNat*1<12;omega) ((Iv _ i _ t _ (by show 2+(i:Int).toNat*1=2+i;omega)).trans (by rw[<-l])) (by simp only[pL,pc];rfl) ?_;refine rn ?_;intros;exact aS ⟨5-(i+1),_,U,rB,i+1,U,rfl,av (aQ U) rfl,rfl⟩
 ·have s:i=5:=U;subst s;have A:0<=(jR b 5).r/\(jR b 5).r<=4:=v;have z:0<=(jR b 5).n/\(jR b 5).n<=1048576:=w;refine rn ?_;intros;refine Bh 3 J J rE rN J (by show 2+(jR b 5).r.toNat*1<12;omega) (Iv _ (jR b 5).r.toNat _ U _ (by show 2+(jR b 5).r.toNat*1=2+(jR b 5).r.toNat;omega)) (by simp only[pL,pc];rfl) ?_;rw[show(gU b (fN b).1 5 (iq b).2).2=(pR b).2 from rfl];refine rn ?_;intros;refine iL [] (xs:=[.const (.int .i64 1),.const (.int .i64 16777216)]) (fs:=[]) (us:=[.pointer (some ⟨e,0,none⟩),.pointer (some ⟨a,0,none⟩),.pointer (some ⟨d,0,none⟩)]) (vs:=[.int .i64 1,.int .i64 16777216]) J J call320 rE J (Sn e d a v0 b _ j rD f) ?_;rintro _ _ ⟨rfl,rfl⟩;refine rn ?_;intros
  (try simp only[pL,pc])
  refine iL [] (xs:=[.const (.int .i64 1),.const (.int .i64 8)]) (fs:=[]) (us:=[.pointer (some ⟨e,0,none⟩),.pointer (some ⟨d,0,none⟩),.pointer (some ⟨a,0,none⟩)]) (vs:=[.int .i64 1,.int .i64 8]) J J call319 rE J (Vf e d a v0 b _ j rD f) ?_;rintro _ _ ⟨rfl,rfl⟩;refine rn ?_;intros
  (try simp only[pL,pc])
  refine iL [] (xs:=[.tmp 41,.func 222]) (fs:=[]) (us:=[.pointer (some ⟨e,0,none⟩),.pointer (some ⟨a,0,none⟩),.pointer (some ⟨d,0,none⟩)]) (vs:=[.int .i64 (jq b).1,.func (.func 222) #[] #[]]) J J call321 rE J (Qp e d a v0 b _ j rD f) ?_;rintro _ _ ⟨rfl,rfl⟩;refine rn ?_;intros
  (try simp only[pL,pc])
  refine ca [] call244 (JB (iU b).1 _) ?_;rintro _ _ ⟨rfl,rfl⟩;by_cases k:(iU b).1=1\/(iU b).1=2
  ·rw[show decide ((iU b).1≠1/\(iU b).1≠2)=false from bd U];have l:gZ b=(⟨(fN b).1,(iq b).1,uM b,(nH b).1,⟨(iU b).1,(lp b).1,0,[]⟩⟩,(lp b).2):=by unfold gZ;rw[an k]
   rw[l];exact bh
  ·rw[show decide ((iU b).1≠1/\(iU b).1≠2)=true from bf U];have l:gZ b=(⟨(fN b).1,(iq b).1,uM b,(nH b).1,⟨(iU b).1,(lp b).1,(oQ b).1,(oU b).1⟩⟩,(oU b).2):=by unfold gZ;rw[ai k]
   rw[l];refine rn ?_;intros;refine iL [] (xs:=[.const (.int .i64 0),.const (.int .i64 1)]) (fs:=[]) (us:=[.pointer (some ⟨e,0,none⟩),.pointer (some ⟨d,0,none⟩),.pointer (some ⟨a,0,none⟩)]) (vs:=[.int .i64 0,.int .i64 1]) J J call319 rE J (PG e d a v0 b _ j rD f) ?_;rintro _ _ ⟨rfl,rfl⟩;refine rn ?_;intros
   (try simp only[pL,pc])
   refine iL [] (xs:=[.const (.int .i64 1),.const (.int .i64 12)]) (fs:=[]) (us:=[.pointer (some ⟨e,0,none⟩),.pointer (some ⟨d,0,none⟩),.pointer (some ⟨a,0,none⟩)]) (vs:=[.int .i64 1,.int .i64 12]) J J call319 rE J (OU e d a v0 b _ j rD f) ?_;rintro _ _ ⟨rfl,rfl⟩;refine rn ?_;intros
   (try simp only[pL,pc])
   refine iL [] (xs:=[.tmp 52,.func 224]) (fs:=[]) (us:=[.pointer (some ⟨e,0,none⟩),.pointer (some ⟨a,0,none⟩),.pointer (some ⟨d,0,none⟩)]) (vs:=[.int .i64 (jw b).1,.func (.func 224) #[] #[]]) J J call321 rE J (U8 e d a v0 b _ j rD f) ?_;rintro _ _ ⟨rfl,rfl⟩;refine rn ?_;intros
   (try simp only[pL,pc])
   refine fr ?_;exact⟨_,rB,rfl,rfl⟩
theorem Pp(d c a:Nat)(v0:Value)(b:List UInt8)(M:List aa)(g:O1 v0)(f:aI M v0 b)(e:b.length<=1000000000):
  Fn prog 322 #[Ja d c a,Jr d c a,Jo d c a] (ao d 57 [.int .i64 0]::ao c 3 [.int .i64 0]::ao a 45 [v0]::M) λr L'=>r=.agg (ab.cells (gZ b).1).toArray/\L'=fF d c a (gZ b).2 v0 M:=Sj d c a v0 b M g f e
attribute [local irreducible] du tC
theorem Jd(v0:Value)(b:List UInt8)(M:List aa)(l:aI M v0 b)(j:O1 v0)(i:b.length<=1000000000):
  Fn prog 290 #[v0] M λr L'=>r=.tuple #[.agg (ab.cells (gf b).1).toArray,.int .i64 (gf b).2.1,.int .i64 (gf b).2.2]/\L'=M:=by
 refine fo func290 ntmps290 ?_;refine rn ?_;(repeat(first|intro(g:Nat)|intro h));rename_i a k e;revert g;intro c;refine bc [2,2,3] J call322 rE J (Pp c e a v0 b _ j rD i) ?_;rintro _ _ ⟨rfl,rfl⟩;by_cases f:(gZ b).2.1=0
 ·have d:gf b=((gZ b).1,(gZ b).2.2,0):=by unfold gf;rw[an f]
  rw[d];refine rn ?_;intros;refine fh [3] rE ?_;refine Ex.Ng 3 [0] (fF c e a (gZ b).2 v0 M) rfl rQ rQ rF ?_;refine me ?_;intros;refine D5 J J J ?_;(first|refine fO 0 J J rE rN J J rE rE ?_|refine fD 0 J J J rC J J J rE ?_|refine fQ 0 J J J rE J J rE ?_);refine bn ?_;refine Fm rF ?_;refine me ?_;intros;exact bh
 ·have d:gf b=(Ev.zero,0,(gZ b).2.1):=by unfold gf;rw[ai f]
  rw[d];refine rn ?_;intros;refine fh [2,3] rE ?_;refine bU 4 (ao c 57 [.int .i64 (gZ b).2.1]::ao a 45 [v0]::M) rfl rQ rF ?_;refine mn ?_;intros;refine bX J J J ?_;(first|refine fO 1 J J rE rN J J rE rE ?_|refine fD 1 J J J rC J J J rE ?_|refine fQ 1 J J J rE J J rE ?_);refine mw ?_;intros;refine bX J J J ?_;(first|refine fO 0 J J rE rN J J rE rE ?_|refine fD 0 J J J rC J J J rE ?_|refine fQ 0 J J J rE J J rE ?_);refine mw ?_;intros;exact bh
end
end
section
structure aF where
 kind:Int
 r:Int
 upto:Int
 c:aj
 l:List Ev
deriving DecidableEq
def aF.zero:aF:=⟨0,0,0,aj.zero,[]⟩
def iP(k:Int):Prop:=k=3\/k=4
def ea(k:Int):Prop:=k=1\/k=2\/k=5\/k=4
def gj(k:Int):Prop:=k=6
instance(k:Int):Decidable (iP k):=by unfold iP;infer_instance
instance(k:Int):Decidable (ea k):=by unfold ea;infer_instance
instance(k:Int):Decidable (gj k):=by unfold gj;infer_instance
structure aF.aW(x:aF):Prop where
 k:1<=x.kind/\x.kind<=6
 r:0<=x.r/\x.r<5
 u:0<=x.upto/\x.upto<=1048576
 m:x.l.length<=4096
 c:∀i,i<5->0<=x.c.get i/\x.c.get i<=1048576
 nu:¬iP x.kind->x.upto=0
 nc:¬gj x.kind->x.c=aj.zero
 ne:¬ea x.kind->x.l=[]
 l:∀e∈x.l,e.aW
 one:x.kind=1->x.l.length=1
def gu(c:aj)(m:Nat):List UInt8:=(List.range m).flatMap λi=>vB (c.get i).toNat
theorem tO(c:aj)(m:Nat):gu c (m+1)=gu c m++vB (c.get m).toNat:=by unfold gu;rw[wx,C3];simp
def de(l:List Ev):List UInt8:=l.flatMap Ev.bytes
theorem FX(e:Ev)(l:List Ev):de (e::l)=e.bytes++de l:=by simp[de]
theorem zW(a b:List Ev):de (a++b)=de a++de b:=by simp[de]
def aF.ez(x:aF):List UInt8:=[UInt8.ofNat x.kind.toNat,UInt8.ofNat x.r.toNat]
def aF.ig(x:aF):List UInt8:=if iP x.kind then vB x.upto.toNat else[]
def aF.jV(x:aF):List UInt8:=if gj x.kind then gu x.c 5 else[]
def aF.kx(x:aF):List UInt8:=if ea x.kind then vB x.l.length++de x.l else[]
def aF.body(x:aF):List UInt8:=x.ez++x.ig++x.jV++x.kx
def aF.bytes(x:aF):List UInt8:=vB (dN x.body).length++dN x.body
def iy(b:List UInt8):Option (Int×List UInt8):=match iQ b with
 | .error _=>none
 | .ok (n,k)=>if 1048576<n then none else some (n,b.drop k)
def gF:Nat->List UInt8->Option (List Ev×List UInt8)
 |0,b=>some ([],b)
 |n+1,b=>if(gf b).2.2=0 then match gF n (b.drop (gf b).2.1)with
   |none=>none
   |some (l,q)=>some ((gf b).1::l,q)
  else none
def mS(b:List UInt8):Option (List Ev×List UInt8):=match iy b with
 |none=>none
 |some (n,q)=>if 4096<n then none else gF n.toNat q
def gH:Nat->List UInt8->Option (aj×List UInt8)
 |0,b=>some (aj.zero,b)
 |m+1,b=>match gH m b with
  |none=>none
  |some (c,q)=>match iy q with
   |none=>none
   |some (n,q2)=>some (c.set m n,q2)
def sG(b:List UInt8):Option aF:=match b with
 |k::r::q=>
  if 1<=(k.toNat:Int)/\(k.toNat:Int)<=6 then
   match (if iP k.toNat then iy q else some (0,q))with
   |none=>none
   |some (u,q1)=>match (if gj k.toNat then gH 5 q1 else some (aj.zero,q1))with
    |none=>none
    |some (c,q2)=>match (if ea k.toNat then mS q2 else some ([],q2))with
     |none=>none
     |some (l,_)=>some ⟨k.toNat,r.toNat,u,c,l⟩
  else none
 |_=>none
open Classical in
noncomputable def iS(b:List UInt8):Option (aF×Nat):=match iQ b with
 | .error _=>none
 | .ok (n,k)=>if b.length<k+n then none else match gL ((b.take (k+n)).drop k)with
  |none=>none
  |some body=>match sG body with
   |none=>none
   |some x=>if x.aW/\x.bytes=b.take (k+n)then some (x,k+n)else none
theorem A7(n:Int)(h:0<=n/\n<=1048576)(q:List UInt8):iy (vB n.toNat++q)=some (n,q):=by unfold iy;rw[wb U];simp only;rw[ai U];simp;omega
theorem E1(q:List UInt8):∀l:List Ev,(∀e∈l,e.aW)->gF l.length (de l++q)=some (l,q)
 |[],_=>rfl
 |e::l,h=>by have b:=E1 q l (λx hx=>h x (eu _ hx));have a:=OV e (h e (fP ..)) (de l++q);rw[dL,FX,dB];unfold gF;rw[a];simp only[rA,b,an]
theorem Wn(q:List UInt8)(l:List Ev)(h:∀e∈l,e.aW)(a:l.length<=4096):mS (vB l.length++(de l++q))=some (l,q):=by unfold mS;have:=A7 (l.length:Int) U (de l++q);rw[dc]at this;rw[this];simp only;rw[ai U,dc,E1 q l h]
theorem HP(c:aj)(b:∀i,i<5->0<=c.get i/\c.get i<=1048576)(q:List UInt8):∀m,m<=5->∀t,∃d,gH m (gu c m++t)=some (d,t)/\∀i,i<5->d.get i=if i<m then c.get i else 0
 |0,_,t=>⟨aj.zero,rfl,λi hi=>by
  rw[ai U];have:i=0\/i=1\/i=2\/i=3\/i=4:=U;rcases this with rfl|rfl|rfl|rfl|rfl<;>rfl⟩
 |m+1,hm,t=>by
  obtain⟨d,hd,f⟩:=HP c b q m U (vB (c.get m).toNat++t);refine⟨d.set m (c.get m),?_,λi hi=>?_⟩
  ·unfold gH;rw[tO,dB,hd];simp only;rw[A7 _ (b m U)]
  ·rw[aj.yf _ _ _ _ U hi,f i hi];by_cases e:i=m
   ·subst e;rw[an rfl,an U]
   ·rw[ai e];by_cases a:i<m
    ·rw[an a,an U]
    ·rw[ai a,ai U]
theorem NC(c:aj)(a:∀i,i<5->0<=c.get i/\c.get i<=1048576)(t:List UInt8):gH 5 (gu c 5++t)=some (c,t):=by obtain⟨d,hd,b⟩:=HP c a t 5 (bj _) t;rw[hd,show d=c from aj.zm λi hi=>by rw[b i hi,an hi]]
theorem Xz(x:aF)(h:x.aW):sG x.body=some x:=by
 have i:=h.k;have j:=h.r;have b:=jM x.kind U U;have c:=jM x.r U U;have g:x.body=UInt8.ofNat x.kind.toNat::UInt8.ofNat x.r.toNat::(x.ig++(x.jV++x.kx)):=by unfold aF.body aF.ez;simp
 rw[g];unfold sG;simp only[b,c];rw[an i];have d:(if iP x.kind then iy (x.ig++(x.jV++x.kx))else some (0,x.ig++(x.jV++x.kx)))=some (x.upto,x.jV++x.kx):=by
  unfold aF.ig;by_cases a:iP x.kind
  ·rw[an a,an a,A7 _ h.u]
  ·rw[ai a,ai a,h.nu a,lG]
 rw[d];simp only;have e:(if gj x.kind then gH 5 (x.jV++x.kx)else some (aj.zero,x.jV++x.kx))=some (x.c,x.kx):=by
  unfold aF.jV;by_cases a:gj x.kind
  ·rw[an a,an a,NC _ h.c]
  ·rw[ai a,ai a,h.nc a,lG]
 rw[e];simp only;have f:(if ea x.kind then mS x.kx else some ([],x.kx))=some (x.l,if ea x.kind then[]else x.kx):=by
  unfold aF.kx;by_cases a:ea x.kind
  ·have:=Wn [] x.l h.l h.m;rw[ck]at this;rw[an a,an a,an a,this]
  ·rw[ai a,ai a,ai a,h.ne a]
 rw[f]
theorem Ev.lR{e:Ev}(h:e.aW):0<e.bytes.length/\e.bytes.length<=60:=by
 have g:=Ed.vO h.ed;have j:=h.r;have i:=h.n;have f:=h.h;have a:=fy (n:=e.n.toNat) U;have b:=fy (n:=e.h.toNat) U;have c:=zC e.c e.r h.c 5 (bj _);have d:(jQ e.ed).length<=30:=by
  unfold jQ sB;split
  ·simp only[bo,dL,jx];omega
  ·simp only[bo,dL,jx];omega
 unfold Ev.bytes;simp only[bo,dL,jx];omega
theorem vQ:∀l:List Ev,(∀e∈l,e.aW)->(de l).length<=60*l.length
 |[],_=>by simp[de]
 |e::l,h=>by have b:=vQ l (λx hx=>h x (eu _ hx));have a:=(Ev.lR (h e (fP ..))).2;rw[FX,bo,dL];omega
theorem tH(c:aj)(a:∀i,i<5->0<=c.get i/\c.get i<=1048576):∀m,m<=5->(gu c m).length<=4*m
 |0,_=>by simp[gu]
 |m+1,hm=>by have d:=tH c a m U;have b:=a m U;have:=fy (n:=(c.get m).toNat) U;rw[tO,bo];omega
theorem aF.xq(x:aF)(h:x.aW):2<=x.body.length/\x.body.length<=100+60*x.l.length:=by
 have a:x.ig.length<=4:=by
  unfold aF.ig;split
  ·exact fy (by have:=h.u;omega)
  ·simp
 have b:x.jV.length<=20:=by
  unfold aF.jV;split
  ·exact tH x.c h.c 5 (bj _)
  ·simp
 have c:x.kx.length<=4+60*x.l.length:=by
  unfold aF.kx;split
  ·have:=vQ x.l h.l;have:=fy (n:=x.l.length) (by have:=h.m;omega);rw[bo];omega
  ·simp
 unfold aF.body aF.ez;simp only[bo,dL,jx];omega
theorem aF.lR(x:aF)(h:x.aW):0<x.bytes.length/\x.bytes.length<=108+60*x.l.length:=by have a:=x.xq h;have b:=h.m;have c:=fy (n:=(dN x.body).length) (by rw[nJ];omega);unfold aF.bytes;rw[bo];have:=nJ x.body;omega
theorem Vs(x:aF)(h:x.aW)(q:List UInt8):iS (x.bytes++q)=some (x,x.bytes.length):=by
 have d:=x.xq h;have e:=h.m;have f:=nJ x.body;have c:iQ (x.bytes++q)=.ok ((dN x.body).length,(vB (dN x.body).length).length):=by unfold aF.bytes;rw[dB];exact wb U _
 have a:(vB (dN x.body).length).length+(dN x.body).length=x.bytes.length:=by unfold aF.bytes;rw[bo]
 have b:(x.bytes++q).take ((vB (dN x.body).length).length+(dN x.body).length)=x.bytes:=by rw[a,jL]
 have hd:x.bytes.drop (vB (dN x.body).length).length=dN x.body:=by
  conv=>lhs;rw[show x.bytes=vB (dN x.body).length++dN x.body from rfl]
  rw[rA]
 unfold iS;rw[c];simp only;rw[ai (by rw[bo];omega),b,hd,uU];simp only;rw[Xz x h];simp only;rw[an ⟨h,rfl⟩,a]
theorem HR:∀(k n i b:Nat) (p q:List UInt8),n<2^(7*k)->i+k<=9->vB n=p++q->q≠[]->vT i b p=.error 2
 |0,n,i,b,p,q,hn,hi,he,hq=>by
  have:n=0:=by simpa using hn
  subst this;rw[qw U]at he;rcases p with _|⟨a,p⟩
  ·unfold vT;rw[ai U]
  ·simp only[pY,jH]at he;exact absurd (List.append_eq_nil_iff.1 he.2.symm).2 hq
 |k+1,n,i,b,p,q,hn,hi,he,hq=>by
  rcases p with _|⟨a,p⟩
  ·unfold vT;rw[ai U]
  ·by_cases h:n<128
   ·rw[qw h]at he;simp only[pY,jH]at he;exact absurd (List.append_eq_nil_iff.1 he.2.symm).2 hq
   ·rw[uk h]at he;simp only[pY,jH]at he;have e:a.toNat=n%128+128:=by rw[<-he.1];simp;omega
    have c:n/128<2^(7*k):=by rw[show 7*(k+1)=7*k+7 by omega,qX]at hn;exact yA (by rw[pE];exact hn)
    unfold vT;rw[ai U,an U];exact HR k (n/128) (i+1) _ p q c U he.2 hq
theorem Kd(x:aF)(h:x.aW)(p q:List UInt8)(c:x.bytes=p++q)(g:q≠[]):iS p=none:=by
 have i:=x.xq h;have l:=h.m;have o:=nJ x.body;have k:x.bytes.length=p.length+q.length:=by rw[c,bo]
 have m:0<q.length:=wI.2 g;have r:=fy (n:=(dN x.body).length) U;have j:(vB (dN x.body).length).length+(dN x.body).length=x.bytes.length:=by unfold aF.bytes;rw[bo]
 have f:vB (dN x.body).length++dN x.body=p++q:=c;rcases List.append_eq_append_iff.1 f with⟨t,a,e⟩|⟨t,a,e⟩
 ·have b:iQ p=.ok ((dN x.body).length,(vB (dN x.body).length).length):=by rw[a];exact wb U _
  unfold iS;rw[b];simp only;rw[an U]
 ·by_cases d:t=[]
  ·subst d;rw[ck]at a;have b:iQ p=.ok ((dN x.body).length,(vB (dN x.body).length).length):=by have:=wb (n:=(dN x.body).length) U [];rw[ck]at this;rw[<-a];exact this
   unfold iS;rw[b];simp only;rw[an U]
  ·have:=HR 9 _ 0 0 p t U U a d;unfold iS;rw[show iQ p=.error 2 from this]
theorem JS:iS []=none:=rfl
theorem RS{b:List UInt8}{x:aF}(h:iS b=some (x,k)):x.aW/\b=x.bytes++b.drop k/\k=x.bytes.length:=by
 unfold iS at h;split at h
 ·cases h
 ·rename_i n d c;split at h
  ·cases h
  ·rename_i a;split at h
   ·cases h
   ·split at h
    ·cases h
    ·split at h
     ·rename_i hx;simp only[iE,kR]at h;obtain⟨rfl,rfl⟩:=h;refine⟨hx.1,by rw[hx.2,mi],?_⟩;rw[hx.2,dy];omega
     ·cases h
inductive oR:List UInt8->List aF->Nat->Prop
 |nil {b:List UInt8}:iS b=none->oR b [] 0
 |cons {b:List UInt8} {x:aF} {k n:Nat} {l:List aF}:iS b=some (x,k)->oR (b.drop k) l n->oR b (x::l) (k+n)
def cO(l:List aF):List UInt8:=l.flatMap aF.bytes
theorem DU(x:aF)(l:List aF):cO (x::l)=x.bytes++cO l:=by simp[cO]
theorem sh(a b:List aF):cO (a++b)=cO a++cO b:=by simp[cO]
theorem oR.of{q:List UInt8}(b:iS q=none):∀{l:List aF} {m:List aF} {n:Nat},(∀x∈l,x.aW)->oR (cO l++q) m n->m=l/\n=(cO l).length
 |[],m,n,_,h=>by
  simp only[cO,List.flatMap_nil,lG]at h;cases h with
  |nil=>exact⟨rfl,rfl⟩
  |cons h1 _=>rw[b]at h1;cases h1
 |x::l,m,n,hm,h=>by
  rw[DU,dB]at h;have a:=Vs x (hm x (fP ..)) (cO l++q);cases h with
  |nil h1=>rw[a]at h1;cases h1
  |cons h1 h2=>rw[a]at h1;simp only[iE,kR]at h1;obtain⟨rfl,rfl⟩:=h1;rw[rA]at h2;obtain⟨rfl,rfl⟩:=oR.of b (λy hy=>hm y (eu _ hy)) h2;exact⟨rfl,by rw[DU,bo]⟩
end
section
def dR(k:Int):Prop:=k=1\/k=4
def eE(k:Int):Prop:=k=2
def eg(k:Int):Prop:=k=3\/k=5
instance(k:Int):Decidable (eE k):=by unfold eE;infer_instance
instance(k:Int):Decidable (dR k):=by unfold dR;infer_instance
instance(k:Int):Decidable (eg k):=by unfold eg;infer_instance
structure aF.cM(x:aF):Prop where
 k:1<=x.kind/\x.kind<=5
 r:0<=x.r/\x.r<5
 u:0<=x.upto/\x.upto<=1048576
 nu:¬eE x.kind->x.upto=0
 nc:¬eg x.kind->x.c=aj.zero
 ne:¬dR x.kind->x.l=[]
 c:∀i,i<5->0<=x.c.get i/\x.c.get i<=1048576
 m:x.l.length<=20
 p:x.kind=1->x.l≠[]
 l:∀e∈x.l,e.aW
 own:x.kind=1->∀e∈x.l,e.r=x.r
def aF.iu(x:aF):List UInt8:=if dR x.kind then UInt8.ofNat x.l.length::de x.l else[]
def aF.im(x:aF):List UInt8:=if eE x.kind then vB x.upto.toNat else[]
def aF.lv(x:aF):List UInt8:=if eg x.kind then gu x.c 5 else[]
def aF.dJ(x:aF):List UInt8:=x.ez++x.iu++x.im++x.lv
def aF.bu(x:aF):List UInt8:=dN (vB x.dJ.length++x.dJ)
def si(b:List UInt8):Option (List Ev):=match b with
 |[]=>none
 |n::q=>(gF n.toNat q).map Prod.fst
def mF(b:List UInt8):Option aF:=match iQ b with
 | .error _=>none
 | .ok (_,n)=>match b.drop n with
  |k::r::q=>
   if 1<=(k.toNat:Int)/\(k.toNat:Int)<=5 then
    match (if dR k.toNat then si q else some [])with
    |none=>none
    |some l=>match (if eE k.toNat then iy q else some (0,q))with
     |none=>none
     |some (u,_)=>match (if eg k.toNat then gH 5 q else some (aj.zero,q))with
      |none=>none
      |some (c,_)=>some ⟨k.toNat,r.toNat,u,c,l⟩
   else none
  |_=>none
open Classical in
noncomputable def cV(b:List UInt8):aF×Int:=
 if 2048<b.length then(aF.zero,5)else match gL b with
 |none=>(aF.zero,4)
 |some q=>match mF q with
  |none=>(aF.zero,3)
  |some x=>if x.cM/\x.bu=b then(x,0)else(aF.zero,3)
theorem VB(l:List Ev)(h:∀e∈l,e.aW)(a:l.length<=20):si (UInt8.ofNat l.length::de l)=some l:=by
 unfold si;simp only;have e:(UInt8.ofNat l.length).toNat=l.length:=by simp;omega
 have:=E1 [] l h;rw[ck]at this;rw[e,this];rfl
theorem UU(x:aF)(h:x.cM)(n:x.dJ.length<2^63):mF (vB x.dJ.length++x.dJ)=some x:=by
 have m:=h.k;have o:=h.r;have j:=jM x.kind U U;have k:=jM x.r U U;have l:x.dJ=UInt8.ofNat x.kind.toNat::UInt8.ofNat x.r.toNat::(x.iu++(x.im++x.lv)):=by unfold aF.dJ aF.ez;simp
 unfold mF;rw[wb n];simp only[rA];rw[l];simp only[j,k];rw[an m];by_cases a:dR x.kind
 ·have g:¬eE x.kind:=by unfold eE;unfold dR at a;omega
  have c:¬eg x.kind:=by unfold eg;unfold dR at a;omega
  have d:x.im=[]:=ai g;have e:x.lv=[]:=ai c;have f:x.iu=UInt8.ofNat x.l.length::de x.l:=an a;rw[an a,ai g,ai c,f,d,e,ck,ck,VB x.l h.l h.m];simp only;rw[<-h.nu g,<-h.nc c]
 ·have f:x.iu=[]:=ai a;rw[ai a,f,lG];simp only;by_cases b:eE x.kind
  ·have c:¬eg x.kind:=by unfold eg;unfold eE at b;omega
   have e:x.lv=[]:=ai c;have d:x.im=vB x.upto.toNat:=an b;have:=A7 x.upto h.u [];rw[ck]at this;rw[an b,ai c,d,e,ck,this];simp only;rw[<-h.ne a,<-h.nc c]
  ·have i:eg x.kind:=by unfold eg;unfold eE at b;unfold dR at a;omega
   have d:x.im=[]:=ai b;have e:x.lv=gu x.c 5:=an i;have:=NC x.c h.c [];rw[ck]at this;rw[ai b,d,lG];simp only;rw[an i,e,this];simp only;rw[<-h.ne a,<-h.nu b]
theorem aF.vu(x:aF)(h:x.cM):2<=x.dJ.length/\x.dJ.length<=1300:=by
 have a:x.im.length<=4:=by
  unfold aF.im;split
  ·exact fy (by have:=h.u;omega)
  ·simp
 have b:x.lv.length<=20:=by
  unfold aF.lv;split
  ·exact tH x.c h.c 5 (bj _)
  ·simp
 have c:x.iu.length<=1201:=by
  unfold aF.iu;split
  ·have:=vQ x.l h.l;have:=h.m;rw[dL];omega
  ·simp
 unfold aF.dJ aF.ez;simp only[bo,dL,jx];omega
theorem aF.pH(x:aF)(h:x.cM):x.bu.length<=1310:=by have a:=x.vu h;have b:=fy (n:=x.dJ.length) U;unfold aF.bu;rw[nJ,bo];omega
theorem sX(x:aF)(h:x.cM):cV x.bu=(x,0):=by have c:=x.pH h;have b:=x.vu h;have a:gL x.bu=some (vB x.dJ.length++x.dJ):=uU _;unfold cV;rw[ai U,a];simp only;rw[UU x h U];simp only;rw[an ⟨h,rfl⟩]
theorem Zp(b:List UInt8):((cV b).2=0/\(cV b).1.cM/\b=(cV b).1.bu)\/((cV b).1=aF.zero/\((cV b).2=3\/(cV b).2=4\/(cV b).2=5)):=by
 unfold cV;split
 ·exact .inr ⟨rfl,.inr (.inr rfl)⟩
 ·split
  ·exact .inr ⟨rfl,.inr (.inl rfl)⟩
  ·split
   ·exact .inr ⟨rfl,.inl rfl⟩
   ·split
    ·rename_i h;exact .inl ⟨rfl,h.1,h.2.symm⟩
    ·exact .inr ⟨rfl,.inl rfl⟩
end
section
set_option maxRecDepth 20000 attribute [local irreducible] Ex aM Fn bI bJ bV fin meet ch aX bZ aP aN aI Rd aK Row ao Sub bk bP bS bN bg bR Hid bY
section
theorem NW(n:Int)(M:List aa):Fn prog 271 #[.int .i64 n] M λv L'=>v=.bool (decide (0<=n/\n<=1048576))/\L'=M:=by
 refine fo func271 ntmps271 ?_;by_cases a:0<=n
 ·refine rn ?_;intros;refine fr ?_;exact⟨_,rB,by simp[a],rfl⟩
 ·refine rn ?_;intros;refine fr ?_;exact⟨_,rB,by simp[a],rfl⟩
theorem DV(k:Int)(M:List aa):Fn prog 234 #[.int .i64 k] M λv L'=>v=.tuple #[.bool (decide (iP k)),.bool (decide (ea k)),.bool (decide (gj k)),.bool (decide (1<=k/\k<=6))]/\L'=M:=by
 have a:k=1\/k=2\/k=3\/k=4\/k=5\/k=6\/(k≠1/\k≠2/\k≠3/\k≠4/\k≠5/\k≠6):=U;refine fo func234 ntmps234 ?_;rcases a with rfl|rfl|rfl|rfl|rfl|rfl|a
 ·refine rn ?_;intros;refine sA (oO (rs:=[_,_,_,_]) (vs:=[_,_,_,_]) J ⟨rI,rI,rI,rI,trivial⟩) ?_;exact⟨_,rB,rfl,rfl⟩
 ·refine rn ?_;intros;refine sA (oO (rs:=[_,_,_,_]) (vs:=[_,_,_,_]) J ⟨rI,rI,rI,rI,trivial⟩) ?_;exact⟨_,rB,rfl,rfl⟩
 ·refine rn ?_;intros;refine sA (oO (rs:=[_,_,_,_]) (vs:=[_,_,_,_]) J ⟨rI,rI,rI,rI,trivial⟩) ?_;exact⟨_,rB,rfl,rfl⟩
 ·refine rn ?_;intros;refine sA (oO (rs:=[_,_,_,_]) (vs:=[_,_,_,_]) J ⟨rI,rI,rI,rI,trivial⟩) ?_;exact⟨_,rB,rfl,rfl⟩
 ·refine rn ?_;intros;refine sA (oO (rs:=[_,_,_,_]) (vs:=[_,_,_,_]) J ⟨rI,rI,rI,rI,trivial⟩) ?_;exact⟨_,rB,rfl,rfl⟩
 ·refine rn ?_;intros;refine sA (oO (rs:=[_,_,_,_]) (vs:=[_,_,_,_]) J ⟨rI,rI,rI,rI,trivial⟩) ?_;exact⟨_,rB,rfl,rfl⟩
 ·refine rn ?_;intros;refine sA (oO (rs:=[_,_,_,_]) (vs:=[_,_,_,_]) J ⟨rI,rI,rI,rI,trivial⟩) ?_;refine⟨_,rB,?_,rfl⟩;rw[bd (show¬iP k by unfold iP;omega),bd (show¬ea k by unfold ea;omega),bd (show¬gj k by unfold gj;omega),bd (show¬(1<=k/\k<=6)by omega)];rfl
theorem EZ(v0:Value)(b:List UInt8)(M c:List aa)(e:aI c v0 b)(g:Sub c M)(h:O1 v0)(f:b.length<=1000000000):Fn prog 288 #[v0] M
  λr L'=>(iy b=none/\r=.tuple #[.int .i64 0,.slice none 0 0,.bool false]/\L'=M)\/∃n q u,iy b=some (n,q)/\O1 u/\q.length<=b.length/\0<=n/\n<=1048576/\r=.tuple #[.int .i64 n,u,.bool true]/\aI c u q/\L'=M:=by
 have l:aI M v0 b:=e.sub g;refine fo func288 ntmps288 ?_;refine rn ?_;intros;refine bc [] J call247 J J (wX _ b _ rD f) ?_;rintro _ _ ⟨rfl,rfl⟩;have a:=th b 0 0;rcases hv:iQ b with x|⟨n,k⟩
 ·have d:vT 0 0 b=.error x:=hv;rw[d]at a;have hx:x=2\/x=3:=a;have hN:iy b=none:=by unfold iy;rw[hv]
  unfold oB;refine rn ?_;intros;refine fr ?_;exact⟨_,rB,.inl ⟨hN,rfl,rfl⟩⟩
 ·have d:vT 0 0 b=.ok (n,k):=hv;rw[d]at a;have i:0<k/\k<=0+b.length:=a;unfold oB;by_cases j:1048576<(n:Int)
  ·have hN:iy b=none:=by unfold iy;rw[hv];simp only;rw[an U]
   refine rn ?_;intros;refine fr ?_;exact⟨_,rB,.inl ⟨hN,rfl,rfl⟩⟩
  ·have hN:iy b=some ((n:Int),b.drop k):=by unfold iy;rw[hv];simp only;rw[ai U]
   refine rn ?_;intros;refine wk ?_;intros;refine rn ?_;intros;refine fr ?_;exact⟨_,rB,.inr ⟨n,b.drop k,_,hN,jB h,by rw[ew];omega,U,U,rfl,ni e U rfl J,rfl⟩⟩
@[reducible] def RB(r:Value)(l:Option (List Ev×List UInt8))(M L':List aa):Prop:=
 (l=none/\r=.tuple #[.slice none 0 0,.bool false]/\L'=M)\/∃x q u,l=some (x,q)/\u.oneCell'=true/\r=.tuple #[u,.bool true]/\L'=aL u x::M
theorem Bo:∀(n:Nat) (b:List UInt8),gF (n+1) b=match gF n b with
  |none=>none
  |some (l,q)=>if(gf q).2.2=0 then some (l++[(gf q).1],q.drop (gf q).2.1)else none
 |0,b=>by
  simp only[gF];split<;>simp
 |n+1,b=>by
  have c:=Bo n (b.drop (gf b).2.1);rw[gF];by_cases h:(gf b).2.2=0
  ·rw[an h,c]
   conv=>rhs;rw[gF,an h]
   cases hr:gF n (b.drop (gf b).2.1)with
   |none=>rfl
   |some p=>
    obtain⟨l,q⟩:=p;simp only;by_cases a:(gf q).2.2=0
    ·rw[an a,an a];rfl
    ·rw[ai a,ai a]
  ·rw[ai h]
   conv=>rhs;rw[gF,ai h]
theorem Dv:∀(n:Nat) (b:List UInt8) {l:List Ev} {q:List UInt8},gF n b=some (l,q)->l.length=n/\q.length<=b.length/\∀e∈l,e.ed.key.length<=8/\e.ed.value.length<=12
 |0,b,l,q,h=>by
  simp only[gF,iE,kR]at h;obtain⟨rfl,rfl⟩:=h;exact⟨rfl,bj _,λe a=>by cases a⟩
 |n+1,b,l,q,h=>by
  rw[gF]at h;split at h
  ·split at h
   ·cases h
   ·rename_i f g d;simp only[iE,kR]at h;obtain⟨rfl,rfl⟩:=h;have c:=Dv n _ d;rw[ew]at c;refine⟨by rw[dL,c.1],U,λe a=>?_⟩;rcases gA.1 a with rfl|a
    ·exact NV b
    ·exact c.2.2 e a
  ·cases h
theorem DD:∀(n k:Nat) (b:List UInt8),gF n b=none->gF (n+k) b=none
 |n,0,b,h=>h
 |n,k+1,b,h=>by rw[<-qR,Bo,DD n k b h]
theorem MK(v0:Value)(b:List UInt8)(M:List aa)(L:aI M v0 b)(Q:O1 v0)(F:b.length<=1000000000):Fn prog 289 #[v0] M λr L'=>RB r (mS b) M L':=by
 refine fo func289 ntmps289 ?_;refine rn ?_;(repeat(first|intro(g:Nat)|intro(v:Value)|intro(o:O1 _)|intro(cs:List Value)|intro(w:_=List.set _ _ _)|intro(zs:List _)|intro h));refine ca [] call288 (EZ _ b _ _ L (bW _) Q F) ?_;rintro _ _ (⟨f,rfl,rfl⟩|⟨n,q,u,f,R,hq,I,d6,rfl,t,rfl⟩)
 ·have e:mS b=none:=by unfold mS;rw[f]
  refine rn ?_;(repeat(first|intro(g:Nat)|intro(v:Value)|intro(o:O1 _)|intro(cs:List Value)|intro(w:_=List.set _ _ _)|intro(zs:List _)|intro h));refine fr ?_;exact⟨_,rB,.inl ⟨e,rfl,rfl⟩⟩
 ·by_cases y:4096<n
  ·have e:mS b=none:=by unfold mS;rw[f];exact an y
   refine rn ?_;(repeat(first|intro(g:Nat)|intro(v:Value)|intro(o:O1 _)|intro(cs:List Value)|intro(w:_=List.set _ _ _)|intro(zs:List _)|intro h));refine fr ?_;exact⟨_,rB,.inl ⟨e,rfl,rfl⟩⟩
  ·obtain⟨m,rfl⟩:=jF I;have e:mS b=gF m q:=by unfold mS;rw[f];simp only;rw[ai y,dc]
   rw[e];rename_i c
   replace t:aI c u q:=t
   refine rn ?_;(repeat(first|intro(g:Nat)|intro(v:Value)|intro(o:O1 _)|intro h));refine bF ?_ (cA (α:=Ev) none 80 c);refine bm [0,6,23] (λk vs L'=>∃(i:Nat) (l:List Ev) (a:List UInt8) (j p:Value),i<=m/\k=m-i/\gF i q=some (l,a)/\j.oneCell'=true/\p.oneCell'=true/\aI c j a/\vs=[j,p,.int .i64 i]/\L'=aL p l::c) m ⟨0,[],q,u,_,U,U,rfl,R,rfl,t,rfl,rfl⟩ ?_;rintro k vs W V ⟨i,l,a,j,p,hi,rfl,s,z,S,P,rfl,rfl⟩;refine bp [0,6,22,23] rG (λgk=>?_);have c8:=Dv i q s;by_cases c9:i<m
   ·have d:=Bo i q;rw[s]at d;simp only at d;refine rn ?_;(repeat(first|intro(g:Nat)|intro(v:Value)|intro(o:O1 _)|intro h));refine bc [] J call290 J J (Jd _ a _ rD z U) ?_;rintro _ _ ⟨rfl,rfl⟩;have d8:=Ih a;by_cases x:(gf a).2.2=0
    ·rw[an x]at d;refine rn ?_;(repeat(first|intro(g:Nat)|intro(v:Value)|intro(o:O1 _)|intro h));revert g;intro A;refine fh [1] rE ?_;refine bU 8 (ao A 80 (ab.cells (gf a).1)::c) rfl rQ rF ?_;refine mn ?_;(repeat(first|intro(v:Value)|intro(o:O1 _)|intro h));refine rn ?_;(repeat(first|intro(v:Value)|intro(o:O1 _)|intro h));exact aS ⟨m-(i+1),aL v (l++[(gf a).1])::c,U,rB,i+1,_,_,_,v,U,rfl,d,jB z,o,ni P U rfl J,av rfl (av rfl (av (aQ U) rfl)),rfl⟩
    ·rw[ai x]at d;have C:gF m q=none:=by have:=DD (i+1) (m-(i+1)) q d;rwa[show i+1+(m-(i+1))=m by omega]at this
     refine rn ?_;intros;refine fr ?_;exact⟨_,rB,.inl ⟨C,rfl,rfl⟩⟩
   ·have H:i=m:=U;subst H;refine rn ?_;intros;refine fr ?_;exact⟨_,rB,.inr ⟨l,a,_,s,S,rfl,rfl⟩⟩
end
end
section
set_option maxRecDepth 20000
instance:pV prog 50 aj:=⟨6,[.i .i64,.i .i64,.i .i64,.i .i64,.i .i64],by kernel_rfl,by kernel_rfl,by kernel_rfl,by kernel_rfl,λ_=>rfl,λa b h=>by obtain⟨c,d,e,f,g⟩:=a;obtain⟨j,k,l,m,n⟩:=b;simp only[ab.cells,jH,uh,qy,nV]at h;simp[h]⟩
end
section
theorem aM.wc{P:Program}{n:Nat}{Q:bx}{f:Nat->Value}{L:List aa}{y z:Code}{ops:Array Oper}{l:List Oper}(k:Nat)(ss:List Nat)(I:List Value->List aa->Prop)(hy:∀vs g L',I vs L'->Ex P n (qq k z) Q (lA g ss vs) L')
  (hx:(∀f L,(∃L',Sub L' L/\I (ss.map f) L')->Ex P n (Hid (qq k z)) Q f L)->aM P n ops l (bI P n y (bI P n (sr k z) Q)) f L):aM P n ops l (bI P n y (bI P n z Q)) f L:=by
 rw[uJ]at hx;refine hx λf L ⟨L',a,h⟩=>?_;have:=hy _ f L' h;rw[oW]at this;exact bF this a
set_option maxRecDepth 20000 attribute [local irreducible] Ex aM Fn bI bJ bV fin meet ch aX bZ aP aN aI Rd aK Row ao Sub bk bP bS bN bg bR Hid bY
section
@[reducible] def bH(x:aF)(v:Value):List Value:=[.int .i64 x.kind,.int .i64 x.r,.int .i64 x.upto,.int .i64 x.c.a,.int .i64 x.c.b,.int .i64 x.c.c,.int .i64 x.c.d,.int .i64 x.c.e,v]
theorem YS(x:aF)(v0:Value)(M:List aa)(hr:aI M v0 x.l)(o0:O1 v0)(hl:x.l.length<=1000000000)(hs:∀e∈x.l,e.ed.key.length<=1000/\e.ed.value.length<=1000):Fn prog 233 #[.agg (bH x v0).toArray] M λv L'=>(∃t:Bool,(t=true↔x.aW)/\v=.bool t)/\L'=M:=by
 refine fo func233 ntmps233 ?_;refine rn ?_;(repeat(first|intro(g:Nat)|intro h));refine ca [] call234 (DV x.kind _) ?_;rintro _ _ ⟨rfl,rfl⟩;by_cases w:1<=x.kind/\x.kind<=6
 rotate_left
 ·rw[bd w];refine rn ?_;(repeat(first|intro(g:Nat)|intro h));refine fr ?_;exact⟨_,rB,⟨false,by simp;exactλh=>w h.k,rfl⟩,rfl⟩
 rw[bf w];by_cases z:0<=x.r
 rotate_left
 ·refine rn ?_;(repeat(first|intro(g:Nat)|intro h));refine fr ?_;exact⟨_,rB,⟨false,by simp;exactλh=>z h.r.1,rfl⟩,rfl⟩
 by_cases H:x.r<5
 rotate_left
 ·refine rn ?_;(repeat(first|intro(g:Nat)|intro h));refine fr ?_;exact⟨_,rB,⟨false,by simp;exactλh=>H h.r.2,rfl⟩,rfl⟩
 refine rn ?_;(repeat(first|intro(g:Nat)|intro h));refine ca [] call271 (NW x.upto _) ?_;rintro _ _ ⟨rfl,rfl⟩;by_cases A:0<=x.upto/\x.upto<=1048576
 rotate_left
 ·rw[bd A];refine rn ?_;(repeat(first|intro(g:Nat)|intro h));refine fr ?_;exact⟨_,rB,⟨false,by simp;exactλh=>A h.u,rfl⟩,rfl⟩
 rw[bf A];revert g;intro C;refine aM.wc 2 [1] (λvs L'=>x.l.length<=4096/\(∀i,i<5->0<=x.c.get i/\x.c.get i<=1048576)/\(¬iP x.kind->x.upto=0)/\(¬gj x.kind->x.c=aj.zero)/\(¬ea x.kind->x.l=[])/\vs=[.pointer (some ⟨C,0,none⟩)]/\L'=ao C 88 (bH x v0)::M) ?_ ?_
 ·rintro vs I L' ⟨f,n,l,k,d,rfl,rfl⟩;refine rn ?_;intros;refine bm [82] (λq vs L'=>∃i:Nat,i<=x.l.length/\q=x.l.length-i/\(∀j (p:j<x.l.length),j<i->(x.l[j]'p).aW)/\vs=[.int .i64 i]/\L'=ao C 88 (bH x v0)::M) x.l.length ⟨0,U,rfl,λj _ p=>by omega,rfl,rfl⟩ ?_;rintro q vs V R ⟨i,hi,rfl,r,rfl,rfl⟩;refine bp [1,80,81,82] rG (λI=>?_);by_cases s:i<x.l.length
  ·have d8:=hs _ (bT s);refine rn ?_;intros;refine ca [] call236 (xU (x.l[i]'s) _ U U) ?_;rintro _ _ ⟨⟨y,hy,rfl⟩,rfl⟩;by_cases Q:y=0
   ·subst Q;have hm:=hy.1 rfl;refine rn ?_;intros;exact aS ⟨x.l.length-(i+1),_,U,rB,i+1,U,rfl,λj p c9=>by
     rcases mY j i with h|h
     ·exact r j p h
     ·have:j=i:=U;subst this;exact hm,av (aQ U) rfl,rfl⟩
   ·refine rn ?_;intros;refine fr ?_;exact⟨_,rB,⟨false,by simp;exactλh=>Q (hy.2 (h.l _ (bT s))),rfl⟩,rfl⟩
  ·have L:∀e∈x.l,e.aW:=λe W=>by obtain⟨j,p,rfl⟩:=la W;exact r j p U
   by_cases P:x.kind=1
   ·refine rn ?_;intros;refine fr ?_;refine⟨_,rB,⟨_,?_,rfl⟩,rfl⟩;simp only[kZ];exact⟨λh=>⟨w,⟨z,H⟩,A,f,n,l,k,d,L,λ_=>by omega⟩,λh=>by have:=h.one P;omega⟩
   ·refine rn ?_;intros;refine fr ?_;exact⟨_,rB,⟨true,by simp;exact⟨w,⟨z,H⟩,A,f,n,l,k,d,L,λh=>absurd h P⟩,rfl⟩,rfl⟩
 intro o;by_cases f:x.l.length<=4096
 rotate_left
 ·refine rn ?_;intros;refine fr ?_;exact⟨_,rB,⟨false,by simp;exactλh=>f h.m,rfl⟩,rfl⟩
 refine rn ?_;intros;refine bm [45] (λq vs L'=>∃i:Nat,i<=5/\q=5-i/\(∀j,j<i->0<=x.c.get j/\x.c.get j<=1048576)/\vs=[.int .i64 i]/\L'=ao C 88 (bH x v0)::M) 5 ⟨0,U,rfl,λj p=>by omega,rfl,rfl⟩ ?_;rintro q vs V R ⟨i,hi,rfl,r,rfl,rfl⟩;refine bp [1,3,4,5,44,45] rG (λI=>?_);by_cases s:i<5
 ·refine rn ?_;intros;refine cH J J J (pU J J J J J U U) ?_;rw[show(⟨x.c.a,x.c.b,x.c.c,x.c.d,x.c.e⟩:aj).get (i:Int).toNat=x.c.get i from rfl];refine rn ?_;intros;refine ca [] call271 (NW (x.c.get i) _) ?_;rintro _ _ ⟨rfl,rfl⟩;by_cases F:0<=x.c.get i/\x.c.get i<=1048576
  ·rw[bf F];refine rn ?_;intros;exact aS ⟨5-(i+1),_,U,rB,i+1,U,rfl,λj p=>by
    rcases mY j i with h|h
    ·exact r j h
    ·rw[show j=i by omega];exact F,av (aQ U) rfl,rfl⟩
  ·rw[bd F];refine rn ?_;intros;refine fr ?_;exact⟨_,rB,⟨false,by simp;exactλh=>F (h.c i s),rfl⟩,rfl⟩
 ·have f:i=5:=U;subst f;clear hi s;have n:∀i,i<5->0<=x.c.get i/\x.c.get i<=1048576:=r;clear r;by_cases a:¬iP x.kind/\x.upto≠0
  ·rw[bd a.1];have S:=a.2;refine rn ?_;intros;refine fr ?_;exact⟨_,rB,⟨false,by simp;exactλh=>S (h.nu a.1),rfl⟩,rfl⟩
  have l:¬iP x.kind->x.upto=0:=λh=>nW λz=>a ⟨h,z⟩;by_cases u:iP x.kind
  ·rw[bf u];by_cases c:gj x.kind
   ·have k:¬gj x.kind->x.c=aj.zero:=λh=>absurd c h;rw[bf c];by_cases e:ea x.kind
    ·have d:¬ea x.kind->x.l=[]:=λh=>absurd e h;rw[bf e];refine rn ?_;intros;exact o _ _ ⟨_,rB,f,n,l,k,d,av rfl rfl,rfl⟩
    rw[bd e];by_cases m:x.l.length=0
    ·have d:¬ea x.kind->x.l=[]:=λh=>dZ m;refine rn ?_;intros;exact o _ _ ⟨_,rB,f,n,l,k,d,av rfl rfl,rfl⟩
    ·refine rn ?_;intros;refine fr ?_;exact⟨_,rB,⟨false,by simp;exactλh=>m (by rw[h.ne e];rfl),rfl⟩,rfl⟩
   rw[bd c];by_cases c2:x.c=aj.zero
   ·have k:¬gj x.kind->x.c=aj.zero:=λ_=>c2;by_cases e:ea x.kind
    ·have d:¬ea x.kind->x.l=[]:=λh=>absurd e h;rw[bf e];refine rn ?_;intros;refine cH J J J (nF (a:=x.c) (b:=aj.zero) J J c2) ?_;refine rn ?_;intros;exact o _ _ ⟨_,rB,f,n,l,k,d,av rfl rfl,rfl⟩
    rw[bd e];by_cases m:x.l.length=0
    ·have d:¬ea x.kind->x.l=[]:=λh=>dZ m;refine rn ?_;intros;refine cH J J J (nF (a:=x.c) (b:=aj.zero) J J c2) ?_;refine rn ?_;intros;exact o _ _ ⟨_,rB,f,n,l,k,d,av rfl rfl,rfl⟩
    ·refine rn ?_;intros;refine cH J J J (nF (a:=x.c) (b:=aj.zero) J J c2) ?_;refine rn ?_;intros;refine fr ?_;exact⟨_,rB,⟨false,by simp;exactλh=>m (by rw[h.ne e];rfl),rfl⟩,rfl⟩
   ·refine rn ?_;intros;refine cH J J J (xO (a:=x.c) (b:=aj.zero) J J c2) ?_;refine rn ?_;intros;refine fr ?_;exact⟨_,rB,⟨false,by simp;exactλh=>c2 (h.nc c),rfl⟩,rfl⟩
  ·rw[bd u];have u0:=l u;by_cases c:gj x.kind
   ·have k:¬gj x.kind->x.c=aj.zero:=λh=>absurd c h;rw[bf c];by_cases e:ea x.kind
    ·have d:¬ea x.kind->x.l=[]:=λh=>absurd e h;rw[bf e];refine rn ?_;intros;exact o _ _ ⟨_,rB,f,n,l,k,d,av rfl rfl,rfl⟩
    rw[bd e];by_cases m:x.l.length=0
    ·have d:¬ea x.kind->x.l=[]:=λh=>dZ m;refine rn ?_;intros;exact o _ _ ⟨_,rB,f,n,l,k,d,av rfl rfl,rfl⟩
    ·refine rn ?_;intros;refine fr ?_;exact⟨_,rB,⟨false,by simp;exactλh=>m (by rw[h.ne e];rfl),rfl⟩,rfl⟩
   rw[bd c];by_cases c2:x.c=aj.zero
   ·have k:¬gj x.kind->x.c=aj.zero:=λ_=>c2;by_cases e:ea x.kind
    ·have d:¬ea x.kind->x.l=[]:=λh=>absurd e h;rw[bf e];refine rn ?_;intros;refine cH J J J (nF (a:=x.c) (b:=aj.zero) J J c2) ?_;refine rn ?_;intros;exact o _ _ ⟨_,rB,f,n,l,k,d,av rfl rfl,rfl⟩
    rw[bd e];by_cases m:x.l.length=0
    ·have d:¬ea x.kind->x.l=[]:=λh=>dZ m;refine rn ?_;intros;refine cH J J J (nF (a:=x.c) (b:=aj.zero) J J c2) ?_;refine rn ?_;intros;exact o _ _ ⟨_,rB,f,n,l,k,d,av rfl rfl,rfl⟩
    ·refine rn ?_;intros;refine cH J J J (nF (a:=x.c) (b:=aj.zero) J J c2) ?_;refine rn ?_;intros;refine fr ?_;exact⟨_,rB,⟨false,by simp;exactλh=>m (by rw[h.ne e];rfl),rfl⟩,rfl⟩
   ·refine rn ?_;intros;refine cH J J J (xO (a:=x.c) (b:=aj.zero) J J c2) ?_;refine rn ?_;intros;refine fr ?_;exact⟨_,rB,⟨false,by simp;exactλh=>c2 (h.nc c),rfl⟩,rfl⟩
end
end
def vI:=@Ev.lR
def wz:=@aF.lR
def qU:=@aF.pH
end Go.Proofs.YtogcfijlhpaeeaaGreat
