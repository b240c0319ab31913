/- Texts. No condition. -/
import Derived.Test.YtogcfijlhpaeeaaGreatYpay
import Derived.Test.YtogcfijlhpaeeaaGreatYpbb
open Go.RowKit Go.Proofs.Tryz
set_option linter.all false
set_option maxHeartbeats 32000000
namespace Go.Proofs.YtogcfijlhpaeeaaGreat
variable{i:Nat}
section
theorem EN(c:aj)(r:Int):∀k i,i+k=5->∃t,cP c r 5=cP c r i++t
 |0,i,h=>⟨[],by rw[show i=5 by omega,ck]⟩
 |k+1,i,h=>by obtain⟨t,a⟩:=EN c r k (i+1) U;exact⟨_,by rw[a,px,dB]⟩
def il(c:aj)(r:Int):Nat->aj
 |0=>aj.zero
 |m+1=>if(m:Int)=r then il c r m else(il c r m).set m (c.get m)
theorem Dh(c:aj)(r:Int):∀m,m<=5->∀i,i<5->(il c r m).get i=if i<m/\(i:Int)≠r then c.get i else 0
 |0,_,i,hi=>by
  rw[ai U];have:i=0\/i=1\/i=2\/i=3\/i=4:=U;rcases this with rfl|rfl|rfl|rfl|rfl<;>rfl
 |m+1,hm,i,hi=>by
  have d:=Dh c r m U i hi;unfold il;by_cases b:(m:Int)=r
  ·rw[an b,d];by_cases h:i<m/\(i:Int)≠r
   ·rw[an h,an U]
   ·rw[ai h,ai U]
  ·rw[ai b,aj.yf _ _ _ _ U hi,d];by_cases a:i=m
   ·subst a;rw[an rfl,an U]
   ·rw[ai a];by_cases h:i<m/\(i:Int)≠r
    ·rw[an h,an U]
    ·rw[ai h,ai U]
theorem GM(e:Ev)(i:Nat)(hi:i<5)(v:Int):(ab.cells e).set (2+i*1) (.int .i64 v)=ab.cells {e with c:=e.c.set i v}:=by
 match i,hi with
 |0,_=>rfl
 |1,_=>rfl
 |2,_=>rfl
 |3,_=>rfl
 |4,_=>rfl
set_option maxRecDepth 20000 attribute [local irreducible] Ex aM Fn bI bJ bV fin meet ch aX bZ aP aN aI Rd aK Row ao Sub bk bP bS bN bg bR Hid bY
section
theorem SH(e:Ev)(q:List UInt8)(v0:Value)(M:List aa)(j:e.aW)(hr:aI M v0 (e.bytes++q))(o0:O1 v0)(hl:q.length<=900000000):Fn prog 292 #[v0] M λr L'=>r=.tuple #[.agg (ab.cells e).toArray,.int .i64 e.bytes.length,.int .i64 0]/\L'=M:=by
 have d7:=Ed.vO j.ed;have s9:=j.r;have hn:=j.n;have hh:=j.h;have ek:=jM e.ed.kind U U;have er:=jM e.r U U;have el:((UInt8.ofNat e.ed.key.length).toNat:Int)=e.ed.key.length:=by have:=jM (e.ed.key.length:Int) U U;simpa using this
 have en:((e.n.toNat:Nat):Int)=e.n:=U;have eh:((e.h.toNat:Nat):Int)=e.h:=U;have n8:=vI j;obtain⟨b,w⟩:∃b,b=e.bytes++q:=⟨_,rfl⟩;obtain⟨P,F⟩:∃P:Nat,P=2+(vB e.n.toNat).length:=⟨_,rfl⟩;obtain⟨y,u⟩:∃y:List UInt8,y=(if e.ed.kind=1\/e.ed.kind=2 then[]else UInt8.ofNat e.ed.label.toNat::sB e.ed.value)++q:=⟨_,rfl⟩;have Q:b.drop 0=UInt8.ofNat e.ed.kind.toNat::UInt8.ofNat e.r.toNat::(vB e.n.toNat++(cP e.c e.r 5++(vB e.h.toNat++(UInt8.ofNat e.ed.key.length::(e.ed.key++y))))):=by rw[w,u];simp[Ev.bytes,jQ,sB]
 have f:b.length<=1000000000:=by rw[w,bo];omega
 have m9:b.length=e.bytes.length+q.length:=by rw[w,bo]
 have l8:iH e.ed.key=0:=by
  have:=j.ed;unfold Ed.err at this;split at this
  ·omega
  ·split at this
   ·exact absurd this (by assumption)
   ·rename_i h;exact Bs.1 h
 have hC:(il e.c e.r 5).set e.r.toNat (e.n-1)=e.c:=aj.zm λi hi=>by
  rw[aj.yf _ _ _ _ U hi,Dh _ _ 5 (bj _) i hi];by_cases h:i=e.r.toNat
  ·rw[an h,h,j.own]
  ·rw[ai h,an U]
 rw[<-w]at hr;have R:=rY Q;have S:=rY R;have A:=tu S;have j6:1<=((e.n.toNat:Nat):Int)/\((e.n.toNat:Nat):Int)<=1048576:=U;refine fo func292 ntmps292 ?_;refine rn ?_;(repeat(first|intro(g:Nat)|intro(v:Value)|intro(o:O1 _)|intro(cs:List Value)|intro(a:_=List.set _ _ _)|intro(zs:List _)|intro h));rename_i c;revert g;intro s;revert g;intro p;refine bc [1] J call323 rE J (xE c 0 v0 b _ _ e.ed.kind 1 5 _ 0 rfl rD f Q ek U) ?_;rintro _ _ ⟨rfl,rfl⟩;refine rn ?_;(repeat(first|intro(cs:List Value)|intro(a:_=List.set _ _ _)|intro h));refine bc [] J call323 rE J (xE c 1 v0 b _ _ e.r 0 4 _ (0+1) rfl rD f R er U) ?_;rintro _ _ ⟨rfl,rfl⟩;refine rn ?_;(repeat(first|intro(cs:List Value)|intro(a:_=List.set _ _ _)|intro h));refine bc [] J call324 rE J (Ge c 2 e.n.toNat v0 b _ 1 1048576 _ (0+1+1) rfl rD f S j6 U U) ?_;rintro _ _ ⟨rfl,rfl⟩;rw[en];obtain⟨P,F⟩:∃P:Nat,P=2+(vB e.n.toNat).length:=⟨_,rfl⟩;rw[<-F]at A;rw[show(0:Int)+1+1+((vB e.n.toNat).length:Int)=(P:Nat)by omega];refine rn ?_;(repeat(first|intro(cs:List Value)|intro(a:_=List.set _ _ _)|intro h));refine fh [1] rE ?_;refine bF (L':=ao s 80 (ab.cells (⟨e.r,e.n,aj.zero,0,⟨e.ed.kind,[],0,[]⟩⟩:Ev))::pT c v0 (P:Nat)::ao p 80 (ab.cells Ev.zero)::M) ?_ rB;refine bm [7] (λq vs L'=>∃i:Nat,i<=5/\q=5-i/\vs=[.int .i64 i]/\L'=ao s 80 (ab.cells (⟨e.r,e.n,il e.c e.r i,0,⟨e.ed.kind,[],0,[]⟩⟩:Ev))::pT c v0 (P+(cP e.c e.r i).length:Nat)::ao p 80 (ab.cells Ev.zero)::M) 5 ⟨0,U,rfl,rfl,rfl⟩ ?_;rintro q1 vs g1 L1 ⟨i,hi,rfl,rfl,rfl⟩;refine bp [0,2,5,6,7] rG (λgk=>?_);by_cases d8:i<5
 ·have n9:=j.c i d8;by_cases n:(i:Int)=e.r
  ·have C:il e.c e.r (i+1)=il e.c e.r i:=by unfold il;rw[an n];cases i<;>rfl
   have e2:cP e.c e.r (i+1)=cP e.c e.r i:=by rw[px,an n,ck]
   rw[<-C,<-e2];refine rn ?_;(repeat(first|intro(cs:List Value)|intro(a:_=List.set _ _ _)|intro h));exact aS ⟨5-(i+1),_,U,rB,i+1,U,rfl,av (aQ U) rfl,rfl⟩
  ·have C:il e.c e.r (i+1)=(il e.c e.r i).set i (e.c.get i):=by conv=>lhs;unfold il;rw[ai n]
   obtain⟨t,I⟩:=EN e.c e.r (4-i) (i+1) U;have k:=px e.c e.r i;rw[ai n]at k;rw[k,dB]at I;have hd:=A;rw[I,dB]at hd;have hd:=tu hd;rw[dB]at hd;have hg:0<=(((e.c.get i).toNat:Nat):Int)/\(((e.c.get i).toNat:Nat):Int)<=1048576:=U;have e3:(((e.c.get i).toNat:Nat):Int)=e.c.get i:=U;have e2:P+(cP e.c e.r i).length+(vB (e.c.get i).toNat).length=P+(cP e.c e.r (i+1)).length:=by rw[px,ai n,bo];omega
   clear I;have r0:(ab.cells (⟨e.r,e.n,il e.c e.r i,0,⟨e.ed.kind,[],0,[]⟩⟩:Ev)).length=12:=rfl;refine rn ?_;(repeat(first|intro(cs:List Value)|intro(a:_=List.set _ _ _)|intro h));refine bc [1] J call324 rE J (Ge c _ (e.c.get i).toNat v0 b _ 0 1048576 _ _ rfl rD f hd hg U U) ?_;rintro _ _ ⟨rfl,rfl⟩;rw[e3,show((P+(cP e.c e.r i).length:Nat):Int)+((vB (e.c.get i).toNat).length:Int)=(P+(cP e.c e.r (i+1)).length:Nat)by omega];refine rn ?_;(repeat(first|intro(cs:List Value)|intro(a:_=List.set _ _ _)|intro h));have m:cs=ab.cells (⟨e.r,e.n,il e.c e.r (i+1),0,⟨e.ed.kind,[],0,[]⟩⟩:Ev):=by rw[a,C];exact GM ⟨e.r,e.n,il e.c e.r i,0,⟨e.ed.kind,[],0,[]⟩⟩ i d8 _
   subst m;exact aS ⟨5-(i+1),_,U,cW [1] rfl (bW _),i+1,U,rfl,av (aQ U) rfl,rfl⟩
 obtain rfl:i=5:=U;have V:=tu A;have W:=tu V;have z:=rY W;have j1:1<=((e.h.toNat:Nat):Int)/\((e.h.toNat:Nat):Int)<=16777216:=U;have l:=tu z;obtain⟨d,d6⟩:∃d:Nat,d=P+(cP e.c e.r 5).length+(vB e.h.toNat).length+1:=⟨_,rfl⟩;have x:e.bytes.length=d+e.ed.key.length+(if e.ed.kind=1\/e.ed.kind=2 then 0 else 2+e.ed.value.length):=by
  rw[d6,F];unfold Ev.bytes jQ sB;split
  ·simp;omega
  ·simp;omega
 refine rn ?_;(repeat(first|intro(cs:List Value)|intro(a:_=List.set _ _ _)|intro h));refine bc [1] J call324 rE J (Ge c _ e.h.toNat v0 b _ 1 16777216 _ _ rfl rD f V j1 U U) ?_;rintro _ _ ⟨rfl,rfl⟩;rw[eh];refine rn ?_;(repeat(first|intro(cs:List Value)|intro(a:_=List.set _ _ _)|intro h));refine bc [] J call323 rE J (xE c _ v0 b _ _ e.ed.key.length 1 8 _ (((P+(cP e.c e.r 5).length:Nat):Int)+((vB e.h.toNat).length:Int)) U rD f W el U) ?_;rintro _ _ ⟨rfl,rfl⟩;rw[<-d6]at z l;rw[show((P+(cP e.c e.r 5).length:Nat):Int)+((vB e.h.toNat).length:Int)+1=(d:Nat)by omega];refine rn ?_;(repeat(first|intro(cs:List Value)|intro(a:_=List.set _ _ _)|intro h));refine bc [] J call325 rE J (Mj c d e.ed.key v0 b _ e.ed.key.length _ _ rfl rD f z rfl (by split at x<;>omega)) ?_;rintro _ _ ⟨rfl,rfl⟩;refine rn ?_;(repeat(first|intro(cs:List Value)|intro(a:_=List.set _ _ _)|intro h));refine ca [] call211 (Jz e.ed.key _ U) ?_;rintro _ _ ⟨rfl,rfl⟩;rw[l8];have d9:e.r.toNat<5:=U;by_cases k:e.ed.kind=1\/e.ed.kind=2
 ·obtain⟨H,L⟩:=d7.2.2.2.2.1 k;rw[an k]at x;clear l u;refine rn ?_;(repeat(first|intro(cs:List Value)|intro(a:_=List.set _ _ _)|intro h));have hE:(⟨e.r,e.n,e.c,e.h,⟨e.ed.kind,e.ed.key,0,[]⟩⟩:Ev)=e:=by rw[<-H,<-L]
  have m:cs=ab.cells e:=by rw[a];refine(GM ⟨e.r,e.n,il e.c e.r 5,e.h,⟨e.ed.kind,e.ed.key,0,[]⟩⟩ _ d9 _).trans ?_;rw[hC,hE]
  subst m;refine bF (L':=pT c v0 ((d:Int)+e.ed.key.length)::ao s 80 (ab.cells e)::ao p 80 (ab.cells Ev.zero)::M) ?_ rB;refine fh [2] rE ?_;refine bU 6 (_::_::M) rfl rQ rF ?_;refine mn ?_;(repeat(first|intro(cs:List Value)|intro(a:_=List.set _ _ _)|intro h));refine bX J J J ?_;(first|refine fO 0 J J rE rN J J rE rE ?_|refine fD 0 J J J rC J J J rE ?_|refine fQ 0 J J J rE J J rE ?_);refine bn ?_;refine br rF ?_;refine mn ?_;(repeat(first|intro(cs:List Value)|intro(a:_=List.set _ _ _)|intro h));refine rn ?_;(repeat(first|intro(cs:List Value)|intro(a:_=List.set _ _ _)|intro h));refine fr ?_;exact⟨_,rB,by rw[x];rfl,rfl⟩
 ·rw[ai k]at x u;have H:((UInt8.ofNat e.ed.label.toNat).toNat:Int)=e.ed.label:=jM _ U U;have L:((UInt8.ofNat e.ed.value.length).toNat:Int)=e.ed.value.length:=by have:=jM (e.ed.value.length:Int) U U;simpa using this
  have u4:=d7.2.2.2.2.2 k;rw[u]at l;have dV:b.drop (d+e.ed.key.length+1)=UInt8.ofNat e.ed.value.length::(e.ed.value++q):=rY l;have dW:=rY dV;refine rn ?_;(repeat(first|intro(cs:List Value)|intro(a:_=List.set _ _ _)|intro h));refine bc [] J call323 rE J (xE c _ v0 b _ _ e.ed.label 0 1 _ ((d:Int)+e.ed.key.length) rfl rD f l H U) ?_;rintro _ _ ⟨rfl,rfl⟩;refine rn ?_;(repeat(first|intro(cs:List Value)|intro(a:_=List.set _ _ _)|intro h));refine bc [] J call323 rE J (xE c _ v0 b _ _ e.ed.value.length 1 12 _ ((d:Int)+e.ed.key.length+1) rfl rD f dV L U) ?_;rintro _ _ ⟨rfl,rfl⟩;refine rn ?_;(repeat(first|intro(cs:List Value)|intro(a:_=List.set _ _ _)|intro h));refine bc [] J call325 rE J (Mj c (d+e.ed.key.length+1+1) e.ed.value v0 b _ e.ed.value.length _ ((d:Int)+e.ed.key.length+1+1) rfl rD f dW rfl U) ?_;rintro _ _ ⟨rfl,rfl⟩;refine rn ?_;(repeat(first|intro(cs:List Value)|intro(a:_=List.set _ _ _)|intro h));have m:cs=ab.cells e:=by rw[a];refine(GM ⟨e.r,e.n,il e.c e.r 5,e.h,e.ed⟩ _ d9 _).trans ?_;rw[hC]
  subst m;refine bF (L':=pT c v0 ((d:Int)+e.ed.key.length+1+1+e.ed.value.length)::ao s 80 (ab.cells e)::ao p 80 (ab.cells Ev.zero)::M) ?_ rB;refine fh [2] rE ?_;refine bU 6 (_::_::M) rfl rQ rF ?_;refine mn ?_;intros;refine bX J J J ?_;(first|refine fO 0 J J rE rN J J rE rE ?_|refine fD 0 J J J rC J J J rE ?_|refine fQ 0 J J J rE J J rE ?_);refine mw ?_;intros;refine rn ?_;intros;refine fr ?_;exact⟨_,rB,by rw[show((e.bytes.length:Nat):Int)=(d:Int)+e.ed.key.length+1+1+e.ed.value.length by omega],rfl⟩
end
section
theorem Hh(c:aj):∀m,gu c m=cP c (-1) m
 |0=>rfl
 |m+1=>by rw[tO,px,Hh c m,ai U]
theorem Pv{c:aj}:il c (-1) 5=c:=aj.zm λi hi=>by rw[Dh _ _ 5 (bj _) i hi,an U]
theorem Y5(y:aF)(v:Value)(i:Nat)(hi:i<5)(n:Int):(bH y v).set (3+i*1) (.int .i64 n)=bH {y with c:=y.c.set i n} v:=by
 match i,hi with
 |0,_=>rfl
 |1,_=>rfl
 |2,_=>rfl
 |3,_=>rfl
 |4,_=>rfl
theorem XM{l:List Ev}(h:i<l.length):de (l.drop i)=(l[i]'h).bytes++de (l.drop (i+1)):=by rw[vV h,FX]
theorem SM(x:aF)(v0:Value)(M:List aa)(hr:aI M v0 x.dJ)(o0:O1 v0)(a:x.cM):Fn prog 257 #[v0] M λr L'=>∃F,O1 F/\r=.agg (bH x F).toArray/\L'=aL F x.l::M:=by
 have hk:=a.k;have n8:=a.r;have hu:=a.u;have m9:=a.m;have hc:=a.c;have d7:=x.vu a;have W:=jM x.kind U U;have er:=jM x.r U U;obtain⟨b,u⟩:∃b,b=x.dJ:=⟨_,rfl⟩;have f:b.drop 0=UInt8.ofNat x.kind.toNat::UInt8.ofNat x.r.toNat::(x.iu++(x.im++x.lv)):=by rw[u];simp[aF.dJ,aF.ez]
 rw[<-u]at hr d7;have H:∀h:0<b.length,(((b[0]'h).toNat:Nat):Int)=x.kind:=λh=>by rw[BP]at f;simp only[f,Bz];exact W
 have I:∀h:1<b.length,(((b[1]'h).toNat:Nat):Int)=x.r:=λh=>by rw[BP]at f;simp only[f,Bw,Bz];exact er
 have c:=rY (rY f);clear f u;have e9:x.kind=2\/(x.kind=3\/x.kind=5)\/(x.kind=1\/x.kind=4):=U;refine fo func257 ntmps257 ?_;refine rn ?_;(repeat(first|intro(g:Nat)|intro(v:Value)|intro(o:O1 _)|intro(cs:List Value)|intro(e:_=List.set _ _ _)|intro h));refine ji ?_;(repeat(first|intro(g:Nat)|intro(v:Value)|intro(o:O1 _)|intro(cs:List Value)|intro(e:_=List.set _ _ _)|intro h));rw[H U,I U];clear H I;revert g;intro p;revert g;intro m;rcases e9 with h|h|h
 ·have j:x.iu=[]:=ai (by unfold dR;omega);have k:x.im=vB x.upto.toNat:=an h;have y:x.c=aj.zero:=a.nc (by unfold eg;omega);have z:x.l=[]:=a.ne (by unfold dR;omega);rw[j,lG,k]at c;have hq:x.lv.length<=1300:=by have:=cn List.length c;rw[ew,bo]at this;omega
  refine rn ?_;(repeat(first|intro(v:Value)|intro(o:O1 _)|intro(cs:List Value)|intro(e:_=List.set _ _ _)|intro h));refine bc [] J call256 J J (Av x.upto.toNat _ _ _ (by rw[<-c];exact rD) U U) ?_;rintro _ _ ⟨rfl,rfl⟩;refine rn ?_;(repeat(first|intro(v:Value)|intro(o:O1 _)|intro(cs:List Value)|intro(e:_=List.set _ _ _)|intro h));refine fr ?_;have l:(x.upto.toNat:Int)%2097152=x.upto:=U;rw[l,z];refine⟨_,ar (cA (α:=Ev) none 80 _) rB,.slice none 0 0,rfl,?_,rfl⟩;unfold bH;rw[y];rfl
 ·have j:x.iu=[]:=ai (by unfold dR;omega);have k:x.im=[]:=ai (by unfold eE;omega);have l:x.lv=cP x.c (-1) 5:=by rw[<-Hh];exact an h
  have C:x.upto=0:=a.nu (by unfold eE;omega);have z:x.l=[]:=a.ne (by unfold dR;omega);rw[j,lG,k,lG,l]at c;have j0:=EN x.c (-1);have hq:(cP x.c (-1) 5).length<=1300:=by rw[<-c,ew];omega
  rcases h with h|h
  all_goals
   refine rn ?_;(repeat(first|intro(v:Value)|intro(o:O1 _)|intro(cs:List Value)|intro(e:_=List.set _ _ _)|intro h));refine bm [4,8] (λq vs L'=>∃i:Nat,i<=5/\q=5-i/\vs=[.int .i64 (2+(cP x.c (-1) i).length:Nat),.int .i64 i]/\L'=ao p 192 (bH ⟨x.kind,x.r,0,il x.c (-1) i,[]⟩ (.slice none 0 0))::ao m 192 (bH aF.zero (.slice none 0 0))::M) 5 ⟨0,U,rfl,rfl,rfl⟩ ?_;rintro q1 vs g0 R ⟨i,hi,rfl,rfl,rfl⟩;refine bp [0,2,3,4,8] rG (λgk=>?_);by_cases d:i<5
   ·have l9:=hc i d;have V:il x.c (-1) (i+1)=(il x.c (-1) i).set i (x.c.get i):=by conv=>lhs;unfold il;rw[ai U]
    have q9:=fy (n:=(x.c.get i).toNat) U;have A:=px x.c (-1) i;rw[ai U]at A;obtain⟨t,s⟩:=j0 (4-i) (i+1) U;rw[A,dB]at s;have hd:=c;rw[s]at hd;have hd:=tu hd;have n9:t.length<=1300:=by have:=cn List.length s;rw[bo,bo]at this;omega
    have j4:(cP x.c (-1) (i+1)).length=(cP x.c (-1) i).length+(vB (x.c.get i).toNat).length:=by rw[A,bo]
    have d6:0+1+1+(cP x.c (-1) i).length<=b.length:=by have:=cn List.length hd;rw[ew,bo]at this;have:=uO (x.c.get i).toNat;omega
    rw[show 0+1+1+(cP x.c (-1) i).length=2+(cP x.c (-1) i).length by omega]at hd d6;have m8:(bH ⟨x.kind,x.r,0,il x.c (-1) i,[]⟩ (.slice none 0 0)).length=9:=rfl;clear s;refine rn ?_;(repeat(first|intro(v:Value)|intro(o:O1 _)|intro(cs:List Value)|intro(e:_=List.set _ _ _)|intro h));refine bc [] J call256 J J (Av (x.c.get i).toNat _ _ _ (by rw[<-hd];exact rD) U U) ?_;rintro _ _ ⟨rfl,rfl⟩;refine rn ?_;(repeat(first|intro(v:Value)|intro(o:O1 _)|intro(cs:List Value)|intro(e:_=List.set _ _ _)|intro h));have d9:cs=bH ⟨x.kind,x.r,0,il x.c (-1) (i+1),[]⟩ (.slice none 0 0):=by rw[e,V,show(((x.c.get i).toNat:Nat):Int)%2097152=x.c.get i by omega];exact Y5 ⟨x.kind,x.r,0,il x.c (-1) i,[]⟩ _ i d _
    subst d9;exact aS ⟨5-(i+1),_,U,rB,i+1,U,rfl,av (aQ U) (av (aQ U) rfl),rfl⟩
   ·obtain rfl:i=5:=U;rw[Pv];refine rn ?_;(repeat(first|intro(v:Value)|intro(o:O1 _)|intro h));refine fr ?_;rw[z];refine⟨_,ar (cA (α:=Ev) none 80 _) rB,.slice none 0 0,rfl,?_,rfl⟩;unfold bH;rw[C]
 ·have j:x.iu=UInt8.ofNat x.l.length::de x.l:=an h;have k:x.im=[]:=ai (by unfold eE;omega);have l:x.lv=[]:=ai (by unfold eg;omega);have C:x.upto=0:=a.nu (by unfold eE;omega);have y:x.c=aj.zero:=a.nc (by unfold eg;omega);rw[j,k,l,ck,ck]at c;have S:=rY c;have j9:3<=b.length:=by have:=cn List.length c;rw[ew,dL]at this;omega
  have w:∀h:2<b.length,(((b[2]'h).toNat:Nat):Int)=x.l.length:=λh=>by have L:b.drop 2=UInt8.ofNat x.l.length::de x.l:=c;rw[vV h]at L;rw[(List.cons.inj L).1];have:=jM (x.l.length:Int) U U;simpa using this
  rcases h with h|h
  all_goals
   refine rn ?_;(repeat(first|intro(v:Value)|intro(o:O1 _)|intro h));refine bF (L':=aL (.slice none 0 0) []::ao p 192 (bH ⟨x.kind,x.r,0,aj.zero,[]⟩ (.slice none 0 0))::ao m 192 (bH aF.zero (.slice none 0 0))::M) ?_ (ar (cA (α:=Ev) none 80 _) rB);refine bm [4,12] (λq vs L'=>∃(i:Nat) (v:Value),i<=x.l.length/\q=x.l.length-i/\v.oneCell'=true/\vs=[.int .i64 (3+(de (x.l.take i)).length:Nat),.int .i64 i]/\L'=aL v (x.l.take i)::ao p 192 (bH ⟨x.kind,x.r,0,aj.zero,[]⟩ v)::ao m 192 (bH aF.zero (.slice none 0 0))::M) x.l.length ⟨0,.slice none 0 0,U,rfl,rfl,rfl,rfl⟩ ?_;rintro q1 vs g0 R ⟨i,vv,hi,rfl,ov,rfl,rfl⟩;refine bp [0,2,3,4,12] rG (λgk=>?_);have w:=w U;by_cases d:i<x.l.length
   ·have Q:=a.l _ (bT d);have l8:=vI Q;have m6:=Ev.aW.len8 a.l i;have e8:=DL d;have hd:=S;rw[<-mi i x.l,zW]at hd;have hd:=tu hd;rw[XM d]at hd;have P:=cn List.length hd;rw[ew,bo]at P;rw[show 0+1+1+1+(de (x.l.take i)).length=3+(de (x.l.take i)).length by omega]at hd P;have j4:(de (x.l.take (i+1))).length=(de (x.l.take i)).length+(x.l[i]'d).bytes.length:=by rw[e8,bo]
    refine rn ?_;(repeat(first|intro(v:Value)|intro(o:O1 _)|intro h));rw[w];refine rn ?_;(repeat(first|intro(v:Value)|intro(o:O1 _)|intro h));refine bc [] J call292 J J (SH (x.l[i]'d) _ _ _ Q (by rw[<-hd];exact rD) (jB o0) U) ?_;rintro _ _ ⟨rfl,rfl⟩;refine rn ?_;(repeat(first|intro(v:Value)|intro(o:O1 _)|intro h));have j5:=da d;exact aS ⟨x.l.length-(i+1),aL v (x.l.take (i+1))::ao p 192 (bH ⟨x.kind,x.r,0,aj.zero,[]⟩ v)::ao m 192 (bH aF.zero (.slice none 0 0))::M,U,by rw[j5];exact rB,i+1,v,U,rfl,o,av (aQ U) (av (aQ U) rfl),rfl⟩
   ·obtain rfl:i=x.l.length:=U;rw[dI];refine rn ?_;intros;refine fr ?_;exact⟨_,rB,_,ov,by unfold bH;rw[C,y],rfl⟩
end
section
theorem E5{b:List UInt8}{f:aF×Int}(h:cV b=f)(j:f.2=0\/f.2=4):b.length<=2048/\(gL b=none/\f=(aF.zero,4)\/f.1.cM/\f=(f.1,0)/\b=f.1.bu):=by
 rcases Zp b with⟨a,c,d⟩|⟨a,c⟩
 ·rw[h]at a c d;have g:=f.1.pH c;rw[<-d]at g;exact⟨U,.inr ⟨c,by rw[<-a],d⟩⟩
 ·rw[h]at a c;have i:f.2=4:=U;have e:f=(aF.zero,4):=by rw[<-a,<-i]
  rw[e]at h;unfold cV at h;split at h
  ·simp at h
  ·rename_i g;refine⟨U,.inl ⟨?_,e⟩⟩;split at h
   ·assumption
   ·split at h
    ·simp at h
    ·split at h<;>simp at h
theorem Je(v0:Value)(b:List UInt8)(f:aF×Int)(M:List aa)(A:aI M v0 b)(F:O1 v0)(j:cV b=f)(k:f.2=0\/f.2=4):Fn prog 202 #[v0] M λr L'=>∃e,O1 e/\r=.tuple #[.agg (bH f.1 e).toArray,.int .i64 f.2]/\L'=aL e f.1.l::M:=by
 obtain⟨y,g⟩:=E5 j k;refine fo func202 ntmps202 ?_;refine rn ?_;(repeat(first|intro(v:Value)|intro h));refine bc [] J call255 J J (S0 v0 b _ rD U) ?_;rintro _ t (⟨a,rfl,rfl⟩|⟨q,u,a,s,rfl,rfl⟩)
 ·rcases g with⟨_,rfl⟩|⟨d,i,c⟩
  ·refine rn ?_;(repeat(first|intro(v:Value)|intro h));refine fr ?_;refine⟨_,ar (cA (α:=Ev) none 80 _) rB,.slice none 0 0,rfl,rfl,rfl⟩
  ·rw[c]at a;exact absurd (a.symm.trans (uU _)) (by simp)
 ·rcases g with⟨m,_⟩|⟨d,i,c⟩
  ·rw[m]at a;cases a
  obtain⟨x,rfl⟩:∃x,f=(x,0):=⟨_,i⟩;have c:b=x.bu:=c;have d:x.cM:=d;have o:q=vB x.dJ.length++x.dJ:=by rw[c]at a;exact Bx (a.symm.trans (uU _))
  have w:=x.vu d;have z:¬x.bu≠b:=λh=>h c.symm;have C:=fy (n:=x.dJ.length) U;clear c a j;subst o;refine rn ?_;(repeat(first|intro(v:Value)|intro h));refine bc [] J call256 J J (Av x.dJ.length x.dJ _ _ rD U U) ?_;rintro _ _ ⟨rfl,rfl⟩;refine rn ?_;(repeat(first|intro(v:Value)|intro h));have p:∀L v,aI L v ((vB x.dJ.length++x.dJ).drop (vB x.dJ.length).length)->aI L v x.dJ:=λL v h=>by rw[rA]at h;exact h
  refine bc [] J call257 J J (SM x _ _ (p _ _ rD) (jB s) d) ?_;rintro _ _ ⟨e,o',rfl,rfl⟩;refine rn ?_;intros;refine bc [] J call182 J J (xi x e _ rD o' d) ?_;rintro _ _ ⟨I,H,rfl,rfl⟩;refine rn ?_;intros;refine fr ?_;exact⟨_,rB,e,o',rfl,rfl⟩
end
end
section
@[reducible] def fj(g:Nat)(c:aJ)(r:Int)(b:Bool)(vl:Value)(sent:Int)(p:Value)(a:Bool)(keep:Int):aa:=ao g 145 [.int .i64 c.n,.int .i64 c.w,.int .i64 c.q,.int .i64 c.h,.int .i64 c.l,.int .i64 c.p,.int .i64 r,.bool b,vl,.int .i64 sent,p,.bool a,.int .i64 keep]
set_option maxRecDepth 20000 attribute [local irreducible] Ex aM Fn bI bJ bV fin meet ch aX bZ aP aN aI Rd aK Row ao Sub bk bP bS bN bg bR Hid bY
section
theorem VH(v0:Value)(b:List Ev)(c:aj)(M:List aa)(F:aI M v0 b)(A:b.length<=1000000)(w:∀e∈b,cD e.h):Fn prog 78 #[v0,c.val] M λv L'=>v=.int .i64 (IntKind.i64.wrap (lq b c))/\L'=M:=by
 refine fo func78 ntmps78 ?_;refine rn ?_;intros;refine ll [5,6,7] (λm vs=>∃(i:Nat),i<=b.length/\m=b.length-i/\vs=[.int .i64 ((b.take i).foldl (fg c) (0,false)).1,.bool ((b.take i).foldl (fg c) (0,false)).2,.int .i64 i]) b.length ⟨0,U,U,rfl⟩ ?_;rintro m vs y ⟨i,hi,rfl,rfl⟩;refine bp [0,3,5,6,7] rG (λz=>?_);by_cases g:i<b.length
 ·have d:(b.take (i+1)).foldl (fg c) (0,false)=fg c ((b.take i).foldl (fg c) (0,false)) (b[i]'g):=by rw[da g,js];rfl
  have f:∀o:Int×Bool,(b.take (i+1)).foldl (fg c) (0,false)=o->∃(j:Nat),j<=b.length/\b.length-(i+1)=b.length-j/\[Value.int .i64 o.1,.bool o.2,.int .i64 (i+1)]=[.int .i64 ((b.take j).foldl (fg c) (0,false)).1,.bool ((b.take j).foldl (fg c) (0,false)).2,.int .i64 j]:=λo u=>⟨i+1,U,rfl,by rw[u];rfl⟩;generalize (b.take i).foldl (fg c) (0,false)=s at d⊢
  obtain⟨h,a⟩:=s;unfold fg at d;simp only at d;refine rn ?_;intros;refine mX ?_;intros;refine ma [] call148 (Gq c (b[i]'g).r (b[i]'g).n _) ?_;rintro _ _ ⟨rfl,rfl⟩;cases l:c.has (b[i]'g).r (b[i]'g).n
  ·rw[ai (by rw[l];simp)]at d;have k:=f _ d;clear f d;refine mw ?_;intros;refine rn ?_;intros;exact aS ⟨b.length-(i+1),_,U,bW _,k,rfl⟩
  ·cases a
   ·rw[an ⟨l,.inl rfl⟩]at d;have k:=f _ d;clear f d;refine mw ?_;intros;refine rn ?_;intros;exact aS ⟨b.length-(i+1),_,U,bW _,k,rfl⟩
   ·by_cases t:h<(b[i]'g).h
    ·rw[an ⟨l,.inr t⟩]at d;have k:=f _ d;clear f d;refine mw ?_;intros;refine rn ?_;intros;exact aS ⟨b.length-(i+1),_,U,bW _,k,rfl⟩
    ·rw[ai (by rintro⟨_,q|q⟩;cases q;exact t q)]at d;have k:=f _ d;clear f d;refine mw ?_;intros;refine rn ?_;intros;exact aS ⟨b.length-(i+1),_,U,bW _,k,rfl⟩
 ·obtain rfl:i=b.length:=U;rw[dI];have l:=Od c w;unfold lq;have p:=xG (x:=(b.foldl (fg c) (0,false)).1+1);unfold cD at l p;by_cases C:(b.foldl (fg c) (0,false)).1=9223372036854775807
  ·clear p;exact bh
  ·rw[p U];clear p;exact bh
theorem Wy(x:aj)(r:Int)(M:List aa)(g:0<=r/\r<5)(hx:x.get r.toNat<=1048576)(f:0<=x.get r.toNat):Fn prog 77 #[x.val,.int .i64 r] M λv L'=>v=.tuple #[.agg (ab.cells (x.next r).1).toArray,.int .i64 (x.next r).2]/\L'=M:=by
 refine fo func77 ntmps77 ?_;have b:=x.getD_eq r.toNat;by_cases h:1048576<=x.get r.toNat
 ·have e:x.next r=(aj.zero,25):=by unfold aj.next;rw[ai U,an h]
  rw[e];have c:1048576<=[x.a,x.b,x.c,x.d,x.e].getD r.toNat 0:=by rw[b];exact h
  refine rn ?_;(repeat(first|intro(cs:List Value)|intro(a:_=List.set _ _ _)|intro h));refine fr ?_;exact⟨_,rB,rfl,rfl⟩
 ·have e:x.next r=(x.set r.toNat (x.get r.toNat+1),0):=by unfold aj.next;rw[ai U,ai h]
  rw[e];have c:¬1048576<=[x.a,x.b,x.c,x.d,x.e].getD r.toNat 0:=by rw[b];exact h
  refine rn ?_;(repeat(first|intro(cs:List Value)|intro(a:_=List.set _ _ _)|intro h));have d:cs=ab.cells (x.set r.toNat (x.get r.toNat+1)):=by rw[a,b,show(0+r.toNat*1)=r.toNat by omega];exact aj.zH x r.toNat U (x.get r.toNat+1)
  clear a;subst d;exact bh
theorem yh(gn:Nat)(c:aJ)(r:Int)(j:Bool)(vl:Value)(sent:Int)(p:Value)(f:Bool)(keep:Int)(a:List Ev)(M:List aa)(F:aI M vl a)(A:a.length<=100000)(l:∀e∈a,e.aW):
  Fn prog 76 #[ay gn] (fj gn c r j vl sent p f keep::M) λv L'=>v=.agg (ab.cells (cr a)).toArray/\L'=fj gn c r j vl sent p f keep::M:=by
 refine fo func76 ntmps76 ?_;refine rn ?_;(repeat(first|intro(g:Nat)|intro(cs:List Value)|intro(k:_=List.set _ _ _)|intro h));revert g;intro n;revert g;intro m;refine bm [4] (λq vs L'=>∃i:Nat,i<=a.length/\q=a.length-i/\vs=[.int .i64 i]/\L'=ao n 50 (ab.cells (cr (a.take i)))::ao m 50 (ab.cells aj.zero)::fj gn c r j vl sent p f keep::M) a.length ⟨0,U,rfl,rfl,rfl⟩ ?_;rintro q vs x w ⟨i,hi,rfl,rfl,rfl⟩;refine bp [0,2,3,4] rG (λy=>?_);by_cases b:i<a.length
 ·have z:=(l _ (bT b)).r;have s:cr (a.take (i+1))=gM (cr (a.take i)) (a[i]'b):=by rw[da b,qv]
  have o:=Bg (a.take i) (λe u=>(l e (mM u)).r) (a[i]'b).r.toNat U;rw[dy]at o;generalize cr (a.take i)=d at*
  have C:(ab.cells d).length=5:=rfl;refine rn ?_;(repeat(first|intro(cs:List Value)|intro(k:_=List.set _ _ _)|intro h));have t:cs=ab.cells (gM d (a[i]'b)):=by rw[k,d.getD_eq,show 0+(a[i]'b).r.toNat*1=(a[i]'b).r.toNat by omega,xG (by unfold cD;omega),Hq _ _ _ U];rfl
  subst t;rw[<-s];exact aS ⟨a.length-(i+1),_,U,rB,i+1,U,rfl,av (aQ U) rfl,rfl⟩
 ·obtain rfl:i=a.length:=U;rw[dI];exact bh
theorem HZ(gn:Nat)(c:aJ)(r:Int)(e:Bool)(vl:Value)(sent:Int)(p:Value)(d:Bool)(keep:Int)(a:List Ev)(M:List aa)(z:aI M vl a)(y:a.length<=100000):
  Fn prog 75 #[ay gn] (fj gn c r e vl sent p d keep::M) λv L'=>O1 v/\L'=aL v (iB r sent a)::fj gn c r e vl sent p d keep::M:=by
 refine fo func75 ntmps75 ?_;refine rn ?_;(repeat(first|intro(g:Nat)|intro(v:Value)|intro(o:O1 _)|intro h));refine bF (L':=aL (.slice (some ⟨g,0,none⟩) 0 0) []::fj gn c r e vl sent p d keep::M) ?_ (cA (α:=Ev) _ _ _);refine bm [3,4] (λq vs L'=>∃(i:Nat) (w:Value),i<=a.length/\q=a.length-i/\w.oneCell'=true/\vs=[w,.int .i64 i]/\L'=aL w (iB r sent (a.take i))::fj gn c r e vl sent p d keep::M) a.length ⟨0,_,U,rfl,rfl,rfl,rfl⟩ ?_;rintro q vs u s ⟨i,w,hi,rfl,j,rfl,rfl⟩;refine bp [0,3,4] rG (λx=>?_);by_cases f:i<a.length
 ·have b:=FR r sent (a.take i) (a[i]'f);rw[<-da f]at b;have m:(iB r sent (a.take i)).length<=a.length:=by have:(iB r sent (a.take i)).length<=(a.take i).length:=jJ ..;rw[dy]at this;omega
  generalize iB r sent (a.take i)=t at b m⊢
  by_cases k:(a[i]'f).r=r
  ·by_cases l:sent<(a[i]'f).n
   ·rw[an ⟨k,l⟩]at b;refine rn ?_;(repeat(first|intro(v:Value)|intro(o:O1 _)|intro h));refine Ee ?_;(repeat(first|intro(v:Value)|intro(o:O1 _)|intro h));refine rn ?_;(repeat(first|intro(v:Value)|intro(o:O1 _)|intro h));refine aS ⟨a.length-(i+1),aL v (iB r sent (a.take (i+1)))::fj gn c r e vl sent p d keep::M,U,?_,i+1,v,U,rfl,o,av rfl (av (aQ U) rfl),rfl⟩;rw[b];exact rB
   ·rw[ai (λh=>l h.2)]at b;rw[<-b];refine rn ?_;intros;refine Ee ?_;intros;refine rn ?_;intros;exact aS ⟨a.length-(i+1),_,U,rB,i+1,w,U,rfl,j,av rfl (av (aQ U) rfl),rfl⟩
  ·rw[ai (λh=>k h.1)]at b;rw[<-b];refine rn ?_;intros;refine Ee ?_;intros;refine rn ?_;intros;exact aS ⟨a.length-(i+1),_,U,rB,i+1,w,U,rfl,j,av rfl (av (aQ U) rfl),rfl⟩
 ·obtain rfl:i=a.length:=U;rw[dI];refine rn ?_;intros;refine fr ?_;exact⟨_,rB,j,rfl⟩
theorem MO(gn:Nat)(c:aJ)(r:Int)(b:Bool)(vl:Value)(sent:Int)(p:Value)(a:Bool)(keep:Int)(M:List aa):
  Fn prog 68 #[ay gn] (fj gn c r b vl sent p a keep::M) λ_ L'=>∃gi,L'=fj gn c r false vl sent (ay gi) false keep::jg gi c.h aj.zero (.slice none 0 0)::M:=by
 refine fo func68 ntmps68 ?_;refine rn ?_;(repeat(first|intro(g:Nat)|intro h));refine fr ?_;exact⟨_,cW [1] rfl (bW _),g,rfl⟩
theorem XB(gn:Nat)(c:aJ)(r:Int)(b:Bool)(vl:Value)(sent:Int)(p:Value)(d:Bool)(keep a:Int)(M:List aa):
  Fn prog 116 #[ay gn,.int .i64 a] (fj gn c r b vl sent p d keep::M) λ_ L'=>L'=fj gn c r b vl sent p true a::M:=by
 refine fo func116 ntmps116 ?_;exact qi
theorem zK(gn:Nat)(c:aJ)(r:Int)(d:Bool)(vl:Value)(sent:Int)(p:Value)(a:Bool)(keep:Int)(x:aF)(v0:Value)(M:List aa)(h:aI M v0 x.l)(g:O1 v0)(f:x.aW):
  Fn prog 79 #[ay gn,.agg (bH x v0).toArray] (fj gn c r d vl sent p a keep::M) λv L'=>
   (a=false/\v=.tuple #[.bool true,.bool true]/\L'=fj gn c r d vl sent p false keep::M)\/
   (a=true/\∃gi,v=.tuple #[.bool (decide ((x.bytes.length:Int)<=keep)),.bool false]/\L'=fj gn c r false vl sent (ay gi) false keep::jg gi c.h aj.zero (.slice none 0 0)::M):=by
 refine fo func79 ntmps79 ?_;refine rn ?_;intros;refine bc [] J call28 J J (Gk x v0 _ rD g f) ?_;rintro _ _ ⟨j,i,rfl,rfl⟩;cases a
 ·refine rn ?_;intros;refine fr ?_;exact⟨_,ar rB (bW _),.inl ⟨rfl,rfl,rfl⟩⟩
 ·obtain⟨b,e⟩:∃b,b=decide ((x.bytes.length:Int)<=keep):=⟨_,rfl⟩;rw[<-e];refine rn ?_;intros;rw[<-e];refine ca [2] call68 (MO gn c r d vl sent p true keep _) ?_;rintro _ _ ⟨gi,rfl⟩;refine rn ?_;intros;refine fr ?_;exact⟨_,rB,.inr ⟨rfl,gi,rfl,rfl⟩⟩
end
end
end Go.Proofs.YtogcfijlhpaeeaaGreat
