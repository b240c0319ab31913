/- Texts. No condition. -/
import Derived.Test.YtogcfijlhpaeeaaGreatYpax
import Derived.Test.YtogcfijlhpaeeaaGreatYpba
open Go.RowKit Go.Proofs.Tryz
set_option linter.all false
set_option maxHeartbeats 32000000
namespace Go.Proofs.YtogcfijlhpaeeaaGreat
variable{g i o:Nat}{t bt ty:TypeId}{x:Operand}{L:List aa}{cs:List Value}{f:Nat->Value}{P:Program}{af:Array Edge}{gd:Option (Nat×Bool)}
section
set_option maxRecDepth 20000 attribute [local irreducible] Ex aM Fn bI bJ bV fin meet ch aX bZ aP aN aI Rd aK Row ao Sub bk bP bS bN bg bR Hid bY
section
theorem yb(n a b:Int)(M:List aa):Fn prog 218 #[.int .i64 n,.int .i64 a,.int .i64 b] M λv L'=>v=.bool (decide (a<=n/\n<=b))/\L'=M:=by
 refine fo func218 ntmps218 ?_;by_cases c:a<=n
 ·by_cases d:n<=b
  ·rw[bf (⟨c,d⟩:a<=n/\n<=b)];exact bh
  ·rw[bd (λh:a<=n/\n<=b=>d h.2)];exact bh
 ·rw[bd (λh:a<=n/\n<=b=>c h.1)];exact bh
theorem Xc(e:Ev)(M:List aa):Fn prog 219 #[.agg (ab.cells e).toArray] M λv L'=>v=.agg (ab.cells e.ed).toArray/\L'=M:=by refine fo func219 ntmps219 ?_;exact bh
theorem BO(e:Ev)(M:List aa)(u:e.ed.key.length<=9223372036854775807)(A:e.ed.value.length<=9223372036854775807):Fn prog 151 #[.agg (ab.cells e).toArray] M λv L'=>(∃x:Int,(x=0↔e.aW)/\v=.int .i64 x)/\L'=M:=by
 have a:¬e.aW->∃x:Int,(x=0↔e.aW)/\Value.int .i64 1=.int .i64 x:=λh=>⟨1,⟨λx=>absurd x (by decide),λk=>(h k).elim⟩,rfl⟩;refine fo func151 ntmps151 ?_;refine rn ?_;(repeat(first|intro(g:Nat)|intro h));revert g;intro r;refine yz ?_;intros;refine ma [] call218 (yb e.r 0 4 _) ?_;rintro _ _ ⟨rfl,rfl⟩;by_cases l:0<=e.r/\e.r<=4
 ·rw[bf l];refine mw ?_;intros;refine ma [] call218 (yb e.n 1 1048576 _) ?_;rintro _ _ ⟨rfl,rfl⟩;by_cases f:1<=e.n/\e.n<=1048576
  ·rw[bf f];refine mw ?_;intros;refine ma [] call218 (yb e.h 1 16777216 _) ?_;rintro _ _ ⟨rfl,rfl⟩;by_cases d:1<=e.h/\e.h<=16777216
   ·rw[bf d];have z:e.r.toNat<5:=U;have C:[e.c.a,e.c.b,e.c.c,e.c.d,e.c.e,e.h,e.ed.kind].getD e.r.toNat 0=e.c.get e.r.toNat:=BX e.c _ _ z;by_cases p:e.c.get e.r.toNat=e.n-1
    ·refine mw ?_;intros;refine rn ?_;intros;refine bm [3] (λm vs L'=>∃(i:Nat),i<=5/\m=5-i/\vs=[.int .i64 i]/\(∀j,j<i->0<=e.c.get j/\e.c.get j<=1048576)/\L'=ao r 80 (ab.cells e)::M) 5 ⟨0,U,U,rfl,λj n=>by omega,rfl⟩ ?_;rintro m vs F L' ⟨i,hi,rfl,rfl,b,rfl⟩;refine bp [1,3] rG (λH=>?_);by_cases o:i<5
     ·have y:¬(0<=e.c.get i/\e.c.get i<=1048576)->¬e.aW:=λh k=>h (k.c i o);have q:=BX e.c e.h e.ed.kind o;refine rn ?_;intros;rw[dc,q];refine ca [] call218 (yb (e.c.get i) 0 1048576 _) ?_;rintro _ _ ⟨rfl,rfl⟩;by_cases c:0<=e.c.get i/\e.c.get i<=1048576
      ·have s:∀j,j<i+1->0<=e.c.get j/\e.c.get j<=1048576:=λj n=>by
        by_cases t:j=i
        ·subst t;exact c
        ·exact b j U
       clear b;rw[bf c];refine rn ?_;intros;exact aS ⟨5-(i+1),_,U,rB,i+1,U,U,av (aQ U) rfl,s,rfl⟩
      ·rw[bd c];clear b;refine rn ?_;intros;refine fr ?_;exact⟨_,rB,a (y c),rfl⟩
     ·refine rn ?_;intros;refine ca [] call219 (Xc e _) ?_;rintro _ _ ⟨rfl,rfl⟩;refine ca [] call143 (KV e.ed _ u A) ?_;rintro _ _ ⟨rfl,rfl⟩;refine rn ?_;intros;refine fr ?_;exact⟨_,rB,⟨e.ed.err,⟨λh=>⟨⟨l.1,U⟩,f,d,λj n=>b j U,p,h⟩,λk=>k.ed⟩,rfl⟩,rfl⟩
    ·have w:¬e.aW:=λk=>p k.own;refine mw ?_;intros;refine rn ?_;intros;refine fr ?_;exact⟨_,rB,a w,rfl⟩
   ·rw[bd d];refine mw ?_;intros;refine rn ?_;intros;refine fr ?_;exact⟨_,rB,a λk=>d k.h,rfl⟩
  ·rw[bd f];refine mw ?_;intros;refine rn ?_;intros;refine fr ?_;exact⟨_,rB,a λk=>f k.n,rfl⟩
 ·rw[bd l];refine mw ?_;intros;refine rn ?_;intros;refine fr ?_;exact⟨_,rB,a λk=>l ⟨k.r.1,by have:=k.r.2;omega⟩,rfl⟩
theorem HU(a e:Ev)(M:List aa):Fn prog 215 #[.agg (ab.cells a).toArray,.agg (ab.cells e).toArray] M λv L'=>v=.bool (e.c.has a.r a.n)/\L'=M:=by refine fo func215 ntmps215 ?_;refine rn ?_;intros;refine ca [] call148 (Gq e.c a.r a.n _) ?_;rintro _ _ ⟨rfl,rfl⟩;exact bh
theorem oG(n:Int)(M:List aa)(a:0<=n/\n<=1000000000000):Fn prog 82 #[.int .u64 n] M λv L'=>O1 v/\L'=bB v (vB n.toNat)::M:=by obtain⟨k,rfl⟩:=jF a.1;rw[dc];exact NT k M U
theorem Of(e:Ev)(M:List aa)(c:e.aW):Fn prog 83 #[.agg (ab.cells e).toArray] M λr L'=>∃v,O1 v/\r=.tuple #[v,.int .i64 0]/\L'=bB v e.bytes::M:=by
 have hl:=Ed.vO c.ed;have hr:=c.r;have hn:=c.n;have hh:=c.h;refine fo func83 ntmps83 ?_;refine rn ?_;(repeat(first|intro(g:Nat)|intro(v:Value)|intro(o:O1 _)|intro(a:_=List.set _ _ _)|intro h));refine ca [] call151 (BO e _ U U) ?_;rintro _ _ ⟨⟨x,hx,rfl⟩,rfl⟩;obtain rfl:=hx.2 c;clear hx;revert g;intro d;refine rn ?_;(repeat(first|intro(v:Value)|intro(o:O1 _)|intro(a:_=List.set _ _ _)|intro h));refine ca [] call82 (oG e.n _ U) ?_;rintro F _ ⟨y,rfl⟩;have d8:=fy (n:=e.n.toNat) U;refine rn ?_;(repeat(first|intro(v:Value)|intro(o:O1 _)|intro(a:_=List.set _ _ _)|intro h));generalize hP:[UInt8.ofNat e.ed.kind.toNat,UInt8.ofNat e.r.toNat]++vB e.n.toNat=f;have S:f.length<=6:=by rw[<-hP];simp;omega
 refine bF (L':=bB v f::ao d 80 (ab.cells e)::M) ?_ rB;refine bm [5,6] (λq vs L'=>∃(i:Nat) (v:Value),i<=5/\q=5-i/\v.oneCell'=true/\vs=[v,.int .i64 i]/\L'=bB v (f++cP e.c e.r i)::ao d 80 (ab.cells e)::M) 5 ⟨0,v,U,rfl,o,rfl,by simp[cP]⟩ ?_;rintro q vs P L ⟨i,H,hi,rfl,z,rfl,rfl⟩;refine bp [1,5,6] rG (λQ=>?_);have c7:=zC e.c e.r c.c i hi;by_cases l:i<5
 ·have W:=c.c i l;have a:=px e.c e.r i;have V:=fy (n:=(e.c.get i).toNat) U;by_cases k:(i:Int)=e.r
  ·rw[an k,ck]at a;rw[<-a];refine rn ?_;(repeat(first|intro(v:Value)|intro(o:O1 _)|intro(a:_=List.set _ _ _)|intro h));exact aS ⟨5-(i+1),_,U,rB,i+1,H,U,rfl,z,av rfl (av (aQ U) rfl),rfl⟩
  ·rw[ai k]at a;have t:=BX e.c e.h e.ed.kind l;refine rn ?_;(repeat(first|intro(v:Value)|intro(o:O1 _)|intro(a:_=List.set _ _ _)|intro h));rw[dc,t,qs U U];refine ca [] call82 (oG (e.c.get i) _ U) ?_;rintro F _ ⟨y,rfl⟩;refine rn ?_;(repeat(first|intro(v:Value)|intro(o:O1 _)|intro(a:_=List.set _ _ _)|intro h));rw[dB,<-a];exact aS ⟨5-(i+1),_,U,rB,i+1,v,U,rfl,o,av rfl (av (aQ U) rfl),rfl⟩
 ·have u:i=5:=U;subst u;have c9:=fy (n:=e.h.toNat) U;refine rn ?_;(repeat(first|intro(v:Value)|intro h));refine ca [] call82 (oG e.h _ U) ?_;rintro v3 _ ⟨o3,rfl⟩;refine rn ?_;(repeat(first|intro(v:Value)|intro h));generalize hP2:f++cP e.c e.r 5++vB e.h.toNat=b;have R:b.length<=50:=by rw[<-hP2,bo,bo];omega
  refine bF (L':=bB v b::ao d 80 (ab.cells e)::M) ?_ rB;refine bU 10 (ao d 80 (ab.cells e)::M) rfl rQ rF ?_;refine mn ?_;intros;refine bX J J J ?_;refine GW 1 (s:=e.ed.key) J J J J (by simp) J J J J J J (by simp;omega) (λI A=>?_);refine mw ?_;intros;rw[show b++[UInt8.ofNat (e.ed.key.length:Int).toNat]++e.ed.key=b++sB e.ed.key by simp[sB]];by_cases m:e.ed.kind=1\/e.ed.kind=2
  ·have j:e.bytes=b++sB e.ed.key:=by rw[<-hP2,<-hP];simp[Ev.bytes,jQ,an m]
   rw[j];refine rn ?_;intros;refine fr ?_;exact⟨_,rB,_,A,rfl,rfl⟩
  ·have j:e.bytes=b++sB e.ed.key++[UInt8.ofNat e.ed.label.toNat,UInt8.ofNat (e.ed.value.length:Int).toNat]++e.ed.value:=by rw[<-hP2,<-hP];simp[Ev.bytes,jQ,sB,ai m]
   rw[j];have w:(b++sB e.ed.key).length<=60:=by simp[sB];omega
   generalize b++sB e.ed.key=p at w⊢
   refine rn ?_;intros;refine bF (L':=bB I p::ao d 80 (ab.cells e)::M) ?_ rB;refine bU 13 (ao d 80 (ab.cells e)::M) rfl rQ rF ?_;refine mn ?_;intros;refine bX J J J ?_;refine GW 1 (s:=e.ed.value) J J J J (by simp) J J J J J J (by simp;omega) (λv5 C=>?_);refine mw ?_;intros;refine rn ?_;intros;refine fr ?_;exact⟨_,rB,_,C,rfl,rfl⟩
theorem tu{b A B:List UInt8}{p:Nat}(h:b.drop p=A++B):b.drop (p+A.length)=B:=by rw[<-mO,h,rA]
theorem drop_one{b B:List UInt8}{c:UInt8}{p:Nat}(h:b.drop p=c::B):b.drop (p+1)=B:=by rw[<-mO,h];rfl
@[reducible] def pT(g:Nat)(v:Value)(a:Int):aa:=ao g 394 [v,.int .i64 a,.int .i64 0]
theorem xE(g p:Nat)(v:Value)(b q:List UInt8)(c:UInt8)(k lo hi:Int)(M:List aa)(a:Int)(e:a=p)(l:aI M v b)(j:b.length<=1000000000)(hd:b.drop p=c::q)(f:((c.toNat:Nat):Int)=k)(h:lo<=k/\k<=hi):Fn prog 323 #[.pointer (some ⟨g,0,none⟩),.int .i64 lo,.int .i64 hi] (pT g v a::M)
  λr L'=>r=.int .i64 k/\L'=pT g v (a+1)::M:=by
 have d:p<b.length:=by have:=cn List.length hd;rw[ew,dL]at this;omega
 have i:(((b[p]'d).toNat:Nat):Int)=k:=by rw[vV d]at hd;rw[(List.cons.inj hd).1,f]
 subst e;refine fo func323 ntmps323 ?_;refine rn ?_;intros;refine ji ?_;intros;refine rn ?_;intros;refine sc ?_;intros;rw[i];refine rn ?_;intros;refine ca [] call218 (yb k lo hi _) ?_;rintro _ _ ⟨rfl,rfl⟩;rw[bf h];exact bh
theorem Ge(g p n:Nat)(v:Value)(b q:List UInt8)(lo hi:Int)(M:List aa)(a:Int)(d:a=p)(l:aI M v b)(f:b.length<=1000000000)(c:b.drop p=vB n++q)(h:lo<=n/\n<=hi)(j:0<=lo)(i:hi<=16777216):Fn prog 324 #[.pointer (some ⟨g,0,none⟩),.int .i64 lo,.int .i64 hi] (pT g v a::M)
  λr L'=>r=.int .i64 n/\L'=pT g v (a+(vB n).length)::M:=by
 have e:(b.drop p).length=(vB n).length+q.length:=by rw[c,bo]
 rw[ew]at e;have k:p<=b.length:=by have:=uO n;omega
 subst d;refine fo func324 ntmps324 ?_;refine rn ?_;intros;refine tx ?_;intros;refine bX J J J ?_;refine bc [] J call256 rE J (Av n q _ _ (by rw[<-c];exact rD) U U) ?_;rintro _ _ ⟨rfl,rfl⟩;refine mw ?_;intros;exact bh
theorem Mj(g p:Nat)(s:List UInt8)(v:Value)(b q:List UInt8)(n:Int)(M:List aa)(a:Int)(d:a=p)(j:aI M v b)(h:b.length<=1000000000)(c:b.drop p=s++q)(e:n=s.length)(i:p<=b.length):Fn prog 325 #[.pointer (some ⟨g,0,none⟩),.int .i64 n] (pT g v a::M)
  λr L'=>r=.string (S s)/\L'=pT g v (a+s.length)::M:=by
 have f:(b.drop p).length=s.length+q.length:=by rw[c,bo]
 rw[ew]at f;subst e;subst d;refine fo func325 ntmps325 ?_;refine rn ?_;intros;refine mX ?_;intros;refine rn ?_;intros;refine tx ?_;intros;rw[show((p:Int)+s.length).toNat-(p:Int).toNat=s.length by omega,dc,c,jL];exact bh
end
end
section
theorem Cf{d:Nat}{pos:String}(i:Nat){j:Nat}(c:aj)(hx:aH f x=.pointer (some ⟨g,o+j*1,none⟩))(hi:L[i]?=some (ao g bt cs))(b:P.underlying t=some (.int .i64))(e:(cs.drop o).take 5=ab.cells c)
  (a:j<5):aP P ⟨some d,.load t x,ty,pos,af,gd⟩ f L (.int .i64 (c.get j)):=by
 rw[<-c.getD_eq];intro F w s;have:=jz hi (Es (φ:=.int .i64) (zs:=[c.a,c.b,c.c,c.d,c.e]) 0 e a) s;rw[qh]at hx;simp[execOp,hx,Instr.loadAt,Instr.sureAddr,ug w (t:=t) (show cR P t=some false by simp[cR,b]) this,cu]
set_option maxRecDepth 20000 attribute [local irreducible] Ex aM Fn bI bJ bV fin meet ch aX bZ aP aN aI Rd aK Row ao Sub bk bP bS bN bg bR Hid bY
section
theorem AX(n:Int)(M:List aa)(h:0<=n/\n<=1048576):Fn prog 150 #[.int .i64 n] M λv L'=>v=.bool true/\L'=M:=by refine fo func150 ntmps150 ?_;exact bh
theorem KR(n:Int)(M:List aa)(h:0<=n/\n<=1048576):Fn prog 286 #[.int .i64 n] M λv L'=>v=.bool true/\L'=M:=by refine fo func286 ntmps286 ?_;exact bh
theorem Ev.aW.B4{e:Ev}(h:e.aW):e.ed.key.length<=9223372036854775807/\e.ed.value.length<=9223372036854775807:=by have:=Ed.vO h.ed;omega
theorem XV(x:aF)(v0:Value)(M:List aa)(C:aI M v0 x.l)(H:O1 v0)(c:x.aW):Fn prog 81 #[.agg (bH x v0).toArray] M λv L'=>v=.bool true/\L'=M:=by
 have z:=c.k;have F:=c.r;have A:=c.m;refine fo func81 ntmps81 ?_;refine rn ?_;(repeat(first|intro(g:Nat)|intro h));revert g;intro n;refine ca [] call150 (AX x.upto _ c.u) ?_;rintro _ _ ⟨rfl,rfl⟩;refine rn ?_;intros;refine bm [3] (λq vs L'=>∃i:Nat,i<=5/\q=5-i/\vs=[.int .i64 i]/\L'=ao n 88 (bH x v0)::M) 5 ⟨0,U,rfl,rfl,rfl⟩ ?_;rintro q vs s r ⟨i,hi,rfl,rfl,rfl⟩;refine bp [1,3] rG (λt=>?_);by_cases e:i<5
 ·refine rn ?_;intros;refine cH J J J (Cf 0 x.c J J J J e) ?_;refine rn ?_;intros;refine ca [] call150 (AX (x.c.get i) _ (c.c i e)) ?_;rintro _ _ ⟨rfl,rfl⟩;refine rn ?_;intros;exact aS ⟨5-(i+1),_,U,rB,i+1,U,rfl,av (aQ U) rfl,rfl⟩
 refine rn ?_;intros;refine bm [4] (λq vs L'=>∃i:Nat,i<=x.l.length/\q=x.l.length-i/\vs=[.int .i64 i]/\L'=ao n 88 (bH x v0)::M) x.l.length ⟨0,U,rfl,rfl,rfl⟩ ?_;rintro q vs s r ⟨i,hi,rfl,rfl,rfl⟩;refine bp [1,4] rG (λt=>?_);by_cases e:i<x.l.length
 ·have l:=c.l _ (bT e);refine rn ?_;intros;refine ca [] call151 (BO (x.l[i]'e) _ l.B4.1 l.B4.2) ?_;rintro _ _ ⟨⟨y,hy,rfl⟩,rfl⟩;obtain rfl:=hy.2 l;refine rn ?_;intros;exact aS ⟨x.l.length-(i+1),_,U,rB,i+1,U,rfl,av (aQ U) rfl,rfl⟩
 obtain rfl:i=x.l.length:=U;have d:=c.nu;have o:=c.nc;have p:=c.ne;have u:=c.one;unfold iP at d;unfold gj at o;unfold ea at p;have j:x.kind=3\/x.kind=6->x.l.length=0:=λh=>by rw[p U];rfl
 refine rn ?_;intros;by_cases m:x.c=aj.zero
 ·refine cH J J J (zx (a:=x.c) (b:=aj.zero) J J m) ?_;have w:x.kind=1\/x.kind=2\/x.kind=5\/x.kind=3\/x.kind=4\/x.kind=6:=U;rcases w with h|h|h|h|h|h
  ·have f:=d U;have k:=u h;exact bh
  ·have f:=d U;exact bh
  ·have f:=d U;exact bh
  ·have k:=j (.inl h);exact bh
  ·exact bh
  ·have f:=d U;have k:=j (.inr h);exact bh
 ·have h:x.kind=6:=nW λh=>m (o h);have f:=d U;have k:=j (.inr h);refine cH J J J (Gu (a:=x.c) (b:=aj.zero) J J m) ?_;exact bh
theorem Ev.aW.len8{l:List Ev}(h:∀e∈l,e.aW)(i:Nat):(de (l.take i)).length<=60*i:=by have:=vQ (l.take i) (λe a=>h e (mM a));rw[dy]at this;omega
theorem DL{l:List Ev}(h:i<l.length):de (l.take (i+1))=de (l.take i)++(l[i]'h).bytes:=by rw[da h,zW];simp[de]
theorem Gk(x:aF)(v0:Value)(M:List aa)(hr:aI M v0 x.l)(S:O1 v0)(j:x.aW):Fn prog 28 #[.agg (bH x v0).toArray] M λr L'=>∃v,O1 v/\r=.tuple #[v,.int .i64 0]/\L'=bB v x.bytes::M:=by
 have hk:=j.k;have j4:=j.r;have hu:=j.u;have j1:=j.m;have F:=j.c;have e9:x.ez.length=2:=rfl;have j7:=fy (n:=x.upto.toNat) U;have d7:x.ig.length<=4:=by unfold aF.ig;split<;>first|omega|simp
 have Q:=tH x.c F;have d6:=x.xq j;have j5:=nJ x.body;have j8:=fy (n:=(dN x.body).length) U;refine fo func28 ntmps28 ?_;refine rn ?_;(repeat(first|intro(g:Nat)|intro(v:Value)|intro(o:O1 _)|intro(f:_=List.set _ _ _)|intro h));revert g;intro m;refine bc [] J call81 J J (XV x v0 _ rD S j) ?_;rintro _ _ ⟨rfl,rfl⟩;refine aM.wc 2 [1,4] (λvs L'=>∃b:Value,b.oneCell'=true/\vs=[.pointer (some ⟨m,0,none⟩),b]/\L'=bB b (x.ez++x.ig)::ao m 88 (bH x v0)::M) ?_ ?_
 ·rintro vs u L' ⟨b,y,rfl,rfl⟩;refine pW 1 [4] (λvs L'=>∃b:Value,b.oneCell'=true/\vs=[b]/\L'=bB b x.body::M) ?_ ?_
  ·rintro vs u L' ⟨b,y,rfl,rfl⟩;refine rn ?_;(repeat(first|intro(v:Value)|intro(o:O1 _)|intro(f:_=List.set _ _ _)|intro h));refine bc [] J call84 J J (Dt _ x.body _ rD U) ?_;rintro v9 _ ⟨o9,rfl⟩;refine rn ?_;(repeat(first|intro(v:Value)|intro(o:O1 _)|intro(f:_=List.set _ _ _)|intro h));refine ca [] call82 (oG (dN x.body).length _ U) ?_;rintro t _ ⟨s,rfl⟩;rw[dc];refine rn ?_;(repeat(first|intro(v:Value)|intro(o:O1 _)|intro(f:_=List.set _ _ _)|intro h));refine fr ?_;exact⟨_,rB,_,o,rfl,rfl⟩
  ·intro k;obtain⟨A,p⟩:∃A,A=x.ez++x.ig:=⟨_,rfl⟩;have W:A.length<=6:=by rw[p,bo];omega
   rw[<-p];by_cases c:gj x.kind
   ·have a:x.body=A++gu x.c 5:=by have c:x.kind=6:=c;unfold aF.body;rw[p,show x.jV=gu x.c 5 from an c,show x.kx=[]from ai (by unfold ea;omega),ck]
    have c:x.kind=6:=c;refine rn ?_;(repeat(first|intro(v:Value)|intro(o:O1 _)|intro(f:_=List.set _ _ _)|intro h));refine bm [4,5] (λq vs L'=>∃(i:Nat) (v:Value),i<=5/\q=5-i/\v.oneCell'=true/\vs=[v,.int .i64 i]/\L'=bB v (A++gu x.c i)::ao m 88 (bH x v0)::M) 5 ⟨0,b,U,rfl,y,rfl,by simp[gu]⟩ ?_;rintro q vs P I ⟨i,z,hi,rfl,w,rfl,rfl⟩;refine bp [1,4,5] rG (λu=>?_);by_cases l:i<5
    ·have d9:=F i l;have f:=tO x.c i;have c8:=Q i hi;have d8:=fy (n:=(x.c.get i).toNat) U;refine rn ?_;(repeat(first|intro(v:Value)|intro(o:O1 _)|intro(f:_=List.set _ _ _)|intro h));refine cH J J J (Cf 1 x.c J J J J l) ?_;refine rn ?_;(repeat(first|intro(v:Value)|intro(o:O1 _)|intro(f:_=List.set _ _ _)|intro h));refine ca [] call82 (oG (x.c.get i) _ U) ?_;rintro t _ ⟨s,rfl⟩;refine rn ?_;(repeat(first|intro(v:Value)|intro(o:O1 _)|intro(f:_=List.set _ _ _)|intro h));rw[dB,<-f];exact aS ⟨5-(i+1),_,U,rB,i+1,v,U,rfl,o,av rfl (av (aQ U) rfl),rfl⟩
    ·obtain rfl:i=5:=U;rw[<-a];refine rn ?_;(repeat(first|intro(v:Value)|intro(o:O1 _)|intro h));exact k _ _ ⟨_,rB,z,w,av rfl rfl,rfl⟩
   ·have V:¬x.kind=6:=c;by_cases e:ea x.kind
    ·have a:x.body=A++vB x.l.length++de (x.l.take x.l.length):=by unfold aF.body;rw[p,show x.jV=[]from ai c,show x.kx=vB x.l.length++de x.l from an e,ck,dI,dB _ (vB _)]
     have L:¬x.kind=3:=by unfold ea at e;omega
     have j9:=fy (n:=x.l.length) U;refine rn ?_;(repeat(first|intro(v:Value)|intro(o:O1 _)|intro h));refine ca [] call82 (oG x.l.length _ U) ?_;rintro t _ ⟨s,rfl⟩;rw[dc];refine rn ?_;(repeat(first|intro(v:Value)|intro(o:O1 _)|intro h));obtain⟨B,C⟩:∃B,B=A++vB x.l.length:=⟨_,rfl⟩;have c7:B.length<=10:=by rw[C,bo];omega
     rw[<-C]at a⊢
     refine bF (L':=bB v B::ao m 88 (bH x v0)::M) ?_ rB;refine bm [4,6] (λq vs L'=>∃(i:Nat) (v:Value),i<=x.l.length/\q=x.l.length-i/\v.oneCell'=true/\vs=[v,.int .i64 i]/\L'=bB v (B++de (x.l.take i))::ao m 88 (bH x v0)::M) x.l.length ⟨0,v,U,rfl,o,rfl,by simp[de]⟩ ?_;rintro q vs P I ⟨i,z,hi,rfl,w,rfl,rfl⟩;refine bp [1,4,6] rG (λu=>?_);by_cases l:i<x.l.length
     ·have H:=j.l _ (bT l);have c9:=(vI H).2;have e8:=Ev.aW.len8 j.l i;have R:=DL l;refine rn ?_;(repeat(first|intro(v:Value)|intro(o:O1 _)|intro h));refine ca [] call83 (Of (x.l[i]'l) _ H) ?_;rintro _ _ ⟨v3,o3,rfl,rfl⟩;refine rn ?_;(repeat(first|intro(v:Value)|intro(o:O1 _)|intro h));rw[dB,<-R];exact aS ⟨x.l.length-(i+1),_,U,rB,i+1,v,U,rfl,o,av rfl (av (aQ U) rfl),rfl⟩
     ·obtain rfl:i=x.l.length:=U;rw[<-a];refine rn ?_;(repeat(first|intro(v:Value)|intro(o:O1 _)|intro h));exact k _ _ ⟨_,rB,z,w,av rfl rfl,rfl⟩
    ·have L:x.kind=3:=by unfold ea at e;omega
     have a:x.body=A:=by unfold aF.body;rw[p,show x.jV=[]from ai c,show x.kx=[]from ai e,ck,ck]
     rw[<-a];refine rn ?_;(repeat(first|intro(v:Value)|intro(o:O1 _)|intro h));exact k _ _ ⟨_,rB,b,y,av rfl rfl,rfl⟩
 ·intro k;by_cases d:iP x.kind
  ·have a:x.ig=vB x.upto.toNat:=an d;have d:x.kind=3\/x.kind=4:=d;rcases d with d|d
   ·refine rn ?_;(repeat(first|intro(v:Value)|intro(o:O1 _)|intro h));refine ca [] call82 (oG x.upto _ U) ?_;rintro t _ ⟨s,rfl⟩;refine rn ?_;(repeat(first|intro(v:Value)|intro(o:O1 _)|intro h));exact k _ _ ⟨_,by rw[a];exact rB,v,o,av rfl (av rfl rfl),rfl⟩
   ·refine rn ?_;(repeat(first|intro(v:Value)|intro(o:O1 _)|intro h));refine ca [] call82 (oG x.upto _ U) ?_;rintro t _ ⟨s,rfl⟩;refine rn ?_;(repeat(first|intro(v:Value)|intro(o:O1 _)|intro h));exact k _ _ ⟨_,by rw[a];exact rB,v,o,av rfl (av rfl rfl),rfl⟩
  ·have a:x.ig=[]:=ai d;have d:¬(x.kind=3\/x.kind=4):=d;refine rn ?_;intros;exact k _ _ ⟨_,by rw[a,ck];exact rB,_,rfl,av rfl (av rfl rfl),rfl⟩
end
section
theorem Oj(c:aj)(M:List aa)(d:∀i,i<5->0<=c.get i/\c.get i<=1048576):Fn prog 287 #[.agg (ab.cells c).toArray] M λv L'=>v=.bool true/\L'=M:=by
 refine fo func287 ntmps287 ?_;refine rn ?_;(repeat(first|intro(g:Nat)|intro h));revert g;intro b;refine bm [3] (λq vs L'=>∃i:Nat,i<=5/\q=5-i/\vs=[.int .i64 i]/\L'=ao b 50 (ab.cells c)::M) 5 ⟨0,U,rfl,rfl,rfl⟩ ?_;rintro q vs j f ⟨i,hi,rfl,rfl,rfl⟩;refine bp [1,3] rG (λk=>?_);by_cases e:i<5
 ·have a:=zZ c i;refine rn ?_;intros;rw[dc,a];refine ca [] call286 (KR (c.get i) _ (d i e)) ?_;rintro _ _ ⟨rfl,rfl⟩;refine rn ?_;intros;exact aS ⟨5-(i+1),_,U,rB,i+1,U,rfl,av (aQ U) rfl,rfl⟩
 ·exact bh
theorem Hr(v0:Value)(l:List Ev)(M:List aa)(j:aI M v0 l)(c:∀e∈l,e.aW)(h:l.length<=20):Fn prog 285 #[v0] M λv L'=>v=.bool true/\L'=M:=by
 refine fo func285 ntmps285 ?_;refine rn ?_;intros;refine bm [3] (λq vs L'=>∃i:Nat,i<=l.length/\q=l.length-i/\vs=[.int .i64 i]/\L'=M) l.length ⟨0,U,rfl,rfl,rfl⟩ ?_;rintro q vs f d ⟨i,hi,rfl,rfl,rfl⟩;refine bp [0,3] rG (λg=>?_);by_cases b:i<l.length
 ·have a:=c _ (bT b);refine rn ?_;intros;refine ca [] call151 (BO (l[i]'b) _ a.B4.1 a.B4.2) ?_;rintro _ _ ⟨⟨y,hy,rfl⟩,rfl⟩;obtain rfl:=hy.2 a;refine rn ?_;intros;exact aS ⟨l.length-(i+1),_,U,rB,i+1,U,rfl,av (aQ U) rfl,rfl⟩
 ·exact bh
theorem Oz(x:aF)(v0:Value)(M:List aa)(F:aI M v0 x.l)(I:O1 v0)(c:x.cM):Fn prog 246 #[.agg (bH x v0).toArray] M λv L'=>v=.bool true/\L'=M:=by
 have y:=c.k;have H:=c.r;have A:=c.m;have d:=c.nu;have l:=c.nc;have m:=c.ne;have s:=c.p;unfold eE at d;unfold eg at l;unfold dR at m;have f:¬(x.kind=1\/x.kind=4)->x.l.length=0:=λh=>by rw[m h];rfl
 have e:x.kind=1->0<x.l.length:=λh=>wI.2 (s h);refine fo func246 ntmps246 ?_;refine rn ?_;(repeat(first|intro(g:Nat)|intro h));revert g;intro n;have p:x.kind=1\/x.kind=4\/x.kind=2\/x.kind=3\/x.kind=5:=U;by_cases k:x.c=aj.zero
 ·refine cH J J J (zx (a:=x.c) (b:=aj.zero) J J k) ?_;rcases p with h|h|h|h|h
  ·have j:=d U;have z:=e h;refine rn ?_;intros;refine bm [4] (λq vs L'=>∃i:Nat,i<=x.l.length/\q=x.l.length-i/\vs=[.int .i64 i]/\L'=ao n 192 (bH x v0)::M) x.l.length ⟨0,U,rfl,rfl,rfl⟩ ?_;rintro q vs u t ⟨i,hi,rfl,rfl,rfl⟩;refine bp [1,3,4] rG (λw=>?_);by_cases r:i<x.l.length
   ·have C:=c.own h _ (bT r);refine rn ?_;intros;refine oE ?_;intros;refine rn ?_;intros;exact aS ⟨x.l.length-(i+1),_,U,rB,i+1,U,rfl,av (aQ U) rfl,rfl⟩
   ·refine rn ?_;intros;refine bc [] J call285 J J (Hr v0 x.l _ rD c.l c.m) ?_;rintro _ _ ⟨rfl,rfl⟩;exact bh
  ·have j:=d U;refine rn ?_;intros;refine bc [] J call285 J J (Hr v0 x.l _ rD c.l c.m) ?_;rintro _ _ ⟨rfl,rfl⟩;exact bh
  ·have e:=f U;refine rn ?_;intros;refine ca [] call286 (KR x.upto _ c.u) ?_;rintro _ _ ⟨rfl,rfl⟩;exact bh
  all_goals
   have e:=f U;have j:=d U;refine rn ?_;intros;refine ca [] call287 (Oj x.c _ c.c) ?_;rintro _ _ ⟨rfl,rfl⟩;exact bh
 ·have o:x.kind=3\/x.kind=5:=nW λh=>k (l h);refine cH J J J (Gu (a:=x.c) (b:=aj.zero) J J k) ?_;have e:=f U;have j:=d U;rcases o with h|h
  all_goals
   refine rn ?_;intros;refine ca [] call287 (Oj x.c _ c.c) ?_;rintro _ _ ⟨rfl,rfl⟩;exact bh
theorem xi(x:aF)(v0:Value)(M:List aa)(hr:aI M v0 x.l)(H:O1 v0)(b:x.cM):Fn prog 182 #[.agg (bH x v0).toArray] M λr L'=>∃v,O1 v/\r=.tuple #[v,.int .i64 0]/\L'=bB v x.bu::M:=by
 have hk:=b.k;have d7:=b.r;have hu:=b.u;have c9:=b.m;have s:=b.c;have W:x.ez.length=2:=rfl;have d9:=fy (n:=x.upto.toNat) U;have A:=tH x.c s;have Q:=x.vu b;have e8:=fy (n:=x.dJ.length) U;refine fo func182 ntmps182 ?_;refine rn ?_;(repeat(first|intro(g:Nat)|intro(v:Value)|intro(o:O1 _)|intro(a:_=List.set _ _ _)|intro h));revert g;intro f;refine bc [] J call246 J J (Oz x v0 _ rD H b) ?_;rintro _ _ ⟨rfl,rfl⟩;refine aM.wc 2 [4] (λvs L'=>∃j:Value,j.oneCell'=true/\vs=[j]/\L'=bB j x.dJ::M) ?_ ?_
 ·rintro vs p L' ⟨j,o4,rfl,rfl⟩;refine rn ?_;(repeat(first|intro(g:Nat)|intro(v:Value)|intro(o:O1 _)|intro(a:_=List.set _ _ _)|intro h));refine ca [] call82 (oG x.dJ.length _ U) ?_;rintro w _ ⟨u,rfl⟩;rw[dc];refine rn ?_;(repeat(first|intro(g:Nat)|intro(v:Value)|intro(o:O1 _)|intro(a:_=List.set _ _ _)|intro h));refine bc [] J call84 J J (Dt _ (vB x.dJ.length++x.dJ) _ rD (by rw[bo];omega)) ?_;rintro v9 _ ⟨I,rfl⟩;refine rn ?_;(repeat(first|intro(g:Nat)|intro(v:Value)|intro(o:O1 _)|intro(a:_=List.set _ _ _)|intro h));refine fr ?_;exact⟨_,rB,_,I,rfl,rfl⟩
 intro c;have F:x.kind=2\/(x.kind=3\/x.kind=5)\/(x.kind=1\/x.kind=4):=U;rcases F with h|h|h
 ·have e:x.dJ=x.ez++vB x.upto.toNat:=by unfold aF.dJ;rw[show x.iu=[]from ai (by unfold dR;omega),show x.im=vB x.upto.toNat from an h,show x.lv=[]from ai (by unfold eg;omega)];simp
  rw[e]at c;refine rn ?_;(repeat(first|intro(g:Nat)|intro(v:Value)|intro(o:O1 _)|intro(a:_=List.set _ _ _)|intro h));refine ca [] call82 (oG x.upto _ U) ?_;rintro w _ ⟨u,rfl⟩;refine rn ?_;(repeat(first|intro(g:Nat)|intro(v:Value)|intro(o:O1 _)|intro(a:_=List.set _ _ _)|intro h));exact c _ _ ⟨_,rB,v,o,av rfl rfl,rfl⟩
 ·have e:x.dJ=x.ez++gu x.c 5:=by unfold aF.dJ;rw[show x.iu=[]from ai (by unfold dR;omega),show x.im=[]from ai (by unfold eE;omega),show x.lv=gu x.c 5 from an h];simp
  rw[e]at c;rcases h with h|h
  all_goals
   refine rn ?_;(repeat(first|intro(g:Nat)|intro(v:Value)|intro(o:O1 _)|intro(a:_=List.set _ _ _)|intro h));refine bF (L':=bB (.slice (some ⟨g,0,none⟩) 2 2) x.ez::ao f 192 (bH x v0)::M) ?_ rB;refine bm [4,5] (λq vs L'=>∃(i:Nat) (v:Value),i<=5/\q=5-i/\v.oneCell'=true/\vs=[v,.int .i64 i]/\L'=bB v (x.ez++gu x.c i)::ao f 192 (bH x v0)::M) 5 ⟨0,_,U,rfl,rfl,rfl,by rw[show gu x.c 0=[]from rfl,ck]⟩ ?_;rintro q vs z y ⟨i,m,hi,rfl,l,rfl,rfl⟩;refine bp [1,4,5] rG (λp=>?_);by_cases d:i<5
   ·have S:=s i d;have a:=tO x.c i;have L:=A i hi;have R:=fy (n:=(x.c.get i).toNat) U;refine rn ?_;(repeat(first|intro(v:Value)|intro(o:O1 _)|intro(a:_=List.set _ _ _)|intro h));refine cH J J J (Cf 1 x.c J J J J d) ?_;refine rn ?_;(repeat(first|intro(v:Value)|intro(o:O1 _)|intro(a:_=List.set _ _ _)|intro h));refine ca [] call82 (oG (x.c.get i) _ U) ?_;rintro w _ ⟨u,rfl⟩;refine rn ?_;(repeat(first|intro(v:Value)|intro(o:O1 _)|intro(a:_=List.set _ _ _)|intro h));rw[dB,<-a];exact aS ⟨5-(i+1),_,U,rB,i+1,v,U,rfl,o,av rfl (av (aQ U) rfl),rfl⟩
   ·obtain rfl:i=5:=U;refine rn ?_;(repeat(first|intro(v:Value)|intro(o:O1 _)|intro h));exact c _ _ ⟨_,rB,m,l,av rfl rfl,rfl⟩
 ·have e:x.dJ=x.ez++[UInt8.ofNat (x.l.length:Int).toNat]++de (x.l.take x.l.length):=by unfold aF.dJ;rw[show x.iu=UInt8.ofNat x.l.length::de x.l from an h,show x.im=[]from ai (by unfold eE;omega),show x.lv=[]from ai (by unfold eg;omega),dI];simp
  rw[e]at c;obtain⟨B,k⟩:∃B,B=x.ez++[UInt8.ofNat (x.l.length:Int).toNat]:=⟨_,rfl⟩;have c8:B.length=3:=by rw[k];rfl
  rw[<-k]at c;rcases h with h|h
  all_goals
   refine rn ?_;(repeat(first|intro(v:Value)|intro(o:O1 _)|intro h));refine bF (L':=bB v B::ao f 192 (bH x v0)::M) ?_ (by rw[k];exact rB);refine bm [4,6] (λq vs L'=>∃(i:Nat) (v:Value),i<=x.l.length/\q=x.l.length-i/\v.oneCell'=true/\vs=[v,.int .i64 i]/\L'=bB v (B++de (x.l.take i))::ao f 192 (bH x v0)::M) x.l.length ⟨0,v,U,rfl,o,rfl,by simp[de]⟩ ?_;rintro q vs z y ⟨i,m,hi,rfl,l,rfl,rfl⟩;refine bp [1,4,6] rG (λp=>?_);by_cases d:i<x.l.length
   ·have t:=b.l _ (bT d);have P:=(vI t).2;have V:=Ev.aW.len8 b.l i;have C:=DL d;refine rn ?_;(repeat(first|intro(v:Value)|intro(o:O1 _)|intro h));refine ca [] call83 (Of (x.l[i]'d) _ t) ?_;rintro _ _ ⟨v3,o3,rfl,rfl⟩;refine rn ?_;(repeat(first|intro(v:Value)|intro(o:O1 _)|intro h));rw[dB,<-C];exact aS ⟨x.l.length-(i+1),_,U,rB,i+1,v,U,rfl,o,av rfl (av (aQ U) rfl),rfl⟩
   ·obtain rfl:i=x.l.length:=U;refine rn ?_;intros;exact c _ _ ⟨_,rB,m,l,av rfl rfl,rfl⟩
end
end
def rY:=@drop_one
end Go.Proofs.YtogcfijlhpaeeaaGreat
