/- Texts. No condition. -/
import Derived.Test.YtogcfijlhpaeeaaGreatYpax
open Go.RowKit Go.Proofs.Tryz
set_option linter.all false
set_option maxHeartbeats 32000000
namespace Go.Proofs.YtogcfijlhpaeeaaGreat
variable{k:Nat}{r:Int}{c:aJ}{w:aD}{st:aG}
section
set_option maxRecDepth 20000 attribute [local irreducible] Ex aM Fn bI bJ bV fin meet ch aX bZ aP aN aI Rd aK Row ao Sub bk bP bS bN bg bR Hid bY
section
theorem HB(c:aj)(e:Ev)(M:List aa)(g:cD e.n):Fn prog 149 #[c.val,.agg (ab.cells e).toArray] M λv L'=>v=.bool (decide (e.dY c))/\L'=M:=by
 unfold cD at g;refine fo func149 ntmps149 ?_;by_cases a:0<=e.r
 ·by_cases b:e.r<5
  ·by_cases d:1<=e.n
   ·have j:=zZ c e.r.toNat;by_cases f:e.n-1=c.get e.r.toNat
    ·cases hle:e.c.le c
     ·rw[bd (λh=>by rw[h.2.2.2.2]at hle;cases hle)];refine rn ?_;intros;refine wA ?_;intros;refine ma [] call217 (Mt e.c c _) ?_;rintro _ _ ⟨rfl,rfl⟩;rw[hle];refine mw ?_;intros;exact bh
     ·have i:e.dY c:=⟨a,b,d,f,hle⟩;rw[show decide (e.dY c)=true from bf i];refine rn ?_;intros;refine wA ?_;intros;refine ma [] call217 (Mt e.c c _) ?_;rintro _ _ ⟨rfl,rfl⟩;rw[hle];refine mw ?_;intros;exact bh
    ·rw[bd (λh=>f h.2.2.2.1)];refine rn ?_;intros;refine wA ?_;intros;exact bh
   ·rw[bd (λh=>d h.2.2.1)];refine rn ?_;intros;refine wA ?_;intros;exact bh
  ·rw[bd (λh=>b h.2.1)];refine rn ?_;intros;refine wA ?_;intros;exact bh
 ·rw[bd (λh=>a h.1)];refine rn ?_;intros;refine wA ?_;intros;exact bh
theorem XX(c:aj)(v0:Value)(l:List Ev)(M:List aa)(S:aI M v0 l)(R:l.length<=1000000):Fn prog 294 #[c.val,v0] M λv L'=>O1 v/\L'=aL v (cK c l)::M:=by
 refine fo func294 ntmps294 ?_;refine rn ?_;(repeat(first|intro(g:Nat)|intro(v:Value)|intro h));revert g;intro gs;revert g;intro q;refine bF (L':=aL (.slice (some ⟨gs,0,none⟩) 0 0) []::ao q 50 (ab.cells c)::M) ?_ (cA (α:=Ev) _ _ _);refine bm [5,6] (λm vs L'=>∃(i:Nat) (o:Value),i<=l.length/\m=l.length-i/\o.oneCell'=true/\vs=[o,.int .i64 i]/\L'=aL o (cK c (l.take i))::ao q 50 (ab.cells c)::M) l.length ⟨0,_,U,U,rfl,rfl,rfl⟩ ?_;rintro m vs I L' ⟨i,o,hi,rfl,A,rfl,rfl⟩;refine bp [1,2,5,6] rG (λC=>?_);by_cases b:i<l.length
 ·have e:=Kr c l i b;have z:=rT c (l.take i);simp only[dy]at z;have d:c.has (l[i]'b).r (l[i]'b).n=false->((cK c (l.take i)).any λy=>decide (y.cj=(l[i]'b).cj))=((l.take i).any λy=>decide (y.cj=(l[i]'b).cj)):=Sc c (l.take i) (l[i]'b);obtain⟨F,H⟩:∃F,F=cK c (l.take i):=⟨_,rfl⟩;rw[<-H]at e z d⊢
  refine rn ?_;(repeat(first|intro(v:Value)|intro h));refine mX ?_;(repeat(first|intro(v:Value)|intro h));refine ma [] call148 (Gq c (l[i]'b).r (l[i]'b).n _) ?_;rintro _ _ ⟨rfl,rfl⟩;refine bn ?_;refine br rF ?_;refine mn ?_;(repeat(first|intro(v:Value)|intro h));refine rn ?_;(repeat(first|intro(v:Value)|intro h));refine bm [7,8] (λm vs L'=>∃(k:Nat),k<=i/\m=i-k/\vs=[.bool (c.has (l[i]'b).r (l[i]'b).n||(l.take k).any λy=>decide (y.cj=(l[i]'b).cj)),.int .i64 k]/\L'=aL o F::ao q 50 (ab.cells c)::M) i ⟨0,U,U,by simp,rfl⟩ ?_;rintro m vs L L' ⟨k,P,rfl,rfl,rfl⟩;refine bp [1,2,5,6,7,8] rG (λC=>?_);obtain⟨a,p⟩:∃a,a=(c.has (l[i]'b).r (l[i]'b).n||(l.take k).any λy=>decide (y.cj=(l[i]'b).cj)):=⟨_,rfl⟩;rw[<-p];by_cases Q:k<i
  ·have j:k<l.length:=U;have t:((l.take (k+1)).any λy=>decide (y.cj=(l[i]'b).cj))=(((l.take k).any λy=>decide (y.cj=(l[i]'b).cj))||decide ((l[k]'j).cj=(l[i]'b).cj)):=by rw[da j,Gd];simp
   cases a
   ·have f:=Bool.or_eq_false_iff.1 p.symm;by_cases w:(l[k]'j).r=(l[i]'b).r
    ·by_cases x:(l[k]'j).n=(l[i]'b).n
     ·have s:(l[k]'j).cj=(l[i]'b).cj:=by simp only[Ev.cj,w,x]
      clear d e;refine rn ?_;(repeat(first|intro(v:Value)|intro h));refine yz ?_;(repeat(first|intro(v:Value)|intro h));refine rn ?_;(repeat(first|intro(v:Value)|intro h));exact aS ⟨i-(k+1),_,U,rB,k+1,U,rfl,av (kc (by rw[t,bf s];simp)) (av (aQ U) rfl),rfl⟩
     ·have s:¬(l[k]'j).cj=(l[i]'b).cj:=λh=>x (cn Mk.n h);clear d e;refine rn ?_;(repeat(first|intro(v:Value)|intro h));refine yz ?_;(repeat(first|intro(v:Value)|intro h));refine rn ?_;(repeat(first|intro(v:Value)|intro h));exact aS ⟨i-(k+1),_,U,rB,k+1,U,rfl,av (kc (by rw[t,bd s,f.1,f.2];rfl)) (av (aQ U) rfl),rfl⟩
    ·have s:¬(l[k]'j).cj=(l[i]'b).cj:=λh=>w (cn Mk.r h);clear d e;refine rn ?_;(repeat(first|intro(v:Value)|intro h));refine yz ?_;(repeat(first|intro(v:Value)|intro h));refine rn ?_;(repeat(first|intro(v:Value)|intro h));exact aS ⟨i-(k+1),_,U,rB,k+1,U,rfl,av (kc (by rw[t,bd s,f.1,f.2];rfl)) (av (aQ U) rfl),rfl⟩
   ·clear d e;refine rn ?_;(repeat(first|intro(v:Value)|intro h));refine yz ?_;(repeat(first|intro(v:Value)|intro h));refine rn ?_;(repeat(first|intro(v:Value)|intro h));exact aS ⟨i-(k+1),_,U,rB,k+1,U,rfl,av (kc (by rw[t,<-Bool.or_assoc,<-p];rfl)) (av (aQ U) rfl),rfl⟩
  ·obtain rfl:k=i:=U;cases a
   ·have f:=Bool.or_eq_false_iff.1 p.symm;have u:cK c (l.take (k+1))=F++[l[k]'b]:=by rw[e];unfold kO;rw[ai (by rw[d f.1,f.2,f.1];simp)]
    clear d e;refine rn ?_;(repeat(first|intro(v:Value)|intro h));exact aS ⟨l.length-(k+1),aL v (F++[l[k]'b])::ao q 50 (ab.cells c)::M,U,rB,k+1,v,U,rfl,by assumption,av rfl (av (aQ U) rfl),by rw[u]⟩
   ·have u:cK c (l.take (k+1))=F:=by
     rw[e];unfold kO;rw[an];cases hh:c.has (l[k]'b).r (l[k]'b).n
     ·left;rw[d hh];rw[hh,Dx]at p;exact p.symm
     ·exact .inr rfl
    clear d e;refine rn ?_;intros;exact aS ⟨l.length-(k+1),aL o F::ao q 50 (ab.cells c)::M,U,rB,k+1,o,U,rfl,A,av rfl (av (aQ U) rfl),by rw[u]⟩
 ·obtain rfl:i=l.length:=U;rw[dI];refine rn ?_;intros;refine fr ?_;exact⟨_,rB,A,rfl⟩
end
end
section
@[reducible] def zw(d b:Nat)(c:aj)(f:Value)(a:List Ev)(e:Value)(left:List Ev)(M:List aa):List aa:=
 aL f a::aL e left::ao d 50 (ab.cells aj.zero)::ao b 50 (ab.cells c)::M
def EA(c:aj)(l:List Ev)(j:Nat)(b:Int):Prop:=(b=-1/\∀q (hq:q<l.length),q<j->¬(l[q]'hq).dY c)\/∃a,∃d:a<l.length,b=a/\(l[a]'d).dY c/\∀q (hq:q<l.length),q<j->(l[q]'hq).dY c->(l[a]'d).r<=(l[q]'hq).r
set_option maxRecDepth 20000 attribute [local irreducible] Ex aM Fn bI bJ bV fin meet ch aX bZ aP aN aI Rd aK Row ao Sub bk bP bS bN bg bR Hid bY
section
theorem SI(c:aj)(v0:Value)(l:List Ev)(M:List aa)(hr:aI M v0 l)(hl:l.length<=1000000)(hI:∀e∈l,cD e.n)(hc:c.I):Fn prog 262 #[c.val,v0] M
  λv L'=>∃v1 v2:Value,O1 v1/\O1 v2/\v=.tuple #[v1,v2,.agg (ab.cells (drain c (cK c l)).2.2).toArray]/\L'=aL v1 (drain c (cK c l)).1::aL v2 (drain c (cK c l)).2.1::M:=by
 have hF:=rT c l;have d9:fG (cK c l):=qE c l [] List.Pairwise.nil;have c8:∀e∈cK c l,cD e.n:=λe he=>hI e (xN c l e he);refine fo func262 ntmps262 ?_;refine rn ?_;(repeat(first|intro(g:Nat)|intro(v:Value)|intro(cs:List Value)|intro(b:_=List.set _ _ _)|intro h));refine bc [] J call294 J J (XX c v0 l _ rD hl) ?_;rintro u _ ⟨o7,rfl⟩;obtain⟨p,hO⟩:∃p,p=cK c l:=⟨_,rfl⟩;rw[<-hO]at hF d9 c8⊢
 revert g;intro R;revert g;intro Q;refine rn ?_;(repeat(first|intro(g:Nat)|intro(v:Value)|intro(cs:List Value)|intro(b:_=List.set _ _ _)|intro h));refine bF (L':=zw R Q c (.slice (some ⟨g,0,none⟩) 0 0) [] u p M) ?_ (ar (cA (α:=Ev) (some ⟨g,0,none⟩) 80 _) (bW _));refine bm [7,8] (λm vs L'=>∃(f:aj) (left y:List Ev) (u L:Value),m=left.length/\fG left/\left.Sublist p/\f.I/\y++(drain f left).1=(drain c p).1/\(drain f left).2=(drain c p).2/\u.oneCell'=true/\L.oneCell'=true/\y.length+left.length=p.length/\vs=[u,L]/\L'=zw R Q f L y u left M) p.length ⟨c,p,[],u,_,rfl,d9,Gr _,hc,rfl,rfl,o7,rfl,by simp,rfl,rfl⟩ ?_;rintro m vs g3 L' ⟨f,left,y,u,L,rfl,e8,e9,j8,F,I,o7,o8,u5,rfl,rfl⟩;refine bp [2,6,7,8] rG (λgk=>?_);have S:∀e∈left,cD e.n:=λe he=>c8 e (e9.subset he);refine rn ?_;(repeat(first|intro(v:Value)|intro(cs:List Value)|intro(b:_=List.set _ _ _)|intro h));refine ll [9,10] (λm vs=>∃(j:Nat) (P:Int),j<=left.length/\m=left.length-j/\EA f left j P/\vs=[.int .i64 P,.int .i64 j]) left.length ⟨0,-1,U,U,.inl ⟨rfl,λq k h=>by omega⟩,rfl⟩ ?_;rintro m vs g4 ⟨j,P,hj,rfl,V,rfl⟩;refine bp [2,6,7,8,9,10] rG (λgk=>?_);by_cases w:j<left.length
 ·have m7:=S _ (bT w);have x:∀vd,EA f left (j+1) vd->∃(j2:Nat) (AB:Int),j2<=left.length/\left.length-(j+1)=left.length-j2/\EA f left j2 AB/\[Value.int .i64 vd,.int .i64 (j+1)]=[.int .i64 AB,.int .i64 j2]:=λvd h=>⟨j+1,vd,U,rfl,h,rfl⟩;clear F I c8 S;refine rn ?_;(repeat(first|intro(v:Value)|intro(cs:List Value)|intro(b:_=List.set _ _ _)|intro h));refine wk ?_;(repeat(first|intro(v:Value)|intro(cs:List Value)|intro(b:_=List.set _ _ _)|intro h));refine ma [] call149 (HB f (left[j]'w) _ m7) ?_;rintro _ _ ⟨rfl,rfl⟩;by_cases H:(left[j]'w).dY f
  ·rw[show decide ((left[j]'w).dY f)=true from bf H];rcases V with⟨rfl,C⟩|⟨a,d,rfl,z,s⟩
   ·have A:=x j (.inr ⟨j,w,rfl,H,λq k W o=>by
     by_cases t:q=j
     ·subst t;exact eH _
     ·exact absurd o (C q k U)⟩)
    clear x C;refine bn ?_;refine br rF ?_;refine mn ?_;(repeat(first|intro(v:Value)|intro(cs:List Value)|intro(b:_=List.set _ _ _)|intro h));refine rn ?_;(repeat(first|intro(v:Value)|intro(cs:List Value)|intro(b:_=List.set _ _ _)|intro h));refine uN ?_;(repeat(first|intro(v:Value)|intro(cs:List Value)|intro(b:_=List.set _ _ _)|intro h));refine rn ?_;(repeat(first|intro(v:Value)|intro(cs:List Value)|intro(b:_=List.set _ _ _)|intro h));exact aS ⟨left.length-(j+1),_,U,bW _,A,rfl⟩
   ·by_cases u6:(left[j]'w).r<(left[a]'d).r
    ·have A:=x j (.inr ⟨j,w,rfl,H,λq k W o=>by
      by_cases t:q=j
      ·subst t;exact eH _
      ·have:=s q k U o;omega⟩)
     clear x s;refine bn ?_;refine br rF ?_;refine mn ?_;(repeat(first|intro(v:Value)|intro(cs:List Value)|intro(b:_=List.set _ _ _)|intro h));refine rn ?_;(repeat(first|intro(v:Value)|intro(cs:List Value)|intro(b:_=List.set _ _ _)|intro h));refine uN ?_;(repeat(first|intro(v:Value)|intro(cs:List Value)|intro(b:_=List.set _ _ _)|intro h));refine rn ?_;(repeat(first|intro(v:Value)|intro(cs:List Value)|intro(b:_=List.set _ _ _)|intro h));exact aS ⟨left.length-(j+1),_,U,bW _,A,rfl⟩
    ·have A:=x a (.inr ⟨a,d,rfl,z,λq k W o=>by
      by_cases t:q=j
      ·subst t;omega
      ·exact s q k U o⟩)
     clear x s;refine bn ?_;refine br rF ?_;refine mn ?_;(repeat(first|intro(v:Value)|intro(cs:List Value)|intro(b:_=List.set _ _ _)|intro h));refine rn ?_;(repeat(first|intro(v:Value)|intro(cs:List Value)|intro(b:_=List.set _ _ _)|intro h));refine uN ?_;(repeat(first|intro(v:Value)|intro(cs:List Value)|intro(b:_=List.set _ _ _)|intro h));refine rn ?_;(repeat(first|intro(v:Value)|intro(cs:List Value)|intro(b:_=List.set _ _ _)|intro h));exact aS ⟨left.length-(j+1),_,U,bW _,A,rfl⟩
  ·rw[show decide ((left[j]'w).dY f)=false from bd H];have A:=x P (by
    rcases V with⟨rfl,C⟩|⟨a,d,rfl,z,s⟩
    ·exact .inl ⟨rfl,λq k W=>by
      by_cases t:q=j
      ·subst t;exact H
      ·exact C q k U⟩
    ·exact .inr ⟨a,d,rfl,z,λq k W o=>by
      by_cases t:q=j
      ·subst t;exact absurd o H
      ·exact s q k U o⟩)
   clear x V;refine bn ?_;refine br rF ?_;refine mn ?_;(repeat(first|intro(v:Value)|intro(cs:List Value)|intro(b:_=List.set _ _ _)|intro h));refine rn ?_;(repeat(first|intro(v:Value)|intro(cs:List Value)|intro(b:_=List.set _ _ _)|intro h));refine uN ?_;(repeat(first|intro(v:Value)|intro(cs:List Value)|intro(b:_=List.set _ _ _)|intro h));refine rn ?_;(repeat(first|intro(v:Value)|intro(cs:List Value)|intro(b:_=List.set _ _ _)|intro h));exact aS ⟨left.length-(j+1),_,U,bW _,A,rfl⟩
 ·obtain rfl:j=left.length:=U;rcases V with⟨rfl,C⟩|⟨a,d,rfl,z,s⟩
  ·have m8:∀i,¬jm f left i:=λi ⟨hi,h1,_⟩=>C i hi hi h1;rw[oZ m8]at F I;simp only[ck]at F;rw[<-F,<-I];clear C;refine rn ?_;(repeat(first|intro(v:Value)|intro(cs:List Value)|intro(b:_=List.set _ _ _)|intro h));refine Dd ?_;(repeat(first|intro(v:Value)|intro(cs:List Value)|intro(b:_=List.set _ _ _)|intro h));refine rn ?_;(repeat(first|intro(v:Value)|intro(cs:List Value)|intro(b:_=List.set _ _ _)|intro h));refine fr ?_;exact⟨_,rB,L,u,o8,o7,rfl,rfl⟩
  ·have m9:jm f left a:=⟨d,z,λq k o=>s q k k o⟩;have n8:=qL e8 d m9;have s9:(left.eraseIdx a).length=left.length-1:=by rw[uZ,an d]
   have m6:=S _ (bT d);have r9:(ab.cells f).length=5:=rfl;have u9:=z.1;have w5:=z.2.1;clear s S;refine rn ?_;(repeat(first|intro(v:Value)|intro(cs:List Value)|intro(b:_=List.set _ _ _)|intro h));refine ji ?_;(repeat(first|intro(v:Value)|intro(cs:List Value)|intro(b:_=List.set _ _ _)|intro h));refine rn ?_;(repeat(first|intro(v:Value)|intro(cs:List Value)|intro(b:_=List.set _ _ _)|intro h));have j9:cs=ab.cells (f.set (left[a]'d).r.toNat (left[a]'d).n):=by rw[b,<-aj.zH _ _ U,qh,mL]
   clear b;subst j9;refine bF (L':=zw R Q (f.set (left[a]'d).r.toNat (left[a]'d).n) v (y++[left[a]'d]) u left M) ?_ rB;revert v;intro v9 o9;refine ji ?_;(repeat(first|intro(v:Value)|intro h));refine rn ?_;(repeat(first|intro(v:Value)|intro h));rw[n8]at F I;have l8:left.take a++left.drop (a+1)=left.eraseIdx a:=(List.eraseIdx_eq_take_drop_succ ..).symm;exact aS ⟨(left.eraseIdx a).length,zw R Q (f.set (left[a]'d).r.toNat (left[a]'d).n) v9 (y++[left[a]'d]) v (left.take a++left.drop (a+1)) M,U,ar rB (iT [1] _),f.set (left[a]'d).r.toNat (left[a]'d).n,left.eraseIdx a,y++[left[a]'d],v,v9,rfl,e8.erase a,(xh ..).trans e9,j8.set U m6,by rw[dB];exact F,I,by assumption,o9,by simp;omega,rfl,by rw[l8]⟩
end
end
section
@[reducible] def jg(g:Nat)(most:Int)(c:aj)(v:Value):aa:=ao g 219 [.int .i64 most,.int .i64 c.a,.int .i64 c.b,.int .i64 c.c,.int .i64 c.d,.int .i64 c.e,v]
def CB(g:Nat)(most:Int)(c:aj)(v0:Value)(a l:List Ev)(M:List aa)(r:Value)(L':List aa):Prop:=
 (most<((drain c (cK c (a++l))).2.1.length:Int)/\r=.tuple #[.slice none 0 0,.int .i64 22]/\L'=jg g most c v0::aL v0 a::M)\/
 (¬most<((drain c (cK c (a++l))).2.1.length:Int)/\∃b d:Value,b.oneCell'=true/\d.oneCell'=true/\r=.tuple #[b,.int .i64 0]/\
  L'=jg g most (drain c (cK c (a++l))).2.2 d::aL d (drain c (cK c (a++l))).2.1::aL b (drain c (cK c (a++l))).1::M)
def LB(g:Nat)(most:Int)(c:aj)(v0:Value)(a:List Ev)(e:Ev)(M:List aa)(r:Value)(L':List aa):Prop:=
 (¬e.dY c/\r=.int .i64 20/\L'=jg g most c v0::aL v0 a::M)\/(e.dY c/\r=.int .i64 0/\L'=jg g most (c.set e.r.toNat e.n) v0::aL v0 a::M)
theorem XW(m:Int)(c:aj)(v:Value)(i:Nat)(hi:i<5)(n:Int):([.int .i64 m,.int .i64 c.a,.int .i64 c.b,.int .i64 c.c,.int .i64 c.d,.int .i64 c.e,v]:List Value).set (1+i*1) (.int .i64 n)=[.int .i64 m,.int .i64 (c.set i n).a,.int .i64 (c.set i n).b,.int .i64 (c.set i n).c,.int .i64 (c.set i n).d,.int .i64 (c.set i n).e,v]:=by
 match i,hi with
 |0,_=>rfl
 |1,_=>rfl
 |2,_=>rfl
 |3,_=>rfl
 |4,_=>rfl
set_option maxRecDepth 20000 attribute [local irreducible] Ex aM Fn bI bJ bV fin meet ch aX bZ aP aN aI Rd aK Row ao Sub bk bP bS bN bg bR Hid bY
section
theorem T7(b:Nat)(most:Int)(c:aj)(v0 u:Value)(a l:List Ev)(M:List aa)(s:aI M u l)(t:O1 v0)(v:O1 u)(p:a.length<=100000)(q:l.length<=100000)(g:∀e∈a++l,cD e.n)(h:c.I):
  Fn prog 210 #[.pointer (some ⟨b,0,none⟩),u] (jg b most c v0::aL v0 a::M) (CB b most c v0 a l M):=by
 have j:(a++l).length<=1000000:=by rw[bo];omega
 have i:=BD c (cK c (a++l)) (qE c _ [] List.Pairwise.nil);have r:=rT c (a++l);refine fo func210 ntmps210 ?_;refine rn ?_;intros;refine U2 ?_;intros;refine bX J J J ?_;refine bc [] J call262 rE J (SI c _ (a++l) _ rD j g h) ?_;rintro _ _ ⟨n,o,k,m,rfl,rfl⟩;obtain⟨D,f⟩:∃D,D=drain c (cK c (a++l)):=⟨_,rfl⟩;unfold CB;rw[<-f]at i⊢
 refine mw ?_;intros;by_cases d:most<(D.2.1.length:Int)
 ·refine rn ?_;intros;refine fr ?_;exact⟨_,rB,.inl ⟨d,rfl,rfl⟩⟩
 ·refine rn ?_;intros;refine fr ?_;exact⟨_,ar rB (iT [4,2] _),.inr ⟨d,n,o,k,m,rfl,rfl⟩⟩
theorem XZ(b:Nat)(most:Int)(c:aj)(v0:Value)(d:List Ev)(e:Ev)(M:List aa)(f:cD e.n)(g:c.I):
  Fn prog 80 #[.pointer (some ⟨b,0,none⟩),.agg (ab.cells e).toArray] (jg b most c v0::aL v0 d::M) (LB b most c v0 d e M):=by
 refine fo func80 ntmps80 ?_;refine rn ?_;(repeat(first|intro(cs:List Value)|intro(a:_=List.set _ _ _)|intro h));refine wk ?_;(repeat(first|intro(cs:List Value)|intro(a:_=List.set _ _ _)|intro h));refine ma [] call149 (HB c e _ f) ?_;rintro _ _ ⟨rfl,rfl⟩;unfold LB;by_cases h:e.dY c
 ·rw[show decide (e.dY c)=true from bf h];have i:=h.1;have j:=h.2.1;refine bn ?_;refine br rF ?_;refine mn ?_;(repeat(first|intro(cs:List Value)|intro(a:_=List.set _ _ _)|intro h));refine rn ?_;(repeat(first|intro(cs:List Value)|intro(a:_=List.set _ _ _)|intro h));refine fh [1] rE ?_;refine bU 9 (_::_::M) rfl rQ rF ?_;refine mn ?_;(repeat(first|intro(cs:List Value)|intro(a:_=List.set _ _ _)|intro h));refine bX J J J ?_;refine uP _ J rK rE rN J rO (λcs a=>?_);rw[XW _ _ _ _ U]at a;subst a;refine mw ?_;intros;refine rn ?_;intros;refine fr ?_;exact⟨_,rB,.inr ⟨h,rfl,rfl⟩⟩
 ·rw[show decide (e.dY c)=false from bd h];refine mw ?_;intros;refine rn ?_;intros;refine fr ?_;exact⟨_,rB,.inl ⟨h,rfl,rfl⟩⟩
end
end
section
def fa(a b:List Ev×Int):Prop:=a.1<+:b.1/\a.2<=b.2
theorem GS(i:Nat):∀(l:List Ev) (c:aj),c.get i<=(l.foldl gM c).get i
 |[],c=>eH _
 |e::l,c=>by
  refine Int.le_trans ?_ (GS i l (gM c e));unfold gM;by_cases h:e.r.toNat<5
  ·rw[Bq _ _ _ _ h];split
   ·rename_i a;rw[a];omega
   ·exact eH _
  ·have:c.set e.r.toNat (c.get e.r.toNat+1)=c:=by
    match he:e.r.toNat,h with
    |n+5,_=>rfl
   rw[this];exact eH _
theorem fa.refl(a:List Ev×Int):fa a a:=⟨va _,eH _⟩
theorem zh{x:aF}(h:fa (replay st.aE) (iM (replay st.aE) x)):fa (replay st.aE) (replay (st.write x).1.aE):=by
 rcases tS st x with a|a
 ·rw[a];exact fa.refl _
 ·rw[a,iR];exact h
theorem TO(g:cy k c r st)(e:Ed):fa (replay st.aE) (replay (st.edit c r e).1.aE)/\((st.edit c r e).2=0->(cr (replay (st.edit c r e).1.aE).1).get r.toNat=(cr (replay st.aE).1).get r.toNat+1):=by
 unfold aG.edit;by_cases a:st.dg c r e≠0
 ·rw[an a];exact⟨fa.refl _,λh=>absurd h a⟩
 rw[ai a];have a:st.dg c r e=0:=by simpa using a
 have l:st.up=true:=by
  cases hh:st.up with
  |true=>rfl
  |false=>unfold aG.dg at a;rw[an hh]at a;cases a
 have b:=(g.up l).2;have i:iM (replay st.aE) (bw 1 r [st.dm r e])=(st.log++[st.dm r e],st.sent):=by rw[b];rfl
 have d:=zh (st:=st) (x:=bw 1 r [st.dm r e]) (by rw[i,b];exact⟨DA _ _,eH _⟩);split
 ·exact⟨d,λh=>by cases h⟩
 ·rename_i f;have f:(st.write (bw 1 r [st.dm r e])).2=0:=by simpa using f
  rw[mZ f]at d⊢
  refine⟨d,λ_=>?_⟩;simp only;have j:=g.r5;rw[iR,i,b];simp only;rw[qv,wq _ _ (show 0<=(st.dm r e).r/\(st.dm r e).r<5 from j),an (show(st.dm r e).r.toNat=r.toNat from rfl)]
theorem X1(g:cy k c r st):fa (replay st.aE) (replay (st.state r).1.aE):=by
 unfold aG.state;split
 ·exact fa.refl _
 rename_i e;have d:st.up=true:=by cases hh:st.up with
  |true=>rfl
  |false=>exact absurd hh e
 split
 ·exact fa.refl _
 have b:=(g.up d).2;have a:=zh (st:=st) (x:=⟨4,r,st.sent,aj.zero,st.log⟩) (by rw[b];exact fa.refl _);split
 ·exact a
 ·exact a
theorem Te(g:cy k c r st)(f:aF×Int):fa (replay st.aE) (replay (st.dw c r f).1.aE):=by
 unfold aG.dw;split
 ·exact fa.refl _
 rename_i e;have d:st.up=true:=by cases hh:st.up with
  |true=>rfl
  |false=>exact absurd hh e
 have b:=(g.up d).2;split
 ·exact fa.refl _
 split
 ·exact fa.refl _
 split
 ·exact fa.refl _
 split
 ·unfold aG.iD;simp only;split
  ·exact fa.refl _
  have a:=zh (st:=st) (x:=⟨3,r,max st.sent (min f.1.upto (st.aT.get r.toNat)),aj.zero,[]⟩) (by rw[b];exact⟨va _,by show st.sent<=max st.sent _;omega⟩);split
  ·exact a
  ·exact a
 split
 ·unfold aG.jt;split
  ·exact fa.refl _
  split
  ·exact fa.refl _
  have a:=zh (st:=st) (x:=bw 2 r (fJ st.aT (st.held++f.1.l)).1) (by rw[b];exact⟨DA _ _,eH _⟩);split
  ·exact a
  ·exact a
 ·exact fa.refl _
structure ef(p q:aR):Prop where
 n:p.sf.length=q.sf.length
 all:∀i,(p.sf.getD i Sf.none).all.length<=(q.sf.getD i Sf.none).all.length
 cut:∀i,(p.sf.getD i Sf.none).cut<=(q.sf.getD i Sf.none).cut
 told:∀i j,j<5->(p.told.getD i aj.zero).get j<=(q.told.getD i aj.zero).get j
theorem ef.refl(p:aR):ef p p:=⟨rfl,λ_=>bj _,λ_=>bj _,λ_ _ _=>eH _⟩
theorem ef.trans{p q s:aR}(h:ef p q)(k:ef q s):ef p s:=⟨h.n.trans k.n,λi=>za (h.all i) (k.all i),λi=>za (h.cut i) (k.cut i),λi j a=>Int.le_trans (h.told i j a) (k.told i j a)⟩
theorem YP(s:Sf)(n:Int):s.cut<=(s.to n).cut/\(s.to n).all=s.all:=by refine⟨?_,rfl⟩;show s.cut<=(max (s.cut:Int) (min n s.all.length)).toNat;omega
theorem M8(p:aR)(s:Nat):ef p (p.cutAt s):=by
 have h:∀i,(p.sf.getD i Sf.none).all.length<=((p.cutAt s).sf.getD i Sf.none).all.length/\(p.sf.getD i Sf.none).cut<=((p.cutAt s).sf.getD i Sf.none).cut:=λi=>by
  rw[CE];split
  ·rename_i h;obtain⟨rfl,_⟩:=h;have:=YP (p.sf.getD s Sf.none) (fk p.told s);rw[this.2];exact⟨bj _,this.1⟩
  ·exact⟨bj _,bj _⟩
 exact⟨(CY p s).symm,λi=>(h i).1,λi=>(h i).2,λ_ _ _=>eH _⟩
theorem Mc(p:aR):∀k,ef p (p.eP k)
 |0=>ef.refl p
 |k+1=>(Mc p k).trans (M8 _ k)
theorem Z1(most:Int)(p:aR)(r:Int)(l:List Ev):ef p (p.dC most r l).2.2:=by
 unfold aR.dC;split
 ·exact ef.refl p
 split
 ·exact ef.refl p
 ·refine ef.trans ?_ (M8 _ _);refine⟨(iw ..).symm,λi=>?_,λi=>?_,λ_ _ _=>eH _⟩
  ·show _<=((p.sf.set _ _).getD i Sf.none).all.length;rw[rR];split
   ·rename_i h;rw[<-h.1];simp only[bo];omega
   ·exact bj _
  ·show _<=((p.sf.set _ _).getD i Sf.none).cut;rw[rR];split
   ·rename_i h;rw[<-h.1];exact bj _
   ·exact bj _
theorem Qy(p:aR)(r:Int)(c:aj):ef p (p.bK r c).2:=by
 unfold aR.bK;split
 ·exact ef.refl p
 ·refine ef.trans ?_ (Mc (⟨p.told.set r.toNat ((p.told.getD r.toNat aj.zero).join c),p.sf⟩:aR) p.sf.length);refine⟨rfl,λ_=>bj _,λ_=>bj _,λi j a=>?_⟩;show _<=((p.told.set _ _).getD i aj.zero).get j;rw[rR];split
  ·rename_i h;rw[<-h.1,aj.HK _ _ _ a];omega
  ·exact eH _
theorem ZE(c:aJ)(p:aR)(x:aF):ef p (iz c p x):=by
 unfold iz;split
 ·exact Z1 ..
 ·split
  ·exact Qy ..
  ·exact ef.refl p
theorem Bd(st:aY)(x:aF):ef (cU c st.aE) (cU c (st.write x).1.aE):=by
 rcases IM st x with a|a
 ·rw[a];exact ef.refl _
 ·rw[a,sE];exact ZE ..
theorem U6(c:aJ)(st:aY)(f:aF×Int):ef (cU c st.aE) (cU c (st.take c f).1.aE):=by
 unfold aY.take;split
 ·exact ef.refl _
 split
 ·exact ef.refl _
 split
 ·exact ef.refl _
 split
 ·unfold aY.push;split
  ·exact ef.refl _
  split
  ·exact ef.refl _
  split
  ·exact Bd st _
  ·exact Bd st _
 split
 ·exact ef.refl _
 split
 ·unfold aY.bK;split
  ·exact ef.refl _
  split
  ·exact ef.refl _
  split
  ·exact Bd st _
  ·exact Bd st _
 ·exact ef.refl _
structure jv(c:aJ)(w v:aD):Prop where
 nd:∀r:Int,w.has r->fa (replay (w.node r).aE) (replay (v.node r).aE)
 aO:ef (cU c w.aO.aE) (cU c v.aO.aE)
theorem jv.refl(c:aJ)(w:aD):jv c w w:=⟨λ_ _=>fa.refl _,ef.refl _⟩
theorem jv.aZ{c:aJ}{w:aD}{r:Int}{s:aG}(b:w.has r)(h:fa (replay (w.node r).aE) (replay s.aE)):jv c w (w.aZ r s):=by
 refine⟨λq a=>?_,ef.refl _⟩;rw[pA b s q a.1];split
 ·rename_i e;rw[e];exact h
 ·exact fa.refl _
theorem Mx(g:bO k c w)(d:Int)(f:aF×Int):jv c w (w.eJ c d f).1:=by
 unfold aD.eJ;split
 ·rename_i b;exact jv.aZ b (Te (g.nd d b) f)
 ·have a:=U6 c w.aO f;simp only;split
  ·exact⟨λ_ _=>fa.refl _,a⟩
  ·exact⟨λ_ _=>fa.refl _,a⟩
theorem SS(g:bO k c w)(s:cB):jv c w (w.eC c s).1:=by
 unfold aD.eC;split
 ·simp only;split
  ·split
   ·exact jv.refl c w
   ·exact⟨λ_ _=>fa.refl _,ef.refl _⟩
  ·split
   ·exact Mx g _ _
   ·have a:bO k c {w with fl:=dQ w.fl s.at_}:=⟨g.n,g.nd,g.aO,by have:=g.fl.1;have:=tE w.fl s.at_;show(dQ w.fl s.at_).length<=k;omega,λy hy=>g.fl.2 y (vm hy)⟩;have h:=Mx a (w.fl.getD s.at_.toNat (0,aF.zero)).1 (if s.kind=7 then kE (w.fl.getD s.at_.toNat (0,aF.zero)).2 s.bit s.mask else((w.fl.getD s.at_.toNat (0,aF.zero)).2,0));exact⟨h.nd,h.aO⟩
 ·exact jv.refl c w
theorem NO(st:aG)(c:aJ)(r:Int):(st.start c r).1.aE=st.aE:=by unfold aG.start;split<;>rfl
theorem Yr(st:aY)(c:aJ):(st.start c).1.aE=st.aE:=by unfold aY.start;split<;>rfl
theorem UG(w:aD)(s:cB):jv c w (w.dj c s).1:=by
 unfold aD.dj;split
 ·rename_i a;split
  ·exact jv.aZ a (fa.refl _)
  ·split
   ·exact jv.aZ a (by rw[NO];exact fa.refl _)
   ·exact jv.aZ a (fa.refl _)
 ·split
  ·split
   ·exact⟨λ_ _=>fa.refl _,ef.refl _⟩
   ·split
    ·exact⟨λ_ _=>fa.refl _,by show ef _ (cU c (w.aO.start c).1.aE);rw[Yr];exact ef.refl _⟩
    ·exact⟨λ_ _=>fa.refl _,ef.refl _⟩
  ·exact jv.refl c w
theorem Vl(g:bO k c w)(s:cB):jv c w (w.step c s).1/\(s.kind=0->(w.step c s).2=0->w.has s.r/\(cr (replay ((w.step c s).1.node s.r).aE).1).get s.r.toNat=(cr (replay (w.node s.r).aE).1).get s.r.toNat+1):=by
 unfold aD.step;split
 ·exact⟨SS g s,λh=>by omega⟩
 split
 ·exact⟨UG w s,λh=>by omega⟩
 split
 ·exact⟨jv.refl c w,λ_ h=>by cases h⟩
 rename_i a;have a:w.has s.r:=by
  by_cases f:w.has s.r
  ·exact f
  ·exact absurd f a
 have gn:=g.nd s.r a;split
 ·have e:=TO gn s.ed;refine⟨jv.aZ a e.1,λ_ b=>⟨a,?_⟩⟩;rw[pA a _ _ a.1,an rfl];exact e.2 b
 rename_i b;refine⟨?_,λh=>absurd h b⟩;have d:∀p,jv c w (w.send p).1:=λp=>by
  unfold aD.send;simp only;split
  ·exact⟨λ_ _=>fa.refl _,ef.refl _⟩
  ·exact jv.refl c w
 split
 ·exact d _
 split
 ·exact d _
 split
 ·exact d _
 split
 ·exact jv.aZ a (X1 gn)
 ·exact jv.refl c w
end
section
structure Lg where
 v:Nat->Value
 l:Nat->List Mk
 o:∀i,(v i).oneCell'=true
structure Z5(h h2:ki):Prop where
 base:∀i,i<5->h.s.base.get i<=h2.s.base.get i
 len:∀i,i<5->h.s.len.get i<=h2.s.len.get i
 a0:∀i,i<5->h.s.a0.get i<=h2.s.a0.get i
 a1:∀i,i<5->h.s.a1.get i<=h2.s.a1.get i
 a2:∀i,i<5->h.s.a2.get i<=h2.s.a2.get i
 a3:∀i,i<5->h.s.a3.get i<=h2.s.a3.get i
 a4:∀i,i<5->h.s.a4.get i<=h2.s.a4.get i
structure KI(c:aJ)(w:aD)(q:Lg)(ke ks:aj)(hb:ki):Prop where
 k0:∀i,i<5->0<=ke.get i
 lg:∀i:Nat,w.has (i:Int)->q.l i<+:(replay (w.node i).aE).1.map Ev.cj
 ks:∀i:Nat,w.has (i:Int)->ks.get i<=(replay (w.node i).aE).2
 ke:∀i:Nat,w.has (i:Int)->ke.get i<=(cr (replay (w.node i).aE).1).get i
 hb:∃p,ef p (cU c w.aO.aE)/\hb=⟨hb.up,p.site⟩
end
end Go.Proofs.YtogcfijlhpaeeaaGreat
