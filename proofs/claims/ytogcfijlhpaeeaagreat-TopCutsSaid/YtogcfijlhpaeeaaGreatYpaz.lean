/- Texts. No condition. -/
import Derived.Test.YtogcfijlhpaeeaaGreatYpah
open Go.RowKit Go.Proofs.Tryz
set_option linter.all false
set_option maxHeartbeats 32000000
namespace Go.Proofs.YtogcfijlhpaeeaaGreat
variable{k g n:Nat}{t:TypeId}{c:aJ}{x:Operand}{ss:List Sh}{tl:List aj}
section
@[reducible] def cL(g:Nat)(c:aJ)(ss:List Sh)(tl:List aj):aa:=ao g 308 (ab.cells c++cellsOf (ss.map λs=>Ptr.mk s.g)++cellsOf tl)
@[reducible] def dp(most:Int)(ss:List Sh):aa:=eY (kj most) kK ss
@[reducible] def om(most:Int)(ss:List Sh)(i:Nat):aa:=mh (kj most) kK ss i
theorem vi{s:Nat}(a:s<ss.length)(M:List aa):Sub (kj c.w (ss[s]'a)::kK (ss[s]'a)::om c.w ss s::cL g c ss tl::M) (cL g c ss tl::dp c.w ss::M):=
 cW [1] rfl (eY.focus (B:=kj c.w) (C:=kK) _ a)
theorem Cy{s:Nat}{x:Sh}(a:s<ss.length)(b:x.g=(ss[s]'a).g)(M:List aa):Sub (cL g c (ss.set s x) tl::dp c.w (ss.set s x)::M) (kj c.w x::kK x::om c.w ss s::cL g c ss tl::M):=by refine ar ?_ (eY.qt (B:=kj c.w) (C:=kK) x _ a);unfold cL;rw[KQ a b];exact cW [1] rfl (bW _)
theorem BN{s:Nat}(a:s<ss.length)(M:List aa):Sub (cL g c ss tl::dp c.w ss::M) (kj c.w (ss[s]'a)::kK (ss[s]'a)::om c.w ss s::cL g c ss tl::M):=by have:=Cy (g:=g) (c:=c) (tl:=tl) a (x:=ss[s]'a) rfl M;rwa[qB]at this
section
variable{P:Program}{f:Nat->Value}{L:List aa}{d:Nat}{ty:TypeId}{pos:String}{af:Array Edge}{gd:Option (Nat×Bool)}
theorem sk(i:Nat){j:Nat}(hx:aH f x=.pointer (some ⟨g,6+j*1,none⟩))(hi:L[i]?=some (cL g c ss tl))(b:cR P t=some false)(a:j<ss.length):
  aP P ⟨some d,.load t x,ty,pos,af,gd⟩ f L (.pointer (some ⟨(ss[j]'a).g,0,none⟩)):=by
 refine Hg (α:=Ptr) i (ss.map λs=>Ptr.mk s.g) (g:=g) (j:=j) (o:=6) (q:=0) (sz:=1) (pre:=ab.cells c) (post:=cellsOf tl) hx hi rfl rfl b rfl (by simpa using a) U ?_;rw[gT];rfl
theorem Oa(i:Nat){s:Nat}(e:ss.length=5)(hx:aH f x=.pointer (some ⟨g,11+k*5+s*1,none⟩))(hi:L[i]?=some (cL g c ss tl))(h:cR P t=some false)(a:k<tl.length)(b:s<5):
  aP P ⟨some d,.load t x,ty,pos,af,gd⟩ f L (.int .i64 ((tl[k]'a).get s)):=by
 rw[qh]at hx;exact Hg (α:=aj) i tl (g:=g) (j:=k) (o:=11) (q:=s) (sz:=5) (pre:=ab.cells c++cellsOf (ss.map λs=>Ptr.mk s.g)) (post:=[]) hx hi (by simp) (by rw[bo,cN,bC,e];rfl) h rfl a b (HF _ s b)
theorem GO(i:Nat)(b:ss.length=5)(hx:aH f x=.pointer (some ⟨g,11+k*5,none⟩))(hi:L[i]?=some (cL g c ss tl))(e:cR P t=some true)(h:P.cellsOf t=5)(a:k<tl.length):
  aP P ⟨some d,.load t x,ty,pos,af,gd⟩ f L (.agg (ab.cells (tl[k]'a)).toArray):=
 Qf (α:=aj) i tl (g:=g) (j:=k) (o:=11) (sz:=5) (pre:=ab.cells c++cellsOf (ss.map λs=>Ptr.mk s.g)) (post:=[]) hx hi (by simp) (by rw[bo,cN,bC,b];rfl) e h rfl a
theorem X6(i:Nat)(e:ss.length=5)(n:tl.length=5)(hx:aH f x=.pointer (some ⟨g,11,none⟩))(hi:L[i]?=some (cL g c ss tl))(h:cR P t=some true)(l:P.cellsOf t=25):
  aP P ⟨some d,.load t x,ty,pos,af,gd⟩ f L (.agg (cellsOf tl).toArray):=λF w s=>by
 have b:(cellsOf tl).length=25:=by rw[cN,n];rfl
 have m:(ab.cells c++cellsOf (ss.map λs=>Ptr.mk s.g)).length=11:=by rw[bo,cN,bC,e];rfl
 have:=vC (P:=P) w (t:=t) (a:=⟨g,11,none⟩) (cs:=cellsOf tl) h (by rw[l,b]) (by rw[b];omega) (λk u j=>by rw[iY];refine jz hi ?_ s;rw[AU U,m,show 11+k-11=k by omega];exact j);simp[execOp,hx,Instr.loadAt,Instr.sureAddr,this]
end
theorem Xi(b:0<n)(s:Nat):pC tl s n=fk (tl.take n) s:=by
 unfold pC fk;congr 1;cases tl with
 |nil=>simp
 |cons a t=>
  cases n with
  |zero=>omega
  |succ n=>rfl
set_option maxRecDepth 20000 attribute [local irreducible] Ex aM Fn bI bJ bV fin meet ch aX bZ aP aN aI Rd aK Row ao Sub bk bP bS bN bg bR Hid bY
attribute [local irreducible] eY mh
theorem Et(g:Nat)(c:aJ)(ss:List Sh)(tl:List aj)(r:Int)(M:List aa):Fn prog 258 #[.pointer (some ⟨g,0,none⟩),.int .i64 r] (cL g c ss tl::M)
  λv L'=>v=.bool (decide (0<=r/\r<c.n))/\L'=cL g c ss tl::M:=by
 refine fo func258 ntmps258 ?_;by_cases a:0<=r
 ·by_cases b:r<c.n
  ·rw[bf ⟨a,b⟩];exact bh
  ·rw[bd (λh=>b h.2)];exact bh
 ·rw[bd (λh=>a h.1)];exact bh
theorem JV(g:Nat)(c:aJ)(ss:List Sh)(tl:List aj)(s n:Nat)(M:List aa)(b:ss.length=5)(y:tl.length=5)(a:s<ss.length)(u:(n:Int)=c.n)(i:0<n)(w:n<=5)(l:(ss[s]'a).sf.Ok)(q:(ss[s]'a).sf.all.length<=100000000):
  Fn prog 260 #[.pointer (some ⟨g,0,none⟩),.int .i64 s] (cL g c ss tl::dp c.w ss::M)
  λ_ L'=>∃x:Sh,x.g=(ss[s]'a).g/\x.sf=(ss[s]'a).sf.to (fk (tl.take n) s)/\L'=cL g c (ss.set s x) tl::dp c.w (ss.set s x)::M:=by
 have e:s<5:=U;refine fo func260 ntmps260 ?_;refine rn ?_;(repeat(first|intro(g:Nat)|intro h));refine cH J J J (Oa 0 (k:=0) (s:=s) b J J J U e) ?_;rw[Nz s U];refine rn ?_;(repeat(first|intro(g:Nat)|intro h));refine bm [4,5] (λm f L'=>∃k:Nat,k<=n/\m=n-k/\f=[.int .i64 (pC tl s k),.int .i64 k]/\L'=cL g c ss tl::dp c.w ss::M) n ⟨0,U,rfl,rfl,rfl⟩ ?_;rintro m f o L' ⟨k,r,rfl,rfl,rfl⟩;refine bp [0,1,4,5] rG (λp=>?_);by_cases t:k<n
 ·refine rn ?_;(repeat(first|intro(g:Nat)|intro h));refine cH J J J (Oa 0 (k:=k) (s:=s) b J J J U e) ?_;refine rn ?_;(repeat(first|intro(g:Nat)|intro h));rw[<-I7 U];refine rn ?_;(repeat(first|intro(g:Nat)|intro h));exact aS ⟨n-(k+1),_,U,rB,k+1,U,rfl,av rfl (av (aQ U) rfl),rfl⟩
 ·obtain rfl:k=n:=U;rw[Xi i];refine rn ?_;(repeat(first|intro(g:Nat)|intro h));refine cH J J J (sk 0 (j:=s) J J J a) ?_;refine rn ?_;(repeat(first|intro(g:Nat)|intro h));refine cb (L':=kj c.w (ss[s]'a)::kK (ss[s]'a)::om c.w ss s::cL g c ss tl::M) ?_ (vi a M);unfold Sf.Ok at l;refine ca [] call293 (OM (ss[s]'a).g c.w (ss[s]'a).sf.cut (fk (tl.take k) s) (ss[s]'a).v (ss[s]'a).sf.all _ U) ?_;rintro _ _ rfl;refine rn ?_;intros;refine fr ?_;obtain⟨B,d⟩:∃B:Nat,(B:Int)=max ((ss[s]'a).sf.cut:Int) (min (fk (tl.take k) s) (ss[s]'a).sf.all.length):=⟨(max ((ss[s]'a).sf.cut:Int) (min (fk (tl.take k) s) (ss[s]'a).sf.all.length)).toNat,U⟩;have hx:(ss[s]'a).sf.to (fk (tl.take k) s)=⟨(ss[s]'a).sf.all,B⟩:=by unfold Sf.to;rw[<-d,dc]
  refine⟨_,?_,⟨(ss[s]'a).g,(ss[s]'a).v,(ss[s]'a).one,⟨(ss[s]'a).sf.all,B⟩⟩,rfl,hx.symm,rfl⟩;refine ar (Cy (x:=⟨(ss[s]'a).g,(ss[s]'a).v,(ss[s]'a).one,⟨(ss[s]'a).sf.all,B⟩⟩) a rfl M) ?_;rw[<-d];exact rB
end
section
set_option maxRecDepth 20000 attribute [local irreducible] Ex aM Fn bI bJ bV fin meet ch aX bZ aP aN aI Rd aK Row ao Sub bk bP bS bN bg bR Hid bY
section
attribute [local irreducible] eY mh du tC
theorem Rk(gp:Nat)(c:aJ)(ss:List Sh)(tl:List aj)(r:Int)(n:Nat)(x:aj)(M:List aa)(u:ss.length=5)(P:tl.length=5)(z:(n:Int)=c.n)(H:0<n)(I:n<=5)(L:∀x∈ss,x.sf.Ok/\x.sf.all.length<=100000000):
  Fn prog 207 #[.pointer (some ⟨gp,0,none⟩),.int .i64 r,.agg (ab.cells x).toArray] (cL gp c ss tl::dp c.w ss::M)
  λv L'=>(¬(0<=r/\r<n)/\v=.int .i64 23/\L'=cL gp c ss tl::dp c.w ss::M)\/
   ((0<=r/\r<n)/\v=.int .i64 0/\∃a:List Sh,qI ss ((tl.set r.toNat ((tl.getD r.toNat aj.zero).join x)).take n) n a/\L'=cL gp c a (tl.set r.toNat ((tl.getD r.toNat aj.zero).join x))::dp c.w a::M):=by
 refine fo func207 ntmps207 ?_;refine rn ?_;(repeat(first|intro(g:Nat)|intro(o:O1 _)|intro h));revert g;intro t;refine ca [1] call258 (Et gp c ss tl r _) ?_;rintro _ _ ⟨rfl,rfl⟩;rw[<-z];by_cases e:0<=r/\r<n
 ·rw[bf e];obtain⟨q,rfl⟩:=jF e.1;have d:q<tl.length:=U;refine rn ?_;(repeat(first|intro(o:O1 _)|intro h));refine Ex.Ng 14 [7] (ao t 50 (ab.cells x)::dp c.w ss::M) rfl rQ rQ rF ?_;refine me ?_;(repeat(first|intro(o:O1 _)|intro h));refine Hy J J J (GO 0 (k:=q) u J J J J d) ?_;refine me ?_;(repeat(first|intro(o:O1 _)|intro h));refine D5 J J J ?_;refine ca [] call208 (JA (tl[q]'d) x _) ?_;rintro _ _ ⟨rfl,rfl⟩;refine bn ?_;refine Fm rF ?_;refine me ?_;(repeat(first|intro(o:O1 _)|intro h));obtain⟨b,i⟩:∃b,b=tl.set q ((tl[q]'d).join x):=⟨_,rfl⟩;have C:tl.set (q:Int).toNat ((tl.getD (q:Int).toNat aj.zero).join x)=b:=by rw[i,dc];simp[cu,d]
  rw[C];refine D5 J J J ?_;refine YW (α:=aj) 0 tl (o:=11) (j:=q) (sz:=5) (pre:=ab.cells c++cellsOf (ss.map λs=>Ptr.mk s.g)) (post:=[]) (L':=cL gp c ss b::ao t 50 (ab.cells x)::dp c.w ss::M) J J (by simp) (by rw[bo,cN,bC,u];rfl) J J rfl d (by rw[<-i,ck];rfl) ?_;have Q:b.length=5:=by rw[i,iw];exact P
  clear i C;refine bn ?_;refine Fm rF ?_;refine me ?_;intros;refine rn ?_;intros;refine bF (L':=cL gp c ss b::dp c.w ss::M) ?_ rB;refine bm [7] (λm F L'=>∃(k:Nat) (a:List Sh),k<=n/\m=n-k/\qI ss (b.take n) k a/\F=[.int .i64 k]/\L'=cL gp c a b::dp c.w a::M) n ⟨0,ss,U,rfl,Kt ss _,rfl,rfl⟩ ?_;rintro m F V L' ⟨k,a,hk,rfl,f,rfl,rfl⟩;refine bp [0,7] rG (λW=>?_);have c8:=f.1;by_cases c9:k<n
  ·have l:k<ss.length:=U;have w:k<a.length:=U;have p:=(f.2 k l w).2;rw[ai U]at p;have A:=L _ (bT l);refine rn ?_;intros;refine ca [] call260 (JV gp c a b k n _ U Q w z H I (by rw[p];exact A.1) (by rw[p];exact A.2)) ?_;rintro _ _ ⟨y,S,R,rfl⟩;refine rn ?_;intros;exact aS ⟨n-(k+1),_,U,rB,k+1,a.set k y,U,rfl,JY f l S R,av (aQ U) rfl,rfl⟩
  ·obtain rfl:k=n:=U;refine rn ?_;intros;refine fr ?_;exact⟨_,rB,.inr ⟨e,rfl,a,f,rfl⟩⟩
 ·rw[bd e];refine rn ?_;intros;refine fr ?_;exact⟨_,rB,.inl ⟨e,rfl,rfl⟩⟩
theorem Za(gp:Nat)(c:aJ)(ss:List Sh)(tl:List aj)(u:Value)(r:Int)(n:Nat)(l:List Ev)(M:List aa)(h5:ss.length=5)(j5:tl.length=5)(S:(n:Int)=c.n)(e8:0<n)(e9:n<=5)(j3:∀x∈ss,x.sf.Ok/\x.sf.all.length<=10000000)
    (hu:aI M u l)(m7:l.length<=10000000)(hI:∀e∈l,cD e.n):
    Fn prog 204 #[.pointer (some ⟨gp,0,none⟩),.int .i64 r,u] (cL gp c ss tl::dp c.w ss::M)
    λv L'=>(pf n r l/\v=.tuple #[.int .i64 0,.int .i64 23]/\L'=cL gp c ss tl::dp c.w ss::M)\/
      (¬pf n r l/\∃h:r.toNat<ss.length,∃x:Sh,x.g=(ss[r.toNat]'h).g/\L'=cL gp c (ss.set r.toNat x) tl::dp c.w (ss.set r.toNat x)::M/\
        ((gJ c.w (ss[r.toNat]'h).sf l).1≠0/\v=.tuple #[.int .i64 0,.int .i64 (gJ c.w (ss[r.toNat]'h).sf l).1]/\x.sf=(ss[r.toNat]'h).sf\/
         (gJ c.w (ss[r.toNat]'h).sf l).1=0/\v=.tuple #[.int .i64 x.sf.all.length,.int .i64 0]/\x.sf=(⟨(ss[r.toNat]'h).sf.all++(gJ c.w (ss[r.toNat]'h).sf l).2,(ss[r.toNat]'h).sf.cut⟩:Sf).to (fk (tl.take n) r.toNat))):=by
  refine fo func204 ntmps204 ?_;refine rn ?_;(repeat(first|intro(g:Nat)|intro h));refine ca [] call258 (Et gp c ss tl r _) ?_;rintro _ _ ⟨rfl,rfl⟩;rw[<-S];obtain⟨C,L⟩:∃C,C=decide (0<=r/\r<(n:Int)):=⟨_,rfl⟩;rw[<-L];refine rn ?_;(repeat(first|intro(g:Nat)|intro h));refine bm [8,9] (λm c8 L'=>∃(k:Nat) (b:Bool),k<=l.length/\m=l.length-k/\(b=true↔(0<=r/\r<n)/\∀j (f:j<l.length),j<k->(l[j]'f).r=r)/\c8=[.bool b,.int .i64 k]/\L'=cL gp c ss tl::dp c.w ss::M) l.length ⟨0,C,U,rfl,by rw[L,kZ];exact⟨λh=>⟨h,λj _ f=>by omega⟩,λh=>h.1⟩,rfl,rfl⟩ ?_;rintro m c8 g1 L' ⟨k,b,hk,rfl,t,rfl,rfl⟩;clear L;refine bp [0,1,2,8,9] rG (λgk=>?_);by_cases R:k<l.length
  · cases b
    · refine rn ?_;(repeat(first|intro(g:Nat)|intro h));exact aS ⟨l.length-(k+1),_,U,rB,k+1,false,U,rfl,⟨(λh=>by cases h),λh=>t.2 ⟨h.1,λj f d9=>h.2 j f U⟩⟩,av rfl (av (aQ U) rfl),rfl⟩
    · obtain⟨P,ha⟩:=t.1 rfl;clear t;by_cases i:(l[k]'R).r=r
      · refine rn ?_;(repeat(first|intro(g:Nat)|intro h));exact aS ⟨l.length-(k+1),_,U,rB,k+1,true,U,rfl,⟨λ_=>⟨P,λj f d9=>by
          by_cases h:j=k
          · subst h;exact i
          · exact ha j f U⟩,λ_=>rfl⟩,av rfl (av (aQ U) rfl),rfl⟩
      · refine rn ?_;(repeat(first|intro(g:Nat)|intro h));exact aS ⟨l.length-(k+1),_,U,rB,k+1,false,U,rfl,⟨(λh=>by cases h),λh=>absurd (h.2 k R U) i⟩,av rfl (av (aQ U) rfl),rfl⟩
  · obtain rfl:k=l.length:=U;have F:b=true↔¬pf n r l:=by
      rw[t];unfold pf;constructor
      · rintro⟨h1,h2⟩ (h|⟨e,i,j0⟩)
        · exact h h1
        · obtain⟨j,f,rfl⟩:=la i;exact j0 (h2 j f f)
      · intro h;refine⟨nW λk=>h (.inl k),λj f _=>nW λk=>h (.inr ⟨_,bT f,k⟩)⟩
    clear t;cases b
    · refine rn ?_;(repeat(first|intro(g:Nat)|intro h));refine fr ?_;exact⟨_,rB,.inl ⟨nW (λh=>by have:=F.2 h;cases this),rfl,rfl⟩⟩
    · have I:=F.1 rfl;have P:0<=r/\r<n:=nW λk=>I (.inl k);clear F;obtain⟨q,rfl⟩:=jF P.1;have a:q<ss.length:=U;have j4:=j3 _ (bT a);unfold Sf.Ok at j4;obtain⟨p,o⟩:∃p,p=gJ c.w (ss[q]'a).sf l:=⟨_,rfl⟩;have V:jj c.w (ss[q]'a).sf.all.length ((ss[q]'a).sf.all.length-(ss[q]'a).sf.cut:Nat) l=p:=by rw[o]
      have m8:p.2.length<=l.length:=by rw[o];exact Ju _ _ _ _
      refine rn ?_;(repeat(first|intro(g:Nat)|intro h));refine cH J J J (sk 0 (j:=q) J J J a) ?_;refine rn ?_;(repeat(first|intro(g:Nat)|intro h));refine cb (L':=kj c.w (ss[q]'a)::kK (ss[q]'a)::om c.w ss q::cL gp c ss tl::M) ?_ (vi a M);refine bc [] J call259 rE J (WI (ss[q]'a).g c.w (ss[q]'a).sf.cut (ss[q]'a).v u (ss[q]'a).sf.all l _ rD hI U U U (ss[q]'a).one) ?_;rintro _ _ ⟨rfl,v1,o1,rfl⟩;rw[show((ss[q]'a).sf.all.length:Int)-(ss[q]'a).sf.cut=(((ss[q]'a).sf.all.length-(ss[q]'a).sf.cut:Nat):Int)by omega,V];obtain⟨d,z⟩:∃d:Sh,d=⟨(ss[q]'a).g,v1,o1,⟨(ss[q]'a).sf.all++p.2,(ss[q]'a).sf.cut⟩⟩:=⟨_,rfl⟩;have Q:d.g=(ss[q]'a).g:=by rw[z]
      have s:d.sf=⟨(ss[q]'a).sf.all++p.2,(ss[q]'a).sf.cut⟩:=by rw[z]
      refine cb (L':=cL gp c (ss.set q d) tl::dp c.w (ss.set q d)::M) ?_ (ar (Cy (x:=d) a Q M) (by rw[z];exact rB));clear z V;by_cases w:p.1=0
      · rw[w];have W:q<(ss.set q d).length:=by simpa using a
        have i:(ss.set q d)[q]'W=d:=xn _;refine rn ?_;(repeat(first|intro(g:Nat)|intro h));refine ca [] call260 (JV gp c (ss.set q d) tl q n _ (by simp;omega) j5 W S e8 e9 (by rw[i,s];unfold Sf.Ok;simp;omega) (by rw[i,s];simp;omega)) ?_;rintro _ _ ⟨x,c7,A,rfl⟩;rw[i]at c7 A;rw[pD];have y:q<(ss.set q x).length:=by simpa using a
        have H:(ss.set q x)[q]'y=x:=xn _;have j6:x.sf.all=(ss[q]'a).sf.all++p.2:=by rw[A,s];rfl
        have n9:x.sf.Ok:=by rw[A];exact Sf.Ck (by rw[s];unfold Sf.Ok;simp;omega) _
        have n8:x.sf.all.length<=20000000:=by rw[j6];simp;omega
        refine rn ?_;(repeat(first|intro(g:Nat)|intro h));refine cH J J J (sk 0 (j:=q) J J J y) ?_;rw[H];refine cb (L':=kj c.w x::kK x::om c.w (ss.set q x) q::cL gp c (ss.set q x) tl::M) ?_ (by have:=vi (g:=gp) (c:=c) (tl:=tl) y M;rwa[H]at this);refine rn ?_;(repeat(first|intro(g:Nat)|intro h));refine fr ?_;refine⟨_,(by have:=BN (g:=gp) (c:=c) (tl:=tl) y M;rwa[H]at this),.inr ⟨I,a,x,c7.trans Q,rfl,.inr ⟨by show(gJ c.w (ss[q]'a).sf l).1=0;rw[<-o];exact w,rfl,?_⟩⟩⟩;show x.sf=(⟨(ss[q]'a).sf.all++(gJ c.w (ss[q]'a).sf l).2,(ss[q]'a).sf.cut⟩:Sf).to (fk (tl.take n) q);rw[A,s,o]
      · refine rn ?_;intros;refine fr ?_;refine⟨_,bW _,.inr ⟨I,a,d,Q,rfl,.inl ⟨by show(gJ c.w (ss[q]'a).sf l).1≠0;rw[<-o];exact w,by show _=Value.tuple #[.int .i64 0,.int .i64 (gJ c.w (ss[q]'a).sf l).1];rw[<-o],?_⟩⟩⟩;show d.sf=(ss[q]'a).sf;have j1:p.2=[]:=by rw[o]at w⊢;exact IX w
        rw[s,j1,ck]
end
section
attribute [local irreducible] eY mh
theorem UE(gp:Nat)(c:aJ)(ss:List Sh)(tl:List aj)(r:Int)(n:Nat)(x:aj)(M:List aa)(z:ss.length=5)(t:(n:Int)=c.n)(L:n<=5)(l:∀x∈ss,x.sf.Ok/\x.sf.all.length<=10000000):
  Fn prog 206 #[.pointer (some ⟨gp,0,none⟩),.int .i64 r,.agg (ab.cells x).toArray] (cL gp c ss tl::dp c.w ss::M)
  λv L'=>∃u:Value,O1 u/\v=.tuple #[u,.int .i64 (if 0<=r/\r<n then 0 else 23)]/\L'=aL u (if 0<=r/\r<n then gx ss r x n else[])::cL gp c ss tl::dp c.w ss::M:=by
 refine fo func206 ntmps206 ?_;refine rn ?_;(repeat(first|intro(g:Nat)|intro(v:Value)|intro h));revert g;intro b;refine ca [1] call258 (Et gp c ss tl r _) ?_;rintro _ _ ⟨rfl,rfl⟩;rw[<-t];by_cases d:0<=r/\r<n
 ·rw[bf d,an d,an d];refine rn ?_;(repeat(first|intro(g:Nat)|intro(v:Value)|intro h));revert g;intro f;refine bF (L':=aL (.slice (some ⟨f,0,none⟩) 0 0) []::ao b 50 (ab.cells x)::cL gp c ss tl::dp c.w ss::M) ?_ (ar (cA (α:=Ev) (some ⟨f,0,none⟩) 80 _) (cW [1] rfl rB));refine bm [8,9] (λm p L'=>∃(k:Nat) (u:Value),k<=n/\m=n-k/\u.oneCell'=true/\p=[u,.int .i64 k]/\L'=aL u (gx ss r x k)::ao b 50 (ab.cells x)::cL gp c ss tl::dp c.w ss::M) n ⟨0,_,U,rfl,rfl,rfl,rfl⟩ ?_;rintro m p w L' ⟨k,u,H,rfl,o,rfl,rfl⟩;refine bp [0,1,5,8,9] rG (λy=>?_);by_cases I:k<n
  ·have a:k<ss.length:=U;have F:=EL (λx hx=>(l x hx).2) r x k U;have i:=l _ (bT a);unfold Sf.Ok at i;by_cases s:(k:Int)=r
   ·refine rn ?_;(repeat(first|intro(g:Nat)|intro(v:Value)|intro h));exact aS ⟨n-(k+1),_,U,rB,k+1,u,U,rfl,o,av rfl (av (aQ U) rfl),by simp only[gx];rw[ai U]⟩
   ·have A:=uw (x.get k) ((ss[k]'a).sf.all.drop (ss[k]'a).sf.cut);have C:((ss[k]'a).sf.all.drop (ss[k]'a).sf.cut).length=(ss[k]'a).sf.all.length-(ss[k]'a).sf.cut:=ew ..;have q:gx ss r x (k+1)=gx ss r x k++eT (x.get k) ((ss[k]'a).sf.all.drop (ss[k]'a).sf.cut):=by
     have e:ss.getD k Sh.zero=ss[k]'a:=by simp[cu,a]
     simp only[gx];rw[an s,e]
    refine rn ?_;(repeat(first|intro(g:Nat)|intro(v:Value)|intro h));refine bF (L':=kj c.w (ss[k]'a)::kK (ss[k]'a)::aL u (gx ss r x k)::om c.w ss k::cL gp c ss tl::ao b 50 (ab.cells x)::M) ?_ (ar (cW [2,2,4] rfl rB) (ar (vi (g:=gp) (c:=c) (tl:=tl) a (aL u (gx ss r x k)::ao b 50 (ab.cells x)::M)) (cW [3,3] rfl rB)));refine bU 12 (om c.w ss k::cL gp c ss tl::ao b 50 (ab.cells x)::M) rfl rQ rF ?_;refine mn ?_;(repeat(first|intro(g:Nat)|intro(v:Value)|intro h));refine fZ J J J (sk 1 (j:=k) J J J a) ?_;refine mn ?_;(repeat(first|intro(g:Nat)|intro(v:Value)|intro h));rw[sR,show(k:Int).toNat=k by omega];refine ma [] call261 (Yf (ss[k]'a).g c.w (x.get k) (ss[k]'a).sf.cut (ss[k]'a).v (ss[k]'a).sf.all _ U i.1 (ss[k]'a).one) ?_;rintro Q _ ⟨P,rfl⟩;refine bn ?_;refine br rF ?_;refine mn ?_;(repeat(first|intro(g:Nat)|intro(v:Value)|intro h));refine rn ?_;(repeat(first|intro(g:Nat)|intro(v:Value)|intro h));rw[<-q];exact aS ⟨n-(k+1),aL v (gx ss r x (k+1))::ao b 50 (ab.cells x)::cL gp c ss tl::dp c.w ss::M,U,ar (cW [3,3] rfl rB) (ar (BN (g:=gp) (c:=c) (tl:=tl) a (aL v (gx ss r x (k+1))::ao b 50 (ab.cells x)::M)) (cW [3,3,5,5] rfl rB)),k+1,v,U,rfl,by assumption,av rfl (av (aQ U) rfl),rfl⟩
  ·obtain rfl:k=n:=U;refine rn ?_;intros;refine fr ?_;exact⟨_,rB,u,o,rfl,rfl⟩
 ·rw[bd d,ai d,ai d];refine rn ?_;intros;refine fr ?_;exact⟨_,ar (bl _ rB) (cA (α:=Ev) none 80 _),.slice none 0 0,rfl,rfl,rfl⟩
theorem XO(h:tl.length=5):tl=[tl.getD 0 aj.zero,tl.getD 1 aj.zero,tl.getD 2 aj.zero,tl.getD 3 aj.zero,tl.getD 4 aj.zero]:=by
 match tl,h with
 |[a,b,c,d,e],_=>rfl
theorem Ii{A C:List Value}(ss:List Sh)(m:Nat)(z:Value)(x:Sh):(A++(cellsOf (ss.map λs=>Ptr.mk s.g)++List.replicate (m+1) z)++C).set (A.length+ss.length) (.pointer (some ⟨x.g,0,none⟩))=A++(cellsOf ((ss++[x]).map λs=>Ptr.mk s.g)++List.replicate m z)++C:=by
 have a:(cellsOf (ss.map λs=>Ptr.mk s.g)).length=ss.length:=by rw[cN,bC];simp[ab.sz]
 rw[dB,dB,BV _ _ U,dB,BV _ _ U,show A.length+ss.length-A.length-(cellsOf (ss.map λs=>Ptr.mk s.g)).length=0 by omega,CT,pY,pc,dA,nR];simp[cellsOf,ab.cells]
@[reducible] def tT(g:Nat)(c:aJ)(ss:List Sh)(m:Nat):aa:=ao g 308 (ab.cells c++(cellsOf (ss.map λs=>Ptr.mk s.g)++List.replicate m (.pointer none))++cellsOf (List.replicate 5 aj.zero))
theorem QM(c:aJ)(M:List aa):Fn prog 157 #[.agg (ab.cells c).toArray] M
  λv L'=>∃(g:Nat) (ss:List Sh),v=.pointer (some ⟨g,0,none⟩)/\ss.length=5/\(∀x∈ss,x.sf=Sf.none)/\L'=cL g c ss (List.replicate 5 aj.zero)::dp c.w ss::M:=by
 refine fo func157 ntmps157 ?_;refine rn ?_;(repeat(first|intro(g:Nat)|intro(cs:List Value)|intro(b:_=List.set _ _ _)|intro h));revert g;intro gp;revert g;intro a;refine bF (L':=tT gp c [] 5::ao a 23 (ab.cells c)::dp c.w []::M) ?_ (ar (bl _ (bl _ (eY.nil M))) rB);refine bm [4] (λm l L'=>∃(k:Nat) (ss:List Sh),k<=5/\m=5-k/\ss.length=k/\(∀x∈ss,x.sf=Sf.none)/\l=[.int .i64 k]/\L'=tT gp c ss (5-k)::ao a 23 (ab.cells c)::dp c.w ss::M) 5 ⟨0,[],U,rfl,rfl,by simp,rfl,rfl⟩ ?_;rintro m l o L' ⟨k,ss,q,rfl,f,j,rfl,rfl⟩;refine bp [1,3,4] rG (λp=>?_);by_cases r:k<5
 ·obtain⟨m,n⟩:∃m,5-k=m+1:=⟨4-k,U⟩;rw[n];refine rn ?_;(repeat(first|intro(g:Nat)|intro(cs:List Value)|intro(b:_=List.set _ _ _)|intro h));refine bU 10 (ao a 23 (ab.cells c)::dp c.w ss::M) rfl rQ rF ?_;refine mn ?_;(repeat(first|intro(g:Nat)|intro(cs:List Value)|intro(b:_=List.set _ _ _)|intro h));refine bX J J J ?_;have i:(ab.cells c++(cellsOf (ss.map λs=>Ptr.mk s.g)++List.replicate (m+1) (.pointer none))++cellsOf (List.replicate 5 aj.zero):List Value).length=36:=by simp only[bo,cN,bC,ju];show 6+(ss.length*1+(m+1))+5*5=36;omega
  refine uP 1 J J rE rN J (by rw[i];show 6+(k:Int).toNat*1<36;omega) (λcs b=>?_);obtain⟨x,hx⟩:∃x:Sh,x=⟨g,.slice none 0 0,rfl,Sf.none⟩:=⟨_,rfl⟩;have d:=Ii (A:=ab.cells c) (C:=cellsOf (List.replicate 5 aj.zero)) ss m (.pointer none) x;rw[hx]at d;rw[show 6+(k:Int).toNat*1=(ab.cells c).length+ss.length by rw[f];show _=6+k;omega,d,<-hx]at b;subst b;clear d i;refine bn ?_;refine br rF ?_;refine mn ?_;(repeat(first|intro(g:Nat)|intro h));refine rn ?_;(repeat(first|intro(g:Nat)|intro h));refine aS ⟨5-(k+1),tT gp c (ss++[x]) (5-(k+1))::ao a 23 (ab.cells c)::dp c.w (ss++[x])::M,U,?_,k+1,ss++[x],U,rfl,by simp[f],λy hy=>by
    rcases ct.1 hy with hy|hy
    ·exact j y hy
    ·rw[mJ.1 hy,hx],av (aQ U) rfl,rfl⟩
  rw[show 5-(k+1)=m by omega];refine ar (cW [2,2] rfl rB) (ar (eY.last (B:=kj c.w) (C:=kK) x (tT gp c (ss++[x]) m::ao a 23 (ab.cells c)::M)) ?_);subst hx;refine ar (cW [1] rfl rB) (ar (cA (α:=Ev) none 80 (kj c.w ⟨g,.slice none 0 0,rfl,Sf.none⟩::dp c.w ss::tT gp c (ss++[⟨g,.slice none 0 0,rfl,Sf.none⟩]) m::ao a 23 (ab.cells c)::M)) (cW [1,3] rfl rB))
 ·obtain rfl:k=5:=U;have e:tT gp c ss (5-5)=cL gp c ss (List.replicate 5 aj.zero):=by unfold tT cL;rw[show List.replicate (5-5) (Value.pointer none)=[]from rfl,ck]
  rw[e];refine rn ?_;intros;refine fr ?_;exact⟨_,rB,gp,ss,rfl,f,j,rfl⟩
end
end
end Go.Proofs.YtogcfijlhpaeeaaGreat
