/- Texts. No condition. -/
import Derived.Lib.AppendZeros
import Derived.Test.YtogcfijlhpaeeaaGreatYpaf
open Go.RowKit Go.Proofs.Tryz
set_option linter.all false
set_option maxHeartbeats 32000000
namespace Go.Proofs.YtogcfijlhpaeeaaGreat
variable{i o:Nat}{t e xt:TypeId}{x y:Operand}{L1:List aa}{v:Value}{us fs:List Value}{f0:Nat->Value}{A:List Ev}{q:List UInt8}{k':IntKind}{fn:FuncId}{R:Value->List aa->Prop}{ts:Array TypeId}{dd:Option Nat}{aC:Nat->List UInt8}
section
theorem nq.two{q:Ev->Bool}{A B:aa}(h:∀(a:Ev) (M:List aa),Fn prog fn (([]:List Value)++[Value.agg (ab.cells a).toArray]++us).toArray (A::B::M) λr L'=>r=.bool (q a)/\L'=A::B::M):nq fn us q (jf A B):=λa M=>
 Fn.dD (wV (h a M) (vR A B M)) (λv L' ⟨c,b⟩=>⟨_,b▸qn A B M,c,rfl⟩)
set_option maxRecDepth 20000 attribute [local irreducible] Ex aM Fn bI bJ bV fin meet ch aX bZ aP aN aI Rd aK Row ao Sub bk bP bS bN bg bR Hid bY
section
def wu(fn:FuncId)(s:Ev->Ev->Bool):Prop:=∀(a b:Ev) (M:List aa),Fn prog fn (([]:List Value)++[Value.agg (ab.cells a).toArray,Value.agg (ab.cells b).toArray]++[]).toArray M λr L'=>r=.bool (s a b)/\L'=M
theorem zF:wu 266 ee:=λa b M=>by refine fo func266 ntmps266 ?_;refine rn ?_;intros;refine fr ?_;exact⟨_,rB,by unfold ee;rfl,rfl⟩
theorem UN(a b:Ev)(M:List aa):Fn prog 309 #[.agg (ab.cells a).toArray,.agg (ab.cells b).toArray] M λr L'=>r=.bool (pz a b)/\L'=M:=by
 refine fo func309 ntmps309 ?_;refine rn ?_;intros;refine ca [] call266 (zF a b _) ?_;rintro _ _ ⟨rfl,rfl⟩;unfold pz;cases h:ee a b with
 |true=>
  exact bh
 |false=>exact bh
theorem V6:wu 268 lx:=λa b M=>by
 refine fo func268 ntmps268 ?_;refine rn ?_;intros;refine ca [] call309 (UN a b _) ?_;rintro _ _ ⟨rfl,rfl⟩;unfold lx;cases h:pz a b with
 |true=>
  exact bh
 |false=>exact bh
@[reducible] def qK(k:Int)(fn:FuncId):List Value:=[.int .i64 k,.func (.func fn) #[] #[]]
theorem Tl(c d:Nat)(k:Int)(fn:FuncId)(s:Ev->Ev->Bool)(g:wu fn s)(f:∀(xs:Array Value) (w:World),(callFunc fn xs).run prog w=.ok (.enter fn xs) w)(e:Ev):
  nq 307 [.pointer (some ⟨c,0,none⟩),.pointer (some ⟨d,0,none⟩)] (λa=>decide (a.ed.kind=k)&&s a e&&e.dq a) (jf (ao c 353 (qK k fn)) (ao d 80 (ab.cells e))):=nq.two λa M=>by
 refine fo func307 ntmps307 ?_;by_cases b:a.ed.kind=k
 ·refine rn ?_;intros;refine iL [] (xs:=[.tmp 13,.tmp 14]) (fs:=[]) (us:=[]) (vs:=[.agg (ab.cells a).toArray,.agg (ab.cells e).toArray]) J J f rE J (g a e _) ?_;rintro _ _ ⟨rfl,rfl⟩;cases hse:s a e with
  |true=>
   refine rn ?_;intros;refine ca [] call308 (Bm e a _) ?_;rintro _ _ ⟨rfl,rfl⟩;refine rn ?_;intros;refine fr ?_;exact⟨_,rB,by simp only[b,hse,uH,pK];rfl,rfl⟩
  |false=>refine rn ?_;intros;refine fr ?_;exact⟨_,rB,by simp only[b,hse,uH,pK,sb],rfl⟩
 ·refine rn ?_;intros;refine fr ?_;exact⟨_,rB,by simp[b],rfl⟩
theorem ZG(c d:Nat)(k:Int)(fn:FuncId)(s:Ev->Ev->Bool)(g:wu fn s)(f:∀(xs:Array Value) (w:World),(callFunc fn xs).run prog w=.ok (.enter fn xs) w)(e:Ev):
  nq 310 [.pointer (some ⟨c,0,none⟩),.pointer (some ⟨d,0,none⟩)] (λa=>decide (a.ed.kind=k)&&s a e&&a.dq e) (jf (ao c 353 (qK k fn)) (ao d 80 (ab.cells e))):=nq.two λa M=>by
 refine fo func310 ntmps310 ?_;by_cases b:a.ed.kind=k
 ·refine rn ?_;intros;refine iL [] (xs:=[.tmp 13,.tmp 14]) (fs:=[]) (us:=[]) (vs:=[.agg (ab.cells a).toArray,.agg (ab.cells e).toArray]) J J f rE J (g a e _) ?_;rintro _ _ ⟨rfl,rfl⟩;cases hse:s a e with
  |true=>
   refine rn ?_;intros;refine ca [] call308 (Bm a e _) ?_;rintro _ _ ⟨rfl,rfl⟩;refine rn ?_;intros;refine fr ?_;exact⟨_,rB,by simp only[b,hse,uH,pK];rfl,rfl⟩
  |false=>refine rn ?_;intros;refine fr ?_;exact⟨_,rB,by simp only[b,hse,uH,pK,sb],rfl⟩
 ·refine rn ?_;intros;refine fr ?_;exact⟨_,rB,by simp[b],rfl⟩
theorem K9(v0:Value)(l:List Ev)(e:Ev)(k:Int)(fn:FuncId)(s:Ev->Ev->Bool)(M:List aa)(f:wu fn s)(d:∀(xs:Array Value) (w:World),(callFunc fn xs).run prog w=.ok (.enter fn xs) w)(c:aI M v0 l)(b:l.length<=1000000000):
  Fn prog 267 #[.agg (qK k fn).toArray,v0,.agg (ab.cells e).toArray] M λr L'=>r=.bool (fU k s l e)/\L'=M:=by
 refine fo func267 ntmps267 ?_;refine rn ?_;(repeat(first|intro(g:Nat)|intro h));rename_i a;refine cb (L':=jf (ao a 353 (qK k fn)) (ao g 80 (ab.cells e))::M) ?_ (ar (qn _ _ M) (cW [1] rE (bW _)));refine ca [] call306 (Ec 307 [.pointer (some ⟨a,0,none⟩),.pointer (some ⟨g,0,none⟩)] _ _ (Tl a g k fn s f d e) call307 v0 l M (c.sub rB) b) ?_;rintro _ _ ⟨rfl,rfl⟩;exact bh
theorem N5(v0:Value)(l:List Ev)(e:Ev)(k:Int)(fn:FuncId)(s:Ev->Ev->Bool)(M:List aa)(f:wu fn s)(d:∀(xs:Array Value) (w:World),(callFunc fn xs).run prog w=.ok (.enter fn xs) w)(c:aI M v0 l)(b:l.length<=1000000000):
  Fn prog 269 #[.agg (qK k fn).toArray,v0,.agg (ab.cells e).toArray] M λr L'=>r=.bool (oP k s l e)/\L'=M:=by
 refine fo func269 ntmps269 ?_;refine rn ?_;(repeat(first|intro(g:Nat)|intro h));rename_i a;refine cb (L':=jf (ao a 353 (qK k fn)) (ao g 80 (ab.cells e))::M) ?_ (ar (qn _ _ M) (cW [1] rE (bW _)));refine ca [] call306 (Ec 310 [.pointer (some ⟨a,0,none⟩),.pointer (some ⟨g,0,none⟩)] _ _ (ZG a g k fn s f d e) call310 v0 l M (c.sub rB) b) ?_;rintro _ _ ⟨rfl,rfl⟩;exact bh
theorem Wz(v0:Value)(l:List Ev)(M:List aa)(t:aI M v0 l)(s:l.length<=1000000):
  Fn prog 229 #[v0] M λr L'=>O1 r/\L'=aL r (fi l)::M:=by
 refine fo func229 ntmps229 ?_;refine rn ?_;(repeat(first|intro(g:Nat)|intro(v:Value)|intro h));revert g;intro k;obtain⟨q,d⟩:∃q:Ev->Bool,q=λe=>decide (e.ed.kind=1)&&!fU 2 ee l e:=⟨_,rfl⟩;rw[show fi l=l.filter q by rw[d];rfl];refine bF ?_ (cA (α:=Ev) none 80 _);refine bm [4,10] (λz vs L'=>∃(i:Nat) (v:Value),i<=l.length/\z=l.length-i/\v.oneCell'=true/\vs=[v,.int .i64 i]/\L'=aL v ((l.take i).filter q)::ao k 353 (qK 2 266)::M) l.length ⟨0,_,U,rfl,rfl,rfl,rfl⟩ ?_;rintro z vs o n ⟨i,v,hi,rfl,f,rfl,rfl⟩;refine bp [0,3,4,8,9,10] rG (λp=>?_);by_cases a:i<l.length
 ·have m:=jJ q (l.take i);rw[dy]at m;have b:(l.take (i+1)).filter q=(l.take i).filter q++(if q (l[i]'a)=true then[l[i]'a]else[]):=by rw[da a,lD];congr 1;simp only[ot,uI]
  by_cases j:(l[i]'a).ed.kind=1
  ·refine rn ?_;(repeat(first|intro(v:Value)|intro h));refine bc [] J call267 J J (K9 v0 l (l[i]'a) 2 266 ee _ zF call266 rD U) ?_;rintro _ _ ⟨rfl,rfl⟩;have c:q (l[i]'a)=!fU 2 ee l (l[i]'a):=by rw[d];simp[j]
   cases hb:fU 2 ee l (l[i]'a)with
   |false=>
    rw[hb]at c;rw[c]at b;simp only[ui,jn]at b;refine rn ?_;(repeat(first|intro(v:Value)|intro h));rw[<-b];exact aS ⟨l.length-(i+1),_,U,rB,i+1,_,U,rfl,by assumption,av rfl (av (aQ U) rfl),rfl⟩
   |true=>rw[hb]at c;rw[c]at b;simp only[yv,od,oz,ck]at b;refine rn ?_;(repeat(first|intro(v:Value)|intro h));rw[<-b];exact aS ⟨l.length-(i+1),_,U,rB,i+1,v,U,rfl,f,av rfl (av (aQ U) rfl),rfl⟩
  ·have c:q (l[i]'a)=false:=by rw[d];simp[j]
   rw[c]at b;simp only[od,oz,ck]at b;refine rn ?_;(repeat(first|intro(v:Value)|intro h));rw[<-b];exact aS ⟨l.length-(i+1),_,U,rB,i+1,v,U,rfl,f,av rfl (av (aQ U) rfl),rfl⟩
 ·obtain rfl:i=l.length:=U;rw[dI];refine rn ?_;intros;refine fr ?_;exact⟨_,rB,f,rfl⟩
end
section
theorem WA(v0 j:Value)(l c:List Ev)(M:List aa)(I:aI M v0 l)(A:aI M j c)(H:l.length<=1000000)(C:c.length<=1000000):
  Fn prog 230 #[v0,j] M λr L'=>O1 r/\L'=aL r (ph l c)::M:=by
 refine fo func230 ntmps230 ?_;refine rn ?_;(repeat(first|intro(g:Nat)|intro(v:Value)|intro(o:O1 _)|intro(cs:List Value)|intro(F:_=List.set _ _ _)|intro(zs:List _)|intro h));rename_i s;revert g;intro t;obtain⟨q,e⟩:∃q:Ev->Bool,q=iF l c:=⟨_,rfl⟩;rw[show ph l c=l.filter q by rw[e];rfl];refine bF ?_ (cA (α:=Ev) none 80 _);refine bm [7,14] (λz vs L'=>∃(i:Nat) (v:Value),i<=l.length/\z=l.length-i/\v.oneCell'=true/\vs=[v,.int .i64 i]/\L'=aL v ((l.take i).filter q)::ao t 353 (qK 5 268)::ao s 353 (qK 1 266)::M) l.length ⟨0,_,U,rfl,rfl,rfl,rfl⟩ ?_;rintro z vs x w ⟨i,v,hi,rfl,d,rfl,rfl⟩;refine bp [0,1,5,6,7,12,13,14] rG (λy=>?_);by_cases a:i<l.length
 ·have u:=jJ q (l.take i);rw[dy]at u;have m:(l.take (i+1)).filter q=(l.take i).filter q++(if q (l[i]'a)=true then[l[i]'a]else[]):=by rw[da a,lD];congr 1;simp only[ot,uI]
  have p:q (l[i]'a)=true->(l.take (i+1)).filter q=(l.take i).filter q++[l[i]'a]:=λh=>by rw[m,an h]
  have f:q (l[i]'a)=false->(l.take (i+1)).filter q=(l.take i).filter q:=λh=>by rw[m,h];simp
  clear m;by_cases k:(l[i]'a).ed.kind=3
  ·have b:q (l[i]'a)=oP 1 ee c (l[i]'a):=by rw[e];unfold iF;rw[an k]
   refine rn ?_;(repeat(first|intro(v:Value)|intro h));refine bc [] J call269 J J (N5 j c (l[i]'a) 1 266 ee _ zF call266 rD U) ?_;rintro _ _ ⟨rfl,rfl⟩;cases hb:oP 1 ee c (l[i]'a)with
   |true=>
    refine rn ?_;(repeat(first|intro(v:Value)|intro h));rw[<-p (b.trans hb)];exact aS ⟨l.length-(i+1),_,U,rB,i+1,_,U,rfl,by assumption,av rfl (av (aQ U) rfl),rfl⟩
   |false=>refine rn ?_;(repeat(first|intro(v:Value)|intro h));rw[<-f (b.trans hb)];exact aS ⟨l.length-(i+1),_,U,rB,i+1,v,U,rfl,d,av rfl (av (aQ U) rfl),rfl⟩
  by_cases n:(l[i]'a).ed.kind=4
  ·have b:q (l[i]'a)=(oP 1 ee c (l[i]'a)&&!fU 5 lx l (l[i]'a)):=by rw[e];unfold iF;rw[ai k,an n]
   refine rn ?_;(repeat(first|intro(v:Value)|intro h));refine bc [] J call269 J J (N5 j c (l[i]'a) 1 266 ee _ zF call266 rD U) ?_;rintro _ _ ⟨rfl,rfl⟩;cases hb:oP 1 ee c (l[i]'a)with
   |true=>
    refine rn ?_;(repeat(first|intro(v:Value)|intro h));refine bc [] J call267 J J (K9 v0 l (l[i]'a) 5 268 lx _ V6 call268 rD U) ?_;rintro _ _ ⟨rfl,rfl⟩;rw[hb]at b;cases ha:fU 5 lx l (l[i]'a)with
    |false=>
     rw[ha]at b;refine rn ?_;(repeat(first|intro(v:Value)|intro h));rw[<-p b];exact aS ⟨l.length-(i+1),_,U,rB,i+1,_,U,rfl,by assumption,av rfl (av (aQ U) rfl),rfl⟩
    |true=>
     rw[ha]at b;refine rn ?_;(repeat(first|intro(v:Value)|intro h));rw[<-f b];exact aS ⟨l.length-(i+1),_,U,rB,i+1,v,U,rfl,d,av rfl (av (aQ U) rfl),rfl⟩
   |false=>rw[hb]at b;refine rn ?_;(repeat(first|intro(v:Value)|intro h));rw[<-f b];exact aS ⟨l.length-(i+1),_,U,rB,i+1,v,U,rfl,d,av rfl (av (aQ U) rfl),rfl⟩
  ·have b:q (l[i]'a)=false:=by rw[e];unfold iF;rw[ai k,ai n]
   refine rn ?_;(repeat(first|intro(v:Value)|intro h));rw[<-f b];exact aS ⟨l.length-(i+1),_,U,rB,i+1,v,U,rfl,d,av rfl (av (aQ U) rfl),rfl⟩
 ·obtain rfl:i=l.length:=U;rw[dI];refine rn ?_;intros;refine fr ?_;exact⟨_,rB,d,rfl⟩
end
section
set_option maxRecDepth 20000 in
instance:pV prog 228 fS:=⟨6,[.i .i64,.i .i64],by kernel_rfl,by kernel_rfl,by kernel_rfl,by kernel_rfl,λ_=>rfl,λa b h=>by obtain⟨c,d⟩:=a;obtain⟨e,f⟩:=b;simp only[ab.cells,jH,uh,qy,nV]at h;simp[h]⟩
instance:hQ prog 228 fS:=⟨⟨0,0⟩,by kernel_rfl,by kernel_rfl⟩
theorem RA(v0:Value)(l:List fS)(M:List aa)(w:aI M v0 l)(v:l.length<=1000000):
  Fn prog 270 #[v0] M λr L'=>r=.int .i64 (uX l)/\L'=M:=by
 refine fo func270 ntmps270 ?_;rcases l with _|⟨x,m⟩
 ·refine rn ?_;(repeat(first|intro(g:Nat)|intro h));refine fr ?_;exact⟨_,rB,rfl,rfl⟩
 obtain⟨l,d⟩:∃l,l=x::m:=⟨_,rfl⟩;have u:0<l.length:=by rw[d];simp
 have o:l[0]'u=x:=by subst d;rfl
 have k:uX (x::m)=(l.findIdx λs=>decide (s=iI x l):Nat):=by rw[d];rfl
 rw[k];rw[<-d]at w v;clear k;refine rn ?_;(repeat(first|intro(g:Nat)|intro h));revert g;intro f;rw[o];refine bm [16] (λz vs L'=>∃i:Nat,i<=l.length/\z=l.length-i/\vs=[.int .i64 i]/\L'=ao f 228 (ab.cells (iI x (l.take i)))::M) l.length ⟨0,U,rfl,rfl,rfl⟩ ?_;rintro z vs q p ⟨i,hi,rfl,rfl,rfl⟩;refine bp [0,3,14,15,16] rG (λt=>?_);by_cases a:i<l.length
 ·have c:iI x (l.take (i+1))=if(iI x (l.take i)).less (l[i]'a)then l[i]'a else iI x (l.take i):=by rw[da a,Jl]
  refine rn ?_;intros;refine ca [] call311 (Xb (iI x (l.take i)).h (iI x (l.take i)).r (l[i]'a).h (l[i]'a).r _) ?_;rintro _ _ ⟨rfl,rfl⟩;rw[show decide ((iI x (l.take i)).h<(l[i]'a).h\/((iI x (l.take i)).h=(l[i]'a).h/\(iI x (l.take i)).r<(l[i]'a).r))=(iI x (l.take i)).less (l[i]'a)from rfl];cases hb:(iI x (l.take i)).less (l[i]'a)with
  |true=>
   rw[hb,an rfl]at c;refine rn ?_;intros;rw[<-c];exact aS ⟨l.length-(i+1),_,U,rB,i+1,U,rfl,av (aQ U) rfl,rfl⟩
  |false=>rw[hb,ai (by simp)]at c;refine rn ?_;intros;rw[<-c];exact aS ⟨l.length-(i+1),_,U,rB,i+1,U,rfl,av (aQ U) rfl,rfl⟩
 ·obtain rfl:i=l.length:=U;rw[dI];obtain⟨y,hy⟩:∃y,y=iI x l:=⟨_,rfl⟩;rw[<-hy];have C:∃s∈l,decide (s=y)=true:=by
   rcases Eo l x with h|h
   ·exact⟨x,by rw[<-o];exact bT _,by rw[hy,h];simp⟩
   ·exact⟨_,h,by rw[hy];simp⟩
  refine rn ?_;intros;refine bm [27] (λz vs L'=>∃i:Nat,i<=l.length/\z=l.length-i/\(∀j (b:j<l.length),j<i->¬(l[j]'b)=y)/\vs=[.int .i64 i]/\L'=ao f 228 (ab.cells y)::M) l.length ⟨0,U,rfl,λj _ h=>by omega,rfl,rfl⟩ ?_;rintro z vs q p ⟨i,hi,rfl,e,rfl,rfl⟩;refine bp [3,25,26,27] rG (λt=>?_);by_cases a:i<l.length
  ·by_cases n:l[i]'a=y
   ·refine rn ?_;intros;refine fr ?_;refine⟨_,rB,?_,rfl⟩;rw[(List.findIdx_eq a).2 ⟨by simp[n],λj b=>by simp[e j U b]⟩]
   ·refine rn ?_;intros;exact aS ⟨l.length-(i+1),_,U,rB,i+1,U,rfl,λj b F=>by
     rcases mY j i with h|h
     ·exact e j b h
     ·have:j=i:=U;subst this;exact n,av (aQ U) rfl,rfl⟩
  ·exfalso;obtain⟨s,c,A⟩:=C;obtain⟨j,b,rfl⟩:=la c;exact e j b U (by simpa using A)
end
end
section
structure aJ where
 n:Int
 w:Int
 q:Int
 h:Int
 l:Int
 p:Int
instance:ab aJ:=⟨6,λc=>[.int .i64 c.n,.int .i64 c.w,.int .i64 c.q,.int .i64 c.h,.int .i64 c.l,.int .i64 c.p],by decide,λ_=>rfl,λ_=>rfl⟩
structure Ct where
 key:List UInt8
 FW:Bool
 Cv:Bool
 f0:List UInt8
 f1:List UInt8
 v0:Value
 o0:v0.oneCell'=true
 s0:List bQ
 v1:Value
 o1:v1.oneCell'=true
 s1:List bQ
instance:ab Ct:=⟨7,λc=>[.string (S c.key),.bool c.FW,.bool c.Cv,.string (S c.f0),.string (S c.f1),c.v0,c.v1],by decide,λ_=>rfl,λc=>by simp[c.o0,c.o1];exact⟨rfl,rfl,rfl,rfl,rfl⟩⟩
instance:hQ prog 75 Ct:=⟨⟨[],false,false,[],[],.slice none 0 0,rfl,[],.slice none 0 0,rfl,[]⟩,by kernel_rfl,by kernel_rfl⟩
def Ct.Rd(L:List aa)(c:Ct):Prop:=aI L c.v0 c.s0/\aI L c.v1 c.s1
theorem Ct.Rd.sub{L L':List aa}{c:Ct}(h:c.Rd L')(a:Sub L' L):c.Rd L:=⟨h.1.sub a,h.2.sub a⟩
def Ct.set(c:Ct)(a:Int):List bQ:=if a=0 then c.s0 else c.s1
def gW(n most:Int):Bool:=decide (1<=n/\n<=most)
def gS(c:aJ):Bool:=gW c.n 5&&gW c.w 4&&gW c.q 8&&gW c.h 20&&gW c.l 4&&gW c.p 3
def iK(l:List Ct)(k:List UInt8):Int:=if l.findIdx (λc=>decide (c.key=k))<l.length then(l.findIdx (λc=>decide (c.key=k)):Int)else-1
def np(l:List bQ)(v:List UInt8):Bool:=l.any λt=>decide (t.l=v)
def xg(P:Int)(c:Ct)(e:Ed):Int:=if e.kind=4 then(if P<=(c.set e.label).length then 15 else 0)else if e.kind=5 then(if np (c.set e.label) e.value=true then 0 else 16)else 0
def nj(L P:Int)(l:List Ct)(e:Ed):Int:=
 if e.err≠0 then e.err else
 if e.kind=1 then(if 0<=iK l e.key then 13 else if L<=l.length then 15 else 0)else
 if iK l e.key<0 then 14 else
 match l[(iK l e.key).toNat]? with
 |none=>14
 |some c=>xg P c e
theorem JD{l:List Ct}{k:List UInt8}(h:∀j (b:j<l.length),(l[j]'b).key≠k):iK l k=-1:=by unfold iK;rw[ai];intro a;have:=GD (w:=a);exact h _ a (rU this)
theorem Hv{l:List Ct}{k:List UInt8}(hi:i<l.length)(b:(l[i]'hi).key=k)(h:∀j (e:j<l.length),j<i->(l[j]'e).key≠k):iK l k=i:=by
 have d:l.findIdx (λc:Ct=>decide (c.key=k))=i:=by
  rcases EB (l.findIdx (λc:Ct=>decide (c.key=k))) i with a|a|a
  ·exact absurd (rU (GD (p:=λc:Ct=>decide (c.key=k)) (w:=Nat.lt_trans a hi))) (h _ U a)
  ·exact a
  ·have:=List.not_of_lt_findIdx a;simp[b]at this
 unfold iK;rw[d,an hi]
theorem Nd(l:List Ct)(k:List UInt8):iK l k<l.length/\-1<=iK l k:=by unfold iK;split<;>omega
theorem Kv{L P:Int}{l:List Ct}{e:Ed}(h:e.err≠0):nj L P l e=e.err:=by unfold nj;rw[an h]
theorem Lu{L P:Int}{l:List Ct}{e:Ed}(h:e.err=0)(a:e.kind=1):nj L P l e=if 0<=iK l e.key then 13 else if L<=l.length then 15 else 0:=by unfold nj;rw[ai U,an a]
theorem Iu{L P:Int}{l:List Ct}{e:Ed}(h:e.err=0)(a:e.kind≠1)(b:iK l e.key=-1):nj L P l e=14:=by unfold nj;rw[ai U,ai a,an U]
theorem IL{L P:Int}{l:List Ct}{e:Ed}(hi:i<l.length)(h:e.err=0)(a:e.kind≠1)(b:iK l e.key=i):nj L P l e=xg P (l[i]'hi) e:=by unfold nj;rw[ai U,ai a,ai U,b,dc,gV hi]
theorem Ed.LO{e:Ed}(h:e.err=0):1<=e.kind/\e.kind<=5/\(e.label=0\/e.label=1):=by
 unfold Ed.err at h;by_cases d:e.kind<1\/5<e.kind
 ·rw[an d]at h;omega
 ·rw[ai d]at h;by_cases b:iH e.key≠0
  ·rw[an b]at h;exact absurd h b
  ·rw[ai b]at h;refine⟨U,U,?_⟩;by_cases c:e.kind=1\/e.kind=2
   ·rw[an c]at h;by_cases a:e.label≠0
    ·rw[an a]at h;omega
    ·left;omega
   ·rw[ai c]at h;by_cases a:nm e.label≠0
    ·rw[an a]at h;exact absurd h a
    ·unfold nm at a;split at a
     ·omega
     ·exact absurd (by decide) a
end
section
def Ct.gK(c:Ct):eW:=⟨c.key,c.FW,c.Cv,c.f0,c.f1,c.s0.map (·.l),c.s1.map (·.l)⟩
@[reducible] def eL(a:List UInt8)(h:Nat->Bool)(f:Nat->List UInt8)(v:Nat->Value):List Value:=[.string (S a),.bool (h 0),.bool (h 1),.string (S (f 0)),.string (S (f 1)),v 0,v 1]
def dF{α:Type}(h:Nat->α)(i:Nat)(x:α):Nat->α:=λj=>if j=i then x else h j
theorem Xs{h:Nat->Bool}{f:Nat->List UInt8}{v:Nat->Value}(hi:i<2)(b:Bool)(a:o=1+i):(eL q h f v).set o (.bool b)=eL q (dF h i b) f v:=by subst a;have:i=0\/i=1:=U;rcases this with rfl|rfl<;>rfl
theorem Si{h:Nat->Bool}{f:Nat->List UInt8}{v:Nat->Value}(hi:i<2)(b:List UInt8)(a:o=3+i):(eL q h f v).set o (.string (S b))=eL q h (dF f i b) v:=by subst a;have:i=0\/i=1:=U;rcases this with rfl|rfl<;>rfl
theorem Ir{h:Nat->Bool}{f:Nat->List UInt8}{v:Nat->Value}(hi:i<2)(b:Value)(a:o=5+i):(eL q h f v).set o b=eL q h f (dF v i b):=by subst a;have:i=0\/i=1:=U;rcases this with rfl|rfl<;>rfl
theorem Jx{h h':Nat->Bool}{f:Nat->List UInt8}{v:Nat->Value}(a:∀j,j<2->h j=h' j)(b:∀j,j<2->f j=aC j)(c:∀j,j<2->v j=f0 j):eL q h f v=eL q h' aC f0:=by unfold eL;rw[a 0 U,a 1 U,b 0 U,b 1 U,c 0 U,c 1 U]
def lB(ss:Nat->List bQ)(w:Nat->Value)(M:List aa):Nat->List aa
 |0=>M
 |i+1=>aK (w i) 9 (ss i)::lB ss w M i
theorem Ft(ss:Nat->List bQ)(w:Nat->Value)(M:List aa)(i:Nat):lB ss w M (i+1)=aK (w i) 9 (ss i)::lB ss w M i:=rfl
theorem Qr(ss:Nat->List bQ)(w:Nat->Value)(M:List aa):lB ss w M 0=M:=rfl
theorem Mp(ss:Nat->List bQ)(w:Nat->Value)(M:List aa):∀i,Sub M (lB ss w M i)
 |0=>bW M
 |i+1=>iC _ (Mp ss w M i)
theorem Ld{ss:Nat->List bQ}{w w':Nat->Value}{M:List aa}:∀i,(∀j,j<i->w j=w' j)->lB ss w M i=lB ss w' M i
 |0,_=>rfl
 |i+1,h=>by show aK (w i) 9 (ss i)::lB ss w M i=aK (w' i) 9 (ss i)::lB ss w' M i;rw[h i U,Ld i (λj a=>h j U)]
theorem V7(a:List UInt8)(cq:Int)(ws:List Ev)(k:Nat)(h:k<ws.length):
  pF a cq (ws.take (k+1))=pF a cq (ws.take k)++(if(decide ((ws[k]'h).ed.key=a)&&decide ((ws[k]'h).ed.label=cq)&&decide ((ws[k]'h).ed.kind=3))=true then[ws[k]'h]else[])/\
  oH a cq (ws.take (k+1))=oH a cq (ws.take k)++(if(decide ((ws[k]'h).ed.key=a)&&decide ((ws[k]'h).ed.label=cq)&&!decide ((ws[k]'h).ed.kind=3))=true then[ws[k]'h]else[]):=by
 constructor
 ·unfold pF;rw[da h,lD];congr 1;simp only[ot,uI]
 ·unfold oH;rw[da h,lD];congr 1;simp only[ot,uI]
@[reducible] def mI(a:List UInt8)(cq:Int)(ws:List Ev):List bQ:=(oH a cq ws).map λe=>bQ.mk e.ed.value
@[reducible] def jd(a:List UInt8)(cq:Int)(ws:List Ev):List bQ:=(pF a cq ws).map λe=>bQ.mk e.ed.value
@[reducible] def jN(a:List UInt8)(cq:Int)(ws:List Ev):List fS:=(pF a cq ws).map λe=>⟨e.h,e.r⟩
theorem Jk(a:List UInt8)(cq:Int)(ws:List Ev):(pF a cq ws).length<=ws.length/\(oH a cq ws).length<=ws.length:=⟨jJ ..,jJ ..⟩
set_option maxRecDepth 20000 attribute [local irreducible] Ex aM Fn bI bJ bV fin meet ch aX bZ aP aN aI Rd aK Row ao Sub bk bP bS bN bg bR Hid bY
section
attribute [local irreducible] lB
theorem OO(b:List UInt8)(vw:Value)(ws:List Ev)(M:List aa)(hr:aI M vw ws)(hl:ws.length<=1000000):
  Fn prog 232 #[.string (S b),vw] M λr L'=>∃c:Ct,c.gK=tw b ws/\r=.agg (ab.cells c).toArray/\L'=aK c.v1 9 c.s1::aK c.v0 9 c.s0::M:=by
 refine fo func232 ntmps232 ?_;refine rn ?_;(repeat(first|intro(g:Nat)|intro(v:Value)|intro(o:O1 _)|intro(cs:List Value)|intro(f:_=List.set _ _ _)|intro(zs:List _)|intro h));rename_i W;revert g;intro g5;obtain⟨ss,m9⟩:∃ss:Nat->List bQ,ss=λj=>(qJ b (j:Nat) ws).map bQ.mk:=⟨_,rfl⟩;refine bm [14] (λz vs L'=>∃(i:Nat) (w:Nat->Value),i<=2/\z=2-i/\(∀j,(w j).oneCell'=true)/\vs=[.int .i64 i]/\L'=ao g5 75 (eL b (λj=>if j<i then mD b j ws else false) (λj=>if j<i then kQ b j ws else[]) (λj=>if j<i then w j else .slice none 0 0))::ao W 75 (eL [] (λ_=>false) (λ_=>[]) (λ_=>.slice none 0 0))::lB ss w M i) 2 ⟨0,λ_=>.slice none 0 0,U,rfl,λ_=>rfl,rfl,by unfold lB;rfl⟩ ?_;rintro z vs g0 L1 ⟨i,w,hi,rfl,ow,rfl,rfl⟩;refine bp [0,1,4,5,14] rG (λgk=>?_);obtain⟨P,d6⟩:∃P,P=lB ss w M i:=⟨_,rfl⟩;have z7:aI P vw ws:=by rw[d6];exact hr.sub (Mp ss w M i)
 rw[<-d6];obtain⟨H,hH⟩:∃H:Nat->Bool,H=λj=>if j<i then mD b j ws else false:=⟨_,rfl⟩
 obtain⟨y,hG⟩:∃y:Nat->List UInt8,y=λj=>if j<i then kQ b j ws else[]:=⟨_,rfl⟩
 obtain⟨V,hV⟩:∃V:Nat->Value,V=λj=>if j<i then w j else .slice none 0 0:=⟨_,rfl⟩
 obtain⟨C,hC⟩:∃C,C=eL b H y V:=⟨_,rfl⟩;by_cases d7:i<2
 ·rw[<-hH,<-hG,<-hV,<-hC];refine rn ?_;(repeat(first|intro(cs:List Value)|intro(f:_=List.set _ _ _)|intro h));refine bF (L':=aK (.slice none 0 0) 9 ([]:List bQ)::aK (.slice none 0 0) 9 ([]:List bQ)::aK (.slice none 0 0) 228 ([]:List fS)::ao g5 75 C::ao W 75 (eL [] (λ_=>false) (λ_=>[]) (λ_=>.slice none 0 0))::P) ?_ (ar (cA (α:=bQ) none _ _) (ar (cA (α:=bQ) none _ _) (cA (α:=fS) none _ _)));refine bm [7,8,9,19] (λz vs L'=>∃(k:Nat) (x L s:Value),k<=ws.length/\z=ws.length-k/\x.oneCell'=true/\L.oneCell'=true/\s.oneCell'=true/\vs=[x,L,s,.int .i64 k]/\L'=aK s 9 (mI b i (ws.take k))::aK L 9 (jd b i (ws.take k))::aK x 228 (jN b i (ws.take k))::ao g5 75 C::ao W 75 (eL [] (λ_=>false) (λ_=>[]) (λ_=>.slice none 0 0))::P) ws.length ⟨0,_,_,_,U,rfl,rfl,rfl,rfl,rfl,rfl⟩ ?_;rintro z vs g1 L2 ⟨k,x,L,s,hk,rfl,o7,o8,o9,rfl,rfl⟩;refine bp [0,1,4,5,6,7,8,9,14,17,18,19] rG (λgk=>?_);by_cases u:k<ws.length
  ·obtain⟨n,p⟩:=V7 b i ws k u;have j4:=Jk b i (ws.take k);rw[dy]at j4;by_cases Q:(ws[k]'u).ed.key=b
   ·by_cases m6:(ws[k]'u).ed.label=(i:Int)
    ·rw[bf Q,bf m6]at n p;by_cases l9:(ws[k]'u).ed.kind=3
     ·rw[bf l9]at n p;simp only[qW,yv,uE,od,oz,jn,ck]at n p;refine Dq ?_ ?_<;>(repeat(first|intro(cs:List Value)|intro(f:_=List.set _ _ _)|intro h))
      ·exact absurd Q h
      refine pn (a:=(⟨(ws[k]'u).h,(ws[k]'u).r⟩:fS)) J J J J (λgs=>?_);refine rn ?_;(repeat(first|intro(cs:List Value)|intro(f:_=List.set _ _ _)|intro h));have F:mI b i (ws.take (k+1))=mI b i (ws.take k):=by unfold mI;rw[p]
      have et:jN b i (ws.take (k+1))=jN b i (ws.take k)++[⟨(ws[k]'u).h,(ws[k]'u).r⟩]:=by unfold jN;rw[n,dA];rfl
      have I:jd b i (ws.take (k+1))=jd b i (ws.take k)++[⟨(ws[k]'u).ed.value⟩]:=by unfold jd;rw[n,dA];rfl
      rw[<-F,<-et,<-I];exact aS ⟨ws.length-(k+1),_,U,rB,k+1,_,_,s,U,rfl,by assumption,by assumption,o9,av rfl (av rfl (av rfl (av (aQ U) rfl))),rfl⟩
     ·rw[bd l9]at n p;simp only[qW,ui,uE,od,oz,jn,ck]at n p;refine Dq ?_ ?_<;>(repeat(first|intro(cs:List Value)|intro(f:_=List.set _ _ _)|intro h))
      ·exact absurd Q h
      have F:mI b i (ws.take (k+1))=mI b i (ws.take k)++[⟨(ws[k]'u).ed.value⟩]:=by unfold mI;rw[p,dA];rfl
      have et:jN b i (ws.take (k+1))=jN b i (ws.take k):=by unfold jN;rw[n]
      have I:jd b i (ws.take (k+1))=jd b i (ws.take k):=by unfold jd;rw[n]
      rw[<-F,<-et,<-I];exact aS ⟨ws.length-(k+1),_,U,rB,k+1,x,L,_,U,rfl,o7,o8,by assumption,av rfl (av rfl (av rfl (av (aQ U) rfl))),rfl⟩
    ·rw[bf Q,bd m6]at n p;simp only[qW,uE,sb,od,oz,ck]at n p;refine Dq ?_ ?_<;>(repeat(first|intro(cs:List Value)|intro(f:_=List.set _ _ _)|intro h))
     ·exact absurd Q h
     have F:mI b i (ws.take (k+1))=mI b i (ws.take k):=by unfold mI;rw[p]
     have et:jN b i (ws.take (k+1))=jN b i (ws.take k):=by unfold jN;rw[n]
     have I:jd b i (ws.take (k+1))=jd b i (ws.take k):=by unfold jd;rw[n]
     rw[<-F,<-et,<-I];exact aS ⟨ws.length-(k+1),_,U,rB,k+1,x,L,s,U,rfl,o7,o8,o9,av rfl (av rfl (av rfl (av (aQ U) rfl))),rfl⟩
   ·rw[bd Q]at n p;simp only[qW,uE,sb,od,oz,ck]at n p;refine rn ?_;(repeat(first|intro(cs:List Value)|intro(f:_=List.set _ _ _)|intro h));have F:mI b i (ws.take (k+1))=mI b i (ws.take k):=by unfold mI;rw[p]
    have et:jN b i (ws.take (k+1))=jN b i (ws.take k):=by unfold jN;rw[n]
    have I:jd b i (ws.take (k+1))=jd b i (ws.take k):=by unfold jd;rw[n]
    rw[<-F,<-et,<-I];exact aS ⟨ws.length-(k+1),_,U,rB,k+1,x,L,s,U,rfl,o7,o8,o9,av rfl (av rfl (av rfl (av (aQ U) rfl))),rfl⟩
  ·obtain rfl:k=ws.length:=U;rw[dI];have j4:=Jk b i ws;obtain⟨A,hA⟩:∃A,A=(oH b i ws).map λe=>e.ed.value:=⟨_,rfl⟩;have w7:A.length<=ws.length:=by rw[hA,bC];exact j4.2
   rw[show mI b i ws=A.map bQ.mk by unfold mI;rw[hA,nE];rfl];have m8:ss i=(dX (iO A)).map bQ.mk:=by rw[m9,hA];rfl
   have l8:∀(d:Value) (j:Nat),dF V i d j=if j<i+1 then dF w i d j else .slice none 0 0:=λd j=>by
    rw[hV];unfold dF;by_cases m:j<i
    ·simp only[an m,an (show j<i+1 by omega),ai (show¬j=i by omega)]
    ·by_cases q:j=i
     ·simp only[an q,an (show j<i+1 by omega)]
     ·simp only[ai m,ai q,ai (show¬j<i+1 by omega)]
   have n8:∀(d:Value),d.oneCell'=true->∀j,(dF w i d j).oneCell'=true:=λd c8 j=>by
    unfold dF;split
    ·exact c8
    ·exact ow j
   have m7:∀d:Value,lB ss (dF w i d) M (i+1)=aK d 9 (ss i)::P:=λd=>by rw[d6,<-Ld (w:=dF w i d) (w':=w) i (λj hj=>by unfold dF;rw[ai U])];rw[Ft,show dF w i d i=d by unfold dF;rw[an rfl]]
   by_cases R:pF b i ws=[]
   ·have eV:jd b i ws=[]:=by unfold jd;rw[R];rfl
    rw[eV];refine rn ?_;(repeat(first|intro(cs:List Value)|intro(f:_=List.set _ _ _)|intro h));refine ca [] call227 (Fy s A _ U) ?_;rintro _ _ rfl;refine rn ?_;(repeat(first|intro(cs:List Value)|intro(f:_=List.set _ _ _)|intro h));refine ca [] call231 (Em s (iO A) _ o9 (by rw[(jZ A).length_eq];omega)) ?_;rintro d _ ⟨c8,rfl⟩;refine rn ?_;(repeat(first|intro(cs:List Value)|intro(f:_=List.set _ _ _)|intro h));refine Bh 3 J (by rw[hC];rfl) rE rN J (by show 5+(i:Int).toNat*1<7;omega) (Ir d7 d (by show 5+(i:Int).toNat*1=5+i;omega)) J ?_;refine rn ?_;(repeat(first|intro(cs:List Value)|intro(f:_=List.set _ _ _)|intro h));have j3:mD b i ws=false:=by unfold mD;rw[R];rfl
    have u4:kQ b i ws=[]:=by unfold kQ A6;rw[R];rfl
    have e8:eL b H y (dF V i d)=eL b (λj=>if j<i+1 then mD b j ws else false) (λj=>if j<i+1 then kQ b j ws else[]) (λj=>if j<i+1 then dF w i d j else .slice none 0 0):=by
     refine Jx (λj _=>?_) (λj _=>?_) (λj _=>?_)
     ·rw[hH];by_cases m:j<i
      ·simp only[an m,an (show j<i+1 by omega)]
      ·by_cases q:j=i
       ·subst q;simp only[ai m,an (show j<j+1 by omega)];exact j3.symm
       ·simp only[ai m,ai (show¬j<i+1 by omega)]
     ·rw[hG];by_cases m:j<i
      ·simp only[an m,an (show j<i+1 by omega)]
      ·by_cases q:j=i
       ·subst q;simp only[ai m,an (show j<j+1 by omega)];exact u4.symm
       ·simp only[ai m,ai (show¬j<i+1 by omega)]
     ·exact l8 d j
    rw[e8];refine aS ⟨2-(i+1),ao g5 75 (eL b (λj=>if j<i+1 then mD b j ws else false) (λj=>if j<i+1 then kQ b j ws else[]) (λj=>if j<i+1 then dF w i d j else .slice none 0 0))::ao W 75 (eL [] (λ_=>false) (λ_=>[]) (λ_=>.slice none 0 0))::lB ss (dF w i d) M (i+1),U,?_,i+1,dF w i d,U,rfl,n8 d c8,av (aQ U) rfl,rfl⟩;rw[m7 d,<-m8];exact cW [4,4] rE rB
   ·have w9:0<(jd b i ws).length:=by unfold jd;rw[bC];exact wI.2 R
    refine rn ?_;(repeat(first|intro(cs:List Value)|intro(f:_=List.set _ _ _)|intro h));refine Bh 3 J (by rw[hC];rfl) rE rN J (by show 1+(i:Int).toNat*1<7;omega) (Xs d7 true (by show 1+(i:Int).toNat*1=1+i;omega)) J ?_;refine rn ?_;(repeat(first|intro(cs:List Value)|intro(f:_=List.set _ _ _)|intro h));refine bc [] J call270 J J (RA x (jN b i ws) _ rD (by unfold jN;rw[bC];omega)) ?_;rintro _ _ ⟨rfl,rfl⟩;have q9:jN b i ws≠[]:=λh=>R (List.map_eq_nil_iff.1 h);have z8:=YB q9;have w8:(jN b i ws).length=(jd b i ws).length:=by unfold jN jd;rw[bC,bC]
    have s9:((jd b i ws)[(uX (jN b i ws)).toNat]'U).l=kQ b i ws:=by
     unfold kQ;have m:(A6 b i ws)=(jd b i ws).map (·.l):=by unfold A6 jd;rw[nE];rfl
     rw[m,show KE b i ws=jN b i ws from rfl,cu,kz,gV U];rfl
    refine rn ?_;(repeat(first|intro(cs:List Value)|intro(f:_=List.set _ _ _)|intro h));have r0:cs=eL b (dF H i true) (dF y i (kQ b i ws)) V:=f.trans (by rw[s9];exact Si d7 _ (by show 3+(i:Int).toNat*1=3+i;omega));clear f;subst r0;refine ca [] call227 (Fy s A _ U) ?_;rintro _ _ rfl;refine rn ?_;(repeat(first|intro(cs:List Value)|intro(f:_=List.set _ _ _)|intro h));refine ca [] call231 (Em s (iO A) _ o9 (by rw[(jZ A).length_eq];omega)) ?_;rintro d _ ⟨c8,rfl⟩;refine rn ?_;(repeat(first|intro(cs:List Value)|intro(f:_=List.set _ _ _)|intro h));have r9:cs=eL b (dF H i true) (dF y i (kQ b i ws)) (dF V i d):=f.trans (Ir d7 d (by show 5+(i:Int).toNat*1=5+i;omega));clear f;subst r9;have j3:mD b i ws=true:=by unfold mD;simp[R]
    have e8:eL b (dF H i true) (dF y i (kQ b i ws)) (dF V i d)=eL b (λj=>if j<i+1 then mD b j ws else false) (λj=>if j<i+1 then kQ b j ws else[]) (λj=>if j<i+1 then dF w i d j else .slice none 0 0):=by
     refine Jx (λj _=>?_) (λj _=>?_) (λj _=>?_)
     ·rw[hH];unfold dF;by_cases m:j<i
      ·simp only[an m,an (show j<i+1 by omega),ai (show¬j=i by omega)]
      ·by_cases q:j=i
       ·subst q;simp only[jn,an (show j<j+1 by omega)];exact j3.symm
       ·simp only[ai m,ai q,ai (show¬j<i+1 by omega)]
     ·rw[hG];unfold dF;by_cases m:j<i
      ·simp only[an m,an (show j<i+1 by omega),ai (show¬j=i by omega)]
      ·by_cases q:j=i
       ·subst q;simp only[jn,an (show j<j+1 by omega)]
       ·simp only[ai m,ai q,ai (show¬j<i+1 by omega)]
     ·exact l8 d j
    rw[e8];refine aS ⟨2-(i+1),ao g5 75 (eL b (λj=>if j<i+1 then mD b j ws else false) (λj=>if j<i+1 then kQ b j ws else[]) (λj=>if j<i+1 then dF w i d j else .slice none 0 0))::ao W 75 (eL [] (λ_=>false) (λ_=>[]) (λ_=>.slice none 0 0))::lB ss (dF w i d) M (i+1),U,?_,i+1,dF w i d,U,rfl,n8 d c8,av (aQ U) rfl,rfl⟩;rw[m7 d,<-m8];exact cW [4,4] rE rB
 ·obtain rfl:i=2:=U;obtain⟨t,j1⟩:∃t:Ct,t=⟨b,mD b 0 ws,mD b 1 ws,kQ b 0 ws,kQ b 1 ws,w 0,ow 0,ss 0,w 1,ow 1,ss 1⟩:=⟨_,rfl⟩;rw[show eL b (λj=>if j<2 then mD b j ws else false) (λj=>if j<2 then kQ b j ws else[]) (λj=>if j<2 then w j else .slice none 0 0)=ab.cells t by rw[j1];rfl];have q0:=t.o0;have q1:=t.o1;refine rn ?_;intros;refine fr ?_;refine⟨_,?_,t,?_,rfl,rfl⟩
  ·rw[d6];have:lB ss w M 2=aK t.v1 9 t.s1::aK t.v0 9 t.s0::M:=by rw[j1,Ft,Ft,Qr]
   rw[this];exact iC _ (iC _ (bW _))
  ·rw[j1,m9];unfold Ct.gK tw;have hm:∀l:List (List UInt8),(l.map bQ.mk).map (·.l)=l:=λl=>by rw[nE];exact List.map_id'' (λ_=>rfl) l
   simp only[hm];rfl
end
end
section
def Ct.own(c:Ct):aa:=jf (aK c.v1 9 c.s1) (aK c.v0 9 c.s0)
@[reducible] def gG(v:Value)(cs:List Ct):aa:=aK v 75 cs
theorem aA.app:∀(As a:List aa) (L:List aa),Sub (aA (As++a)::L) (aA As::aA a::L)
 |[],a,L=>iC _ (bW _)
 |A::As,a,L=>ar (oi (A:=A) (As:=As++a) L) (ar (bl A (aA.app As a L)) (og (A:=A) (As:=As) (aA a::L)))
theorem Ct.XF{cs:List Ct}{c:Ct}(h:c∈cs)(L:List aa):c.Rd (aA (cs.map Ct.own)::L):=by
 obtain⟨i,hi,rfl⟩:=la h;have a:Sub (aK (cs[i]'hi).v1 9 (cs[i]'hi).s1::aK (cs[i]'hi).v0 9 (cs[i]'hi).s0::aA ((cs.map Ct.own).eraseIdx i)::L) (aA (cs.map Ct.own)::L):=
  ar (vR _ _ _) (qA (As:=cs.map Ct.own) (i:=i) (A:=(cs[i]'hi).own) L (by simp[hi]))
 exact⟨(gr 1 rfl).sub a,(gr 0 rfl).sub a⟩
set_option maxRecDepth 20000 attribute [local irreducible] Ex aM Fn bI bJ bV fin meet ch aX bZ aP aN aI Rd aK Row ao Sub bk bP bS bN bg bR Hid bY
section
attribute [local irreducible] aA
theorem X2(v0:Value)(l:List Ev)(M:List aa)(S:aI M v0 l)(q:l.length<=1000000):
  Fn prog 170 #[v0] M λr L'=>∃cs:List Ct,cs.map Ct.gK=lW l/\O1 r/\L'=gG r cs::aA (cs.map Ct.own)::M:=by
 have C:(fi l).length<=l.length:=jJ ..;refine fo func170 ntmps170 ?_;refine rn ?_;(repeat(first|intro(v:Value)|intro(cs:List Value)|intro(b:_=List.set _ _ _)|intro h));refine bc [] J call229 J J (Wz v0 l _ rD q) ?_;rintro n _ ⟨o3,rfl⟩;refine rn ?_;(repeat(first|intro(v:Value)|intro(cs:List Value)|intro(b:_=List.set _ _ _)|intro h));refine bc [] J call230 J J (WA v0 n l (fi l) _ rD rD q U) ?_;rintro o _ ⟨o4,rfl⟩;obtain⟨ws,j⟩:∃ws,ws=ph l (fi l):=⟨_,rfl⟩;have W:ws.length<=l.length:=by rw[j];exact jJ ..
 obtain⟨a,f⟩:∃a,a=fi l:=⟨_,rfl⟩;rw[<-j,<-f];rw[<-f]at C;have g:tp l=dX (iO (a.map λe=>e.ed.key)):=by rw[f];rfl
 have s:lW l=(tp l).map λk=>tw k ws:=by rw[j];rfl
 clear j f;refine rn ?_;(repeat(first|intro(v:Value)|intro(cs:List Value)|intro(b:_=List.set _ _ _)|intro h));refine bF ?_ (cA (α:=bQ) none 9 _);refine bm [5,18] (λz vs L'=>∃(i:Nat) (v:Value),i<=a.length/\z=a.length-i/\v.oneCell'=true/\vs=[v,.int .i64 i]/\L'=aK v 9 ((a.take i).map λe=>bQ.mk e.ed.key)::aL o ws::aL n a::M) a.length ⟨0,_,U,rfl,rfl,rfl,rfl⟩ ?_;rintro z vs P w ⟨i,v,hi,rfl,L,rfl,rfl⟩;refine bp [4,5,16,17,18] rG (λx=>?_);by_cases d:i<a.length
 ·have H:(a.take (i+1)).map (λe=>bQ.mk e.ed.key)=(a.take i).map (λe=>bQ.mk e.ed.key)++[⟨(a[i]'d).ed.key⟩]:=by rw[da d,dA];rfl
  have V:((a.take i).map λe=>bQ.mk e.ed.key).length<=a.length:=by rw[bC,dy];omega
  refine rn ?_;(repeat(first|intro(v:Value)|intro(cs:List Value)|intro(b:_=List.set _ _ _)|intro h));rw[<-H];exact aS ⟨a.length-(i+1),_,U,rB,i+1,_,U,rfl,by assumption,av rfl (av (aQ U) rfl),rfl⟩
 ·obtain rfl:i=a.length:=U;obtain⟨ks,p⟩:∃ks,ks=a.map λe=>e.ed.key:=⟨_,rfl⟩;have A:ks.length<=1000000:=by rw[p,bC];omega
  rw[dI,show a.map (λe=>bQ.mk e.ed.key)=ks.map bQ.mk by rw[p,nE];rfl];rw[<-p]at g;refine rn ?_;(repeat(first|intro(v:Value)|intro(cs:List Value)|intro(b:_=List.set _ _ _)|intro h));refine ca [] call227 (Fy v ks _ A) ?_;rintro _ _ rfl;refine rn ?_;(repeat(first|intro(v:Value)|intro(cs:List Value)|intro(b:_=List.set _ _ _)|intro h));refine ca [] call231 (Em v (iO ks) _ L (by rw[(jZ ks).length_eq];omega)) ?_;rintro u _ ⟨c9,rfl⟩;rw[<-g];obtain⟨xs,m⟩:∃xs:List bQ,xs=(tp l).map bQ.mk:=⟨_,rfl⟩;rw[<-m];have c7:xs.length<=1000000:=by rw[m,bC,g];have:=AG (iO ks);rw[(jZ ks).length_eq]at this;omega
  have F:lW l=xs.map λt=>tw t.l ws:=by rw[s,m,nE];rfl
  clear s g m;refine rn ?_;(repeat(first|intro(v:Value)|intro(cs:List Value)|intro(b:_=List.set _ _ _)|intro h));refine bF ?_ (ar (bl _ (ly _)) (cA (α:=Ct) none 75 _));refine bm [8,33] (λz vs L'=>∃(i:Nat) (v:Value) (cs:List Ct),i<=xs.length/\z=xs.length-i/\v.oneCell'=true/\cs.map Ct.gK=(xs.take i).map (λt=>tw t.l ws)/\vs=[v,.int .i64 i]/\L'=gG v cs::aA (cs.map Ct.own)::aK u 9 xs::aL o ws::aL n a::M) xs.length ⟨0,_,[],U,rfl,rfl,rfl,rfl,rfl⟩ ?_;rintro z vs Q w ⟨i,v8,cs,hi,rfl,I,b,rfl,rfl⟩;refine bp [4,8,31,32,33] rG (λx=>?_);by_cases d:i<xs.length
  ·have R:cs.length=i:=by have:=cn List.length b;rw[bC,bC,dy]at this;omega
   refine rn ?_;(repeat(first|intro(v:Value)|intro(cs:List Value)|intro(b:_=List.set _ _ _)|intro h));refine bc [] J call232 J J (OO (xs[i]'d).l o ws _ rD U) ?_;rintro _ _ ⟨c,y,rfl,rfl⟩;refine rn ?_;(repeat(first|intro(v:Value)|intro(cs:List Value)|intro(b:_=List.set _ _ _)|intro h));refine aS ⟨xs.length-(i+1),gG v (cs++[c])::aA ((cs++[c]).map Ct.own)::aK u 9 xs::aL o ws::aL n a::M,U,?_,i+1,v,cs++[c],U,rfl,by assumption,?_,av rfl (av (aQ U) rfl),rfl⟩
   ·rw[dA];exact cW [3] rE (bl _ (iC _ (ar (so c.own _) (qn _ _ _))))
   ·rw[dA,b,da d,dA];show _++[c.gK]=_++[tw (xs[i]'d).l ws];rw[y]
  ·obtain rfl:i=xs.length:=U;rw[dI,<-F]at b;refine rn ?_;(repeat(first|intro(cs:List Value)|intro(b:_=List.set _ _ _)|intro h));refine fr ?_;exact⟨_,rB,cs,b,I,rfl⟩
end
end
section
theorem Kc(l:List Ev):(lW l).length<=l.length:=by unfold lW tp;rw[bC];have a:=AG (iO ((fi l).map λe=>e.ed.key));rw[(jZ _).length_eq,bC]at a;have b:(fi l).length<=l.length:=jJ ..;omega
theorem W2(k:List UInt8):∀(a:List bM),∃(v0:Value) (b:Bool),O1 v0/\nK k (a.map bM.kv) (.slice none 0 0)=(v0,b)/\(cp k (a.map bM.kl)).length<=cZ (a.map bM.kl)/\∀L,aI (aA (a.map bM.ev)::L) v0 (cp k (a.map bM.kl)):=λa=>by
 have j:∀(a:List bM) (s:Nat),(eQ k (a.map bM.kv) s=none/\cp k (a.map bM.kl)=[])\/∃i,∃h:i<a.length,eQ k (a.map bM.kv) s=some (s+i,(a[i]'h).v)/\cp k (a.map bM.kl)=(a[i]'h).l:=by
  intro a
  induction a with
  |nil=>intro s;exact .inl ⟨rfl,rfl⟩
  |cons r a ih=>
   intro s;by_cases e:k=r.k
   ·refine .inr ⟨0,by simp,?_,?_⟩
    ·show(if k=r.k then some (s,r.v)else _)=_;rw[an e];rfl
    ·show(if k=r.k then r.l else _)=_;rw[an e];rfl
   ·have g:eQ k ((r::a).map bM.kv) s=eQ k (a.map bM.kv) (s+1):=by show(if k=r.k then some (s,r.v)else _)=_;rw[ai e]
    have f:cp k ((r::a).map bM.kl)=cp k (a.map bM.kl):=by show(if k=r.k then r.l else cp k (a.map bM.kl))=_;rw[ai e]
    rw[g,f];rcases ih (s+1)with⟨d,c⟩|⟨i,hi,d,c⟩
    ·exact .inl ⟨d,c⟩
    ·exact .inr ⟨i+1,by simpa using hi,by rw[d];simp;omega,c⟩
 rcases j a 0 with⟨d,c⟩|⟨i,hi,d,c⟩
 ·exact⟨.slice none 0 0,false,rfl,by unfold nK;rw[d],by rw[c];exact eM _,λL=>by rw[c];exact mC _⟩
 ·refine⟨(a[i]'hi).v,true,(a[i]'hi).o,by unfold nK;rw[d],?_,λL=>?_⟩
  ·rw[c];have:((a[i]'hi).k,(a[i]'hi).l)∈a.map bM.kl:=fA.2 ⟨a[i]'hi,bT _,rfl⟩;exact FD this
  ·rw[c];exact(gr (L:=aL (a[i]'hi).v (a[i]'hi).l::aA ((a.map bM.ev).eraseIdx i)::L) 0 rfl).sub (qA L (by simp[hi];rfl))
set_option maxRecDepth 20000 attribute [local irreducible] Ex aM Fn bI bJ bV fin meet ch aX bZ aP aN aI Rd aK Row ao Sub bk bP bS bN bg bR Hid bY
section
attribute [local irreducible] aA eX
theorem RQ(g c:Nat)(z:Int)(a:List bM)(M:List aa)(S:cZ (a.map bM.kl)<=10000)(L:a.length<=10000)(I:∀r∈a,r.k.length<=1000):
  Fn prog 98 #[.pointer (some ⟨g,0,none⟩)] (pe g c z a M) λr L'=>∃cs:List Ct,cs.map Ct.gK=iv (a.map bM.kl)/\O1 r/\L'=gG r cs::aA (cs.map Ct.own)::pe g c z a M:=by
 unfold pe;refine fo func98 ntmps98 ?_;refine rn ?_;(repeat(first|intro(g:Nat)|intro(v:Value)|intro(cs:List Value)|intro(d:_=List.set _ _ _)|intro h));refine ca [] call169 (LU (some c) _) ?_;rintro _ _ ⟨o,rfl,rfl⟩;obtain⟨e,f⟩:∃e,e=a.map bM.kv:=⟨_,rfl⟩;have x:e.map (·.1)=(a.map bM.kl).map (·.1):=by rw[f,nE,nE];rfl
 refine rn ?_;(repeat(first|intro(g:Nat)|intro(v:Value)|intro(cs:List Value)|intro(d:_=List.set _ _ _)|intro h));rw[<-f];refine bc [1,2] J call168 rE J (Xq o c e _ (λp A=>by rw[f]at A;obtain⟨r,R,rfl⟩:=fA.1 A;exact I r R) (by rw[f,bC];omega)) ?_;rintro F _ ⟨e8,rfl⟩;obtain⟨m,s⟩:∃m,m=a.map bM.kl:=⟨_,rfl⟩;rw[<-s]at x S⊢
 rw[x];have Q:m.length<=10000:=by rw[s,bC];exact L
 obtain⟨xs,u⟩:∃xs:List bQ,xs=(iO (m.map (·.1))).map bQ.mk:=⟨_,rfl⟩;have d8:xs.length<=10000:=by rw[u,bC,(jZ _).length_eq,bC];exact Q
 have P:iv m=xs.flatMap λt=>lW (cp t.l m):=by rw[u,List.flatMap_map];rfl
 rw[<-u];refine rn ?_;(repeat(first|intro(g:Nat)|intro(v:Value)|intro(cs:List Value)|intro(d:_=List.set _ _ _)|intro h));refine bF ?_ (ar (bl _ (ly _)) (cA (α:=Ct) none 75 _));refine bm [3,13] (λq vs L'=>∃(i:Nat) (v:Value) (cs:List Ct),i<=xs.length/\q=xs.length-i/\v.oneCell'=true/\cs.map Ct.gK=(xs.take i).flatMap (λt=>lW (cp t.l m))/\cs.length<=i*10000/\vs=[v,.int .i64 i]/\L'=gG v cs::aA (cs.map Ct.own)::aK F 9 xs::ao o 253 [.map (some c)]::eX iG c e::ao g 269 (kS 1 (.int .u32 0) (.map (some c)) z)::aA (a.map bM.ev)::M) xs.length ⟨0,_,[],U,rfl,rfl,rfl,by simp,rfl,rfl⟩ ?_;rintro q vs g1 W ⟨i,v,cs,hi,rfl,V,d,d7,rfl,rfl⟩;refine bp [0,3,11,12,13] rG (λgk=>?_);by_cases j:i<xs.length
 ·obtain⟨v0,b,o0,y,H,C⟩:=W2 (xs[i]'j).l a;rw[<-f]at y;rw[<-s]at H C;refine rn ?_;(repeat(first|intro(g:Nat)|intro(v:Value)|intro(cs:List Value)|intro(d:_=List.set _ _ _)|intro h));refine cH J J J (Mw (kt:=9) (et:=86) 4 (k:=(xs[i]'j).l) (m:=e) J J J rQ (z:=.slice none 0 0) rQ) ?_;rw[y];refine rn ?_;(repeat(first|intro(g:Nat)|intro(v:Value)|intro(cs:List Value)|intro(d:_=List.set _ _ _)|intro h));refine ca [] call170 (X2 v0 (cp (xs[i]'j).l m) _ ((C M).sub rB) U) ?_;rintro j0 _ ⟨n,w,e9,rfl⟩;have d6:n.length<=10000:=by have:=cn List.length w;rw[bC]at this;have h2:=Kc (cp (xs[i]'j).l m);omega
  refine rn ?_;(repeat(first|intro(g:Nat)|intro(v:Value)|intro(cs:List Value)|intro(d:_=List.set _ _ _)|intro h));refine aS ⟨xs.length-(i+1),gG v (cs++n)::aA ((cs++n).map Ct.own)::aK F 9 xs::ao o 253 [.map (some c)]::eX iG c e::ao g 269 (kS 1 (.int .u32 0) (.map (some c)) z)::aA (a.map bM.ev)::M,U,?_,i+1,v,cs++n,U,rfl,by assumption,?_,by rw[bo];omega,av rfl (av (aQ U) rfl),rfl⟩
  ·rw[dA];exact cW [3,3,1] rE (bl _ (ar (bl _ rB) (aA.app _ _ _)))
  ·rw[dA,d,w,da j,C3];simp
 ·obtain rfl:i=xs.length:=U;rw[dI,<-P]at d;refine rn ?_;(repeat(first|intro(cs:List Value)|intro(d:_=List.set _ _ _)|intro h));refine fr ?_;exact⟨_,cW [3,3,5,4] rE rB,cs,d,V,rfl⟩
theorem Pu(g:Nat)(M:List aa):
  Fn prog 98 #[.pointer (some ⟨g,0,none⟩)] (ao g 269 (kS 0 (.int .u32 0) (.map none) 0)::M) λr L'=>O1 r/\L'=gG r []::ao g 269 (kS 0 (.int .u32 0) (.map none) 0)::M:=by
 refine fo func98 ntmps98 ?_;refine rn ?_;intros;refine ca [] call169 (LU none _) ?_;rintro _ _ ⟨a,rfl,rfl⟩;refine rn ?_;intros;refine ca [] call168 (TV a _) ?_;rintro d _ ⟨c,rfl⟩;refine rn ?_;intros;refine ll [3,13] (λq vs=>q=0/\vs=[.slice none 0 0,.int .i64 0]) 0 ⟨rfl,rfl⟩ ?_;rintro q vs b ⟨rfl,rfl⟩;refine rn ?_;intros;refine fr ?_;exact⟨_,ar (cA (α:=Ct) none 75 _) rB,rfl,rfl⟩
theorem Kq(g:Nat)(m:fz)(M:List aa)(j:cZ m<=10000)(f:m.length<=10000)(e:∀p∈m,p.1.length<=1000):
  Fn prog 98 #[.pointer (some ⟨g,0,none⟩)] (df g m::M) λr L'=>∃cs:List Ct,cs.map Ct.gK=iv m/\O1 r/\L'=gG r cs::aA (cs.map Ct.own)::df g m::M:=by
 refine df.fn (λc=>?_) (λb k h=>?_)
 ·subst c;refine(Pu g M).dD ?_;rintro v L' ⟨o,rfl⟩;exact⟨_,bl _ (ar (bl _ (jE (λx a=>.inl ⟨rfl,a⟩) (bW M))) (ly _)),[],rfl,o,rfl⟩
 ·subst h;refine(RQ g b _ k M j (by simpa using f) (λr i=>e r.kl (rj i))).dD ?_;rintro v L' ⟨cs,d,o,rfl⟩;exact⟨_,bl _ (bl _ (df.cls rfl rfl M)),cs,d,o,rfl⟩
end
end
section
structure DS where
 b:List UInt8
 down:Bool
 cut:Bool
 keep:Int
def DS.write(s:DS)(xs:List UInt8):DS×Int:=match s.down,s.cut with
 |true,_=>(s,18)
 |false,true=>(⟨s.b++xs.take (min (max s.keep 0) xs.length).toNat,true,false,s.keep⟩,18)
 |false,false=>(⟨s.b++xs,false,false,s.keep⟩,0)
def DS.trim(s:DS)(n:Int):DS:=if 0<=n/\n<=s.b.length then{s with b:=s.b.take n.toNat}else s
theorem Sub.Hc{α:Type}[ab α](b:Option Addr)(e:TypeId)(L:List aa):Sub (aK (.slice b 0 0) e ([]:List α)::L) L:=λw F s=>aN.Cx s (Gb b e)
set_option maxRecDepth 20000 attribute [local irreducible] Ex aM Fn bI bJ bV fin meet ch aX bZ aP aN aI Rd aK Row ao Sub bk bP bS bN bg bR Hid bY
section
theorem Ij(L:List aa):Fn prog 184 #[] L λv L'=>∃g,v=.pointer (some ⟨g,0,none⟩)/\L'=ao g 284 [.slice none 0 0,.bool false,.bool false,.int .i64 0]::aK (.slice none 0 0) 5 ([]:List UInt8)::L:=by refine fo func184 ntmps184 ?_;refine rn ?_;intros;refine fr ?_;exact⟨_,bl _ (Sub.Hc none _ _),_,rfl,rfl⟩
theorem Vk(g:Nat)(v:Value)(b:List UInt8)(a c:Bool)(keep n:Int)(M:List aa):Fn prog 369 #[.pointer (some ⟨g,0,none⟩),.int .i64 n] (ao g 284 [v,.bool a,.bool c,.int .i64 keep]::aK v 5 b::M)
  λr L'=>L'=ao g 284 [v,.bool a,.bool true,.int .i64 n]::aK v 5 b::M:=by
 refine fo func369 ntmps369 ?_;exact qi
theorem Zk(g:Nat)(v:Value)(b:List UInt8)(c a:Bool)(keep:Int)(M:List aa):Fn prog 124 #[.pointer (some ⟨g,0,none⟩)] (ao g 284 [v,.bool c,.bool a,.int .i64 keep]::aK v 5 b::M)
  λr L'=>L'=ao g 284 [v,.bool false,.bool false,.int .i64 keep]::aK v 5 b::M:=by
 refine fo func124 ntmps124 ?_;exact qi
theorem JX(g:Nat)(v:Value)(b:List UInt8)(c a:Bool)(keep:Int)(M:List aa):Fn prog 123 #[.pointer (some ⟨g,0,none⟩)] (ao g 284 [v,.bool c,.bool a,.int .i64 keep]::aK v 5 b::M)
  λr L'=>L'=ao g 284 [v,.bool true,.bool false,.int .i64 keep]::aK v 5 b::M:=by
 refine fo func123 ntmps123 ?_;exact qi
theorem AD(v:Value)(b:List UInt8)(L:List aa)(f:aI L v b)(g:b.length<=140737488355328):Fn prog 162 #[v] L λr L'=>O1 r/\L'=aK r 5 b::L:=by
 refine fo func162 ntmps162 ?_;refine Ex.xH f.ca ?_;rintro⟨a,c,rfl,e⟩;cases a with
 |none=>
  obtain⟨rfl,d⟩:=e rfl;obtain rfl:=dZ d;refine rn ?_;intros;refine fr ?_;exact⟨_,Sub.Hc none _ _,rfl,rfl⟩
 |some a=>exact yl
theorem UR(g:Nat)(v x:Value)(s:DS)(xs:List UInt8)(M:List aa)(hx:aI M x xs)(f:O1 v)(e:s.b.length+xs.length<=140737488355328):Fn prog 173 #[.pointer (some ⟨g,0,none⟩),x] (ao g 284 [v,.bool s.down,.bool s.cut,.int .i64 s.keep]::aK v 5 s.b::M)
  λr L'=>r=.int .i64 (s.write xs).2/\∃a,O1 a/\L'=ao g 284 [a,.bool (s.write xs).1.down,.bool (s.write xs).1.cut,.int .i64 (s.write xs).1.keep]::aK a 5 (s.write xs).1.b::M:=by
 obtain⟨b,d,c,keep⟩:=s;simp only at e⊢
 refine fo func173 ntmps173 ?_;cases d
 ·cases c
  ·refine rn ?_;intros;refine fr ?_;exact⟨_,rB,rfl,_,by assumption,rfl⟩
  ·refine rn ?_;intros;refine ca [] call123 (JX _ _ _ _ _ _ _) ?_;rintro _ _ rfl;refine rn ?_;intros;refine fr ?_;exact⟨_,rB,rfl,_,by assumption,rfl⟩
 ·refine rn ?_;intros;refine fr ?_;exact⟨_,rB,rfl,_,f,rfl⟩
theorem TC(g:Nat)(v:Value)(b:List UInt8)(c a:Bool)(keep:Int)(M:List aa)(d:b.length<=140737488355328):Fn prog 126 #[.pointer (some ⟨g,0,none⟩)] (ao g 284 [v,.bool c,.bool a,.int .i64 keep]::aK v 5 b::M)
  λr L'=>O1 r/\L'=aK r 5 b::ao g 284 [v,.bool c,.bool a,.int .i64 keep]::aK v 5 b::M:=by
 refine fo func126 ntmps126 ?_;refine rn ?_;intros;refine bc [] J call162 J J (AD _ _ _ rD d) ?_;rintro r _ ⟨e,rfl⟩;refine rn ?_;intros;refine fr ?_;exact⟨_,rB,e,rfl⟩
theorem Zw(g:Nat)(v:Value)(s:DS)(n:Int)(M:List aa)(d:O1 v)(k:s.b.length<=140737488355328):Fn prog 127 #[.pointer (some ⟨g,0,none⟩),.int .i64 n] (ao g 284 [v,.bool s.down,.bool s.cut,.int .i64 s.keep]::aK v 5 s.b::M)
  λr L'=>∃f,O1 f/\L'=ao g 284 [f,.bool (s.trim n).down,.bool (s.trim n).cut,.int .i64 (s.trim n).keep]::aK f 5 (s.trim n).b::M:=by
 obtain⟨b,c,a,keep⟩:=s;simp only at k⊢
 refine fo func127 ntmps127 ?_;by_cases l:n<0
 ·have e:DS.trim ⟨b,c,a,keep⟩ n=⟨b,c,a,keep⟩:=by unfold DS.trim;rw[ai U]
  rw[e];refine rn ?_;(repeat(first|intro(g:Nat)|intro(v:Value)|intro h));refine fr ?_;exact⟨_,rB,v,d,rfl⟩
 by_cases m:(b.length:Int)<n
 ·have e:DS.trim ⟨b,c,a,keep⟩ n=⟨b,c,a,keep⟩:=by unfold DS.trim;rw[ai (by simp only;omega)]
  rw[e];refine rn ?_;(repeat(first|intro(g:Nat)|intro(v:Value)|intro h));refine fr ?_;exact⟨_,rB,v,d,rfl⟩
 have e:DS.trim ⟨b,c,a,keep⟩ n=⟨b.take n.toNat,c,a,keep⟩:=by unfold DS.trim;rw[an (by simp only;omega)]
 rw[e];refine rn ?_;(repeat(first|intro(g:Nat)|intro(v:Value)|intro h));refine fr ?_;refine⟨_,?_,bg v 0 n.toNat 1,jB d,rfl⟩;have j:(b.take n.toNat++List.replicate (b.length-n.toNat) (0:UInt8)).take n.toNat=b.take n.toNat:=by rw[Bj (by simp;omega),D0,Nat.min_self]
 have i:=xD (L:=ao g 284 [bg v 0 n.toNat 1,.bool c,.bool a,.int .i64 keep]::aK v 5 (b.take n.toNat++List.replicate (b.length-n.toNat) (0:UInt8))::M) 1 rfl (h:=n.toNat) (by simp;omega) (sz:=1) rfl;rw[j]at i;exact i
end
section
theorem Wf(v0:Value)(xs:List Ev)(i j:Nat)(M:List aa)(g:i<=j)(k:j<=xs.length)(e:xs.length<=1000000000)(b:O1 v0):Fn prog 253 #[v0,.int .i64 i,.int .i64 j] (aL v0 xs::M)
  λr L'=>O1 r/\L'=aL r (xs.take i++xs.drop j)::M:=by
 refine fo func253 ntmps253 ?_;by_cases h:i=j
 ·subst h;refine rn ?_;(repeat(first|intro(zs:List _)|intro h));refine fr ?_;exact⟨_,rB,b,by rw[mi]⟩
 ·refine Ex.xH (gr (xs:=xs) 0 rfl).wv ?_;intro f;refine rn ?_;(repeat(first|intro(zs:List _)|intro h));refine bU 7 M rfl rQ rF ?_;refine mn ?_;(repeat(first|intro(zs:List _)|intro h));refine rn ?_;(repeat(first|intro(zs:List _)|intro h));refine fr ?_;refine⟨_,?_,jB b,rfl⟩;have c:∀zs:List Ev,((xs.take i++xs.drop j++xs.drop (i+(xs.length-j))).take (i+(xs.length-j))++zs).take (i+(xs.length-j))=xs.take i++xs.drop j:=λzs=>by
   have d:(xs.take i++xs.drop j).length=i+(xs.length-j):=by simp;omega
   rw[<-d,jL,jL]
  have a:=xD (α:=Ev) (L:=aL v0 ((xs.take i++xs.drop j++xs.drop (i+(xs.length-j))).take (i+(xs.length-j))++List.replicate ((xs.take i++xs.drop j++xs.drop (i+(xs.length-j))).length-(i+(xs.length-j))) (hQ.z 80))::M) 0 rfl (h:=i+(xs.length-j)) (by simp;omega) (sz:=12) rfl;rw[c]at a;exact a
end
end
section
@[reducible] def ec(g:Nat)(most a sent:Int)(v:Value):aa:=ao g 271 [.int .i64 most,.int .i64 a,.int .i64 sent,v]
def iV(sent:Int)(l:List Ev):Prop:=∀j (hj:j<l.length),(l[j]'hj).n=sent+1+j
theorem iV.nil(sent:Int):iV sent []:=λj a=>by simp at a
theorem iV.drop{sent:Int}{l:List Ev}(h:iV sent l)(k:Nat)(b:k<=l.length):iV (sent+k) (l.drop k):=λj a=>by simp only[ew]at a;rw[yi,h _ U];omega
theorem iV.snoc{sent:Int}{l:List Ev}(h:iV sent l){e:Ev}(c:e.n=sent+l.length+1):iV sent (l++[e]):=λj b=>by
 simp only[bo,dL,jx]at b;by_cases a:j<l.length
 ·rw[yg a];exact h j a
 ·rw[yR U];simp only[List.getElem_singleton];omega
def gP(most sent:Int)(a:List Ev)(e:Ev):Int×List Ev:=if most<=a.length then(17,a)else if e.n=sent+a.length+1 then(0,a++[e])else(20,a)
def fC(sent:Int)(b:List Ev)(a:Int):Int:=max sent (min a (sent+b.length))
theorem Zq{most sent:Int}{e:Ev}(h:iV sent A):iV sent (gP most sent A e).2:=by
 unfold gP;split
 ·exact h
 ·split
  ·rename_i a;exact h.snoc a
  ·exact h
theorem Qt{most sent:Int}{e:Ev}:(gP most sent A e).2.length<=A.length+1:=by
 unfold gP;split
 ·simp
 ·split<;>simp
set_option maxRecDepth 20000 attribute [local irreducible] Ex aM Fn bI bJ bV fin meet ch aX bZ aP aN aI Rd aK Row ao Sub bk bP bS bN bg bR Hid bY
section
theorem Rn(most a sent:Int)(L:List aa):Fn prog 187 #[.int .i64 most,.int .i64 a,.int .i64 sent] L λv L'=>∃g,v=.pointer (some ⟨g,0,none⟩)/\L'=ec g most a sent (.slice none 0 0)::aL (.slice none 0 0) []::L:=by refine fo func187 ntmps187 ?_;refine rn ?_;intros;refine fr ?_;exact⟨_,bl _ (cA none _ _),_,rfl,rfl⟩
theorem NF(g:Nat)(most b sent:Int)(v0:Value)(a:List Ev)(M:List aa):Fn prog 108 #[.pointer (some ⟨g,0,none⟩)] (ec g most b sent v0::aL v0 a::M)
  λr L'=>r=.int .i64 a.length/\L'=ec g most b sent v0::aL v0 a::M:=by
 refine fo func108 ntmps108 ?_;exact bh
theorem ud(g:Nat)(most b sent:Int)(v0:Value)(a:List Ev)(M:List aa):Fn prog 99 #[.pointer (some ⟨g,0,none⟩)] (ec g most b sent v0::aL v0 a::M)
  λr L'=>r=.bool (decide ((a.length:Int)<most))/\L'=ec g most b sent v0::aL v0 a::M:=by
 refine fo func99 ntmps99 ?_;by_cases h:(a.length:Int)<most
 ·rw[bf h];refine rn ?_;intros;refine ji ?_;intros;exact bh
 ·rw[bd h];refine rn ?_;intros;refine ji ?_;intros;exact bh
end
end
section
set_option maxRecDepth 20000
instance:vf prog 90 Mk where
 depth:=3
 ls:=[.i .i64,.i .i64]
 small:=rfl
 leaves:=by kernel_rfl
 agg:=by kernel_rfl
 guard:=by kernel_rfl
 ok:=λ_=>rfl
 inj:=λa b h=>by obtain⟨d,f⟩:=a;obtain⟨g,j⟩:=b;simp only[ab.cells,jH,uh,qy,nV]at h;simp[h]
 check:=λw c a=>SU (e:=3) underlying90 ⟨rfl,rfl,by decide⟩ ⟨rfl,rfl,by decide⟩ rQ w c a.r a.n
end
section
set_option maxRecDepth 20000
set_option maxRecDepth 20000 attribute [local irreducible] Ex aM Fn bI bJ bV fin meet ch aX bZ aP aN aI Rd aK Row ao Sub bk bP bS bN bg bR Hid bY
section
theorem BF(e:Ev)(M:List aa):Fn prog 272 #[.agg (ab.cells e).toArray] M λv L'=>v=.agg (ab.cells e.cj).toArray/\L'=M:=by refine fo func272 ntmps272 ?_;exact bh
def Co(c:aj)(l:List Ev)(v:Value):Prop:=(∃i,∃hi:i<l.length,jm c l i/\v=.tuple #[.agg (ab.cells (l[i]'hi)).toArray,.bool true])\/((∀i,¬jm c l i)/\v=.tuple #[.agg (ab.cells Ev.zero).toArray,.bool false])
theorem K3(c:aj)(x:Nat)(l:List Ev)(M:List aa)(hd:fG l)(F:∀e∈l,cD e.n)(Q:∀i,i<5->cD (c.get i)):Fn prog 273 #[c.val,.map (some x)] (jU x (mg l)::M)
  λv L'=>Co c l v/\L'=jU x (mg l)::M:=by
 refine fo func273 ntmps273 ?_;refine rn ?_;intros;refine ll [9] (λm vs=>∃(i:Nat),i<=5/\m=5-i/\vs=[.int .i64 i]/\∀e∈l,e.dY c->(i:Int)<=e.r) 5 ⟨0,U,U,rfl,λe _ h=>h.1⟩ ?_;rintro m vs g1 ⟨i,hi,rfl,rfl,k⟩;refine bp [1,2,4,9] rG (λgk=>?_);by_cases S:i<5
 ·have C:=zZ c (i:Int).toNat;rw[show c.get (i:Int).toNat=c.get i from rfl]at C;have R:=Q i S;unfold cD at R;have u:∀w:Int,(∀e∈l,e.dY c->e.r=i->e.n=w->False)->(∀e∈l,e.dY c->e.r=i->e.n=w)->∀e∈l,e.dY c->((i+1:Nat):Int)<=e.r:=λw f g e d a=>by
   have:=k e d a;by_cases h:e.r=i
   ·exact(f e d a h (g e d a h)).elim
   ·omega
  by_cases V:c.get i=9223372036854775807
  ·have o:∀e∈l,e.dY c->((i+1:Nat):Int)<=e.r:=λe d a=>by
    have f:=k e d a;by_cases h:e.r=i
    ·have g:=a.2.2.2.1;rw[h,show c.get (i:Int).toNat=c.get i from rfl]at g;have L:=F e d;unfold cD at L;omega
    ·omega
   clear u k;refine rn ?_;intros;rcases uf (⟨i,IntKind.i64.wrap ([c.a,c.b,c.c,c.d,c.e].getD (i:Int).toNat 0+1)⟩:Mk) l 0 with⟨f,g⟩|⟨j,b,f,g⟩
   ·refine Ai 2 J J J rfl J J f ?_;refine rn ?_;intros;exact aS ⟨5-(i+1),_,U,rB,⟨i+1,U,U,av (aQ U) rfl,o⟩,rfl⟩
   ·have y:(l[j]'b).n=IntKind.i64.wrap ([c.a,c.b,c.c,c.d,c.e].getD (i:Int).toNat 0+1):=cn Mk.n f;rw[C,V,show IntKind.i64.wrap (9223372036854775807+1)=-9223372036854775808 by rw[IntKind.wrap_i64];decide]at y;refine vz 2 J J J rfl J J g ?_;refine rn ?_;intros;exact aS ⟨5-(i+1),_,U,rB,⟨i+1,U,U,av (aQ U) rfl,o⟩,rfl⟩
  ·have t:∀e∈l,e.dY c->e.r=i->e.n=[c.a,c.b,c.c,c.d,c.e].getD (i:Int).toNat 0+1:=λe d a p=>by have:=a.2.2.2.1;rw[p,show c.get (i:Int).toNat=c.get i from rfl]at this;omega
   refine rn ?_;intros;rcases uf (⟨i,[c.a,c.b,c.c,c.d,c.e].getD (i:Int).toNat 0+1⟩:Mk) l 0 with⟨f,g⟩|⟨j,b,f,g⟩
   ·refine Ai 2 J J J rfl J J f ?_;have o:=u _ (λe d a p o=>g e d (by simp only[Ev.cj,p,o])) t;clear u t k;refine rn ?_;intros;exact aS ⟨5-(i+1),_,U,rB,⟨i+1,U,U,av (aQ U) rfl,o⟩,rfl⟩
   ·have A:(l[j]'b).r=i:=cn Mk.r f;have y:(l[j]'b).n=[c.a,c.b,c.c,c.d,c.e].getD (i:Int).toNat 0+1:=cn Mk.n f;have P:=F _ (bT b);unfold cD at P;have I:∀e∈l,e.dY c->e.r=i->e=l[j]'b:=λe d a p=>by obtain⟨q,z,rfl⟩:=la d;have:=hd.inj z b (by simp only[Ev.cj,p,A,y,t _ d a p]);subst this;rfl
    have s:¬(l[j]'b).dY c->∀e∈l,e.dY c->((i+1:Nat):Int)<=e.r:=λc8 e d a=>by
     have:=k e d a;by_cases h:e.r=i
     ·rw[I e d a h]at a;exact(c8 a).elim
     ·omega
    clear u t I;by_cases H:1<=(l[j]'b).n
    ·cases hle:(l[j]'b).c.le c
     ·have o:=s λa=>by rw[a.2.2.2.2]at hle;cases hle
      clear s k;refine vz 2 J J J rfl J J g ?_;refine rn ?_;intros;refine ca [] call312 (N0 (l[j]'b).c c _) ?_;rintro _ _ ⟨rfl,rfl⟩;rw[hle];refine rn ?_;intros;exact aS ⟨5-(i+1),_,U,rB,⟨i+1,U,U,av (aQ U) rfl,o⟩,rfl⟩
     ·have c9:(l[j]'b).dY c:=⟨U,U,H,by rw[A,show c.get (i:Int).toNat=c.get i from rfl];omega,hle⟩;have W:jm c l j:=⟨b,c9,λq z a=>by rw[A];exact k _ (bT z) a⟩;clear s k;refine vz 2 J J J rfl J J g ?_;refine rn ?_;intros;refine ca [] call312 (N0 (l[j]'b).c c _) ?_;rintro _ _ ⟨rfl,rfl⟩;rw[hle];refine rn ?_;intros;refine fr ?_;exact⟨_,rB,.inl ⟨j,b,W,rfl⟩,rfl⟩
    ·have o:=s λa=>H a.2.2.1;clear s k;refine vz 2 J J J rfl J J g ?_;refine rn ?_;intros;exact aS ⟨5-(i+1),_,U,rB,⟨i+1,U,U,av (aQ U) rfl,o⟩,rfl⟩
 ·have c7:∀i,¬jm c l i:=λj ⟨b,f,g⟩=>by have:=k _ (bT b) f;have:=f.2.1;omega
  refine rn ?_;intros;refine fr ?_;exact⟨_,rB,.inr ⟨c7,rfl⟩,rfl⟩
end
end
section
instance(c:aj)(e:Ev):Decidable (e.dY c):=by unfold Ev.dY;exact inferInstance
@[reducible] def uF(d b a:Nat)(c:aj)(e:Value)(F:List Ev)(M:List aa):List aa:=aL e F::aL (.slice none 0 0) []::aL (.slice none 0 0) []::jU d (mg F)::ao b 50 (ab.cells aj.zero)::ao a 50 (ab.cells c)::M
@[reducible] def zi(f e d g:Nat)(c:aj)(z:Ev)(h:Value)(b:List Ev)(i:Value)(a left:List Ev)(M:List aa):List aa:=
 aL h b::aL (.slice none 0 0) []::jU f (mg left)::ao g 80 (ab.cells z)::aL i a::ao e 50 (ab.cells aj.zero)::ao d 50 (ab.cells c)::M
@[reducible] def zv(f e d:Nat)(c:aj)(h:Value)(b:List Ev)(i:Value)(g:List Ev)(j:Value)(a left:List Ev)(M:List aa):List aa:=
 aL i g::aL h b::jU f (mg left)::aL j a::ao e 50 (ab.cells aj.zero)::ao d 50 (ab.cells c)::M
def NB(c:aj)(l:List Ev)(z:Ev)(b:Bool):Prop:=(b=true->∃i,∃hi:i<l.length,jm c l i/\z=l[i]'hi)/\(b=false->∀i,¬jm c l i)
theorem Co.nb{c:aj}{l:List Ev}(h:Co c l v):∃z b,v=.tuple #[.agg (ab.cells z).toArray,.bool b]/\NB c l z b:=by
 rcases h with⟨i,hi,a,rfl⟩|⟨a,rfl⟩
 ·exact⟨_,true,rfl,(λ_=>⟨i,hi,a,rfl⟩),(λh=>by cases h)⟩
 ·exact⟨_,false,rfl,(λh=>by cases h),(λ_=>a)⟩
def tf(left:List Ev)(e:Ev):Bool:=left.any λx=>decide (x.cj=e.cj)
theorem Xh{p:Ev->Bool}(l:List Ev)(i:Nat)(h:i<l.length):(l.take (i+1)).filter p=if p (l[i]'h)then(l.take i).filter p++[l[i]'h]else(l.take i).filter p:=by rw[da h,lD];split<;>rename_i a<;>simp[a]
set_option maxRecDepth 20000 attribute [local irreducible] Ex aM Fn bI bJ bV fin meet ch aX bZ aP aN aI Rd aK Row ao Sub bk bP bS bN bg bR Hid bY
section
theorem VS(c:aj)(v0:Value)(l:List Ev)(M:List aa)(hr:aI M v0 l)(hl:l.length<=1000000)(hI:∀e∈l,cD e.n)(hc:c.I):Fn prog 235 #[c.val,v0] M
  λv L'=>∃v1 v2:Value,O1 v1/\O1 v2/\v=.tuple #[v1,v2,.agg (ab.cells (drain c (cK c l)).2.2).toArray]/\L'=aL v1 (drain c (cK c l)).1::aL v2 (drain c (cK c l)).2.1::M:=by
 have hF:=rT c l;have c8:fG (cK c l):=qE c l [] List.Pairwise.nil;have c7:∀e∈cK c l,cD e.n:=λe he=>hI e (xN c l e he);refine fo func235 ntmps235 ?_;refine rn ?_;(repeat(first|intro(g:Nat)|intro(v:Value)|intro(cs:List Value)|intro(d:_=List.set _ _ _)|intro h));revert g;intro w;revert g;intro u;refine TB Mk Ev J (λs=>?_);refine rn ?_;(repeat(first|intro(g:Nat)|intro(v:Value)|intro(cs:List Value)|intro(d:_=List.set _ _ _)|intro h));refine bF (L':=uF s w u c (.slice none 0 0) [] M) ?_ (ar (cA none _ _) (ar (cA none _ _) (cA none _ _)));refine bm [8,22] (λm vs L'=>∃(i:Nat) (q:Value),i<=l.length/\m=l.length-i/\q.oneCell'=true/\vs=[q,.int .i64 i]/\L'=uF s w u c q (cK c (l.take i)) M) l.length ⟨0,_,U,U,rfl,rfl,rfl⟩ ?_;rintro m vs g1 L' ⟨i,q,hi,rfl,ho,rfl,rfl⟩;refine bp [2,4,5,6,7,8,20,21,22] rG (λgk=>?_);by_cases o:i<l.length
 ·have j6:=rT c (l.take i);simp only[dy]at j6;have H:=Kr c l i o;have t:=Lv (l[i]'o) (cK c (l.take i));obtain⟨F,m7⟩:∃F,F=cK c (l.take i):=⟨_,rfl⟩;rw[<-m7]at j6 H t⊢
  refine rn ?_;(repeat(first|intro(g:Nat)|intro(v:Value)|intro(cs:List Value)|intro(d:_=List.set _ _ _)|intro h));refine ca [] call272 (BF (l[i]'o) _) ?_;rintro _ _ ⟨rfl,rfl⟩;rcases uf (l[i]'o).cj F 0 with⟨C,y⟩|⟨j,hj,C,y⟩
  ·rw[C]at t;refine Ai 4 J J J rfl J J C ?_;refine rn ?_;(repeat(first|intro(g:Nat)|intro(v:Value)|intro(cs:List Value)|intro(d:_=List.set _ _ _)|intro h));refine ca [] call171 (Ew c (l[i]'o).r (l[i]'o).n _) ?_;rintro _ _ ⟨rfl,rfl⟩;cases hh:c.has (l[i]'o).r (l[i]'o).n
   ·have V:cK c (l.take (i+1))=F++[l[i]'o]:=by rw[H];unfold kO;rw[ai (by rw[t,hh];simp)]
    clear H t y;refine rn ?_;(repeat(first|intro(g:Nat)|intro(v:Value)|intro(cs:List Value)|intro(d:_=List.set _ _ _)|intro h));refine TJ ?_;(repeat(first|intro(g:Nat)|intro(v:Value)|intro(cs:List Value)|intro(d:_=List.set _ _ _)|intro h));refine ma [] call272 (BF (l[i]'o) _) ?_;rintro _ _ ⟨rfl,rfl⟩;refine bn ?_;refine br rF ?_;refine mn ?_;(repeat(first|intro(g:Nat)|intro(v:Value)|intro(cs:List Value)|intro(d:_=List.set _ _ _)|intro h));refine Td _ J J J rK J C rE ?_;refine rn ?_;(repeat(first|intro(g:Nat)|intro(v:Value)|intro(cs:List Value)|intro(d:_=List.set _ _ _)|intro h));refine aS ⟨l.length-(i+1),uF s w u c v (F++[l[i]'o]) M,U,?_,i+1,v,U,rfl,by assumption,av rfl (av (aQ U) rfl),by rw[V]⟩;rw[uF,PC];exact rB
   ·have V:cK c (l.take (i+1))=F:=by rw[H];unfold kO;rw[an (.inr hh)]
    clear H t y;refine rn ?_;(repeat(first|intro(g:Nat)|intro(v:Value)|intro(cs:List Value)|intro(d:_=List.set _ _ _)|intro h));exact aS ⟨l.length-(i+1),uF s w u c q F M,U,rB,i+1,q,U,rfl,ho,av rfl (av (aQ U) rfl),by rw[V]⟩
  ·rw[y]at t;have V:cK c (l.take (i+1))=F:=by rw[H];unfold kO;rw[an (.inl t)]
   clear H t;refine vz 4 J J J rfl J J y ?_;refine rn ?_;(repeat(first|intro(g:Nat)|intro(v:Value)|intro(cs:List Value)|intro(d:_=List.set _ _ _)|intro h));exact aS ⟨l.length-(i+1),uF s w u c q F M,U,rB,i+1,q,U,rfl,ho,av rfl (av (aQ U) rfl),by rw[V]⟩
 ·obtain rfl:i=l.length:=U;rw[dI];obtain⟨a,hO⟩:∃a,a=cK c l:=⟨_,rfl⟩;rw[<-hO]at hF c8 c7⊢
  refine rn ?_;(repeat(first|intro(g:Nat)|intro(v:Value)|intro(cs:List Value)|intro(d:_=List.set _ _ _)|intro h));refine ca [3] call273 (K3 c s a _ c8 c7 hc) ?_;rintro _ _ ⟨R,rfl⟩;obtain⟨z,b,rfl,S⟩:=R.nb;clear R;refine rn ?_;(repeat(first|intro(g:Nat)|intro(v:Value)|intro(cs:List Value)|intro(d:_=List.set _ _ _)|intro h));revert g;intro L;refine bF (L':=zi s w u L c z (.slice none 0 0) [] q a a M) ?_ (ar rB (iT [4,4,2,1,2] _));refine bm [4,13,14] (λm vs L'=>∃(k:aj) (left x:List Ev) (A:Value) (L:Nat) (z:Ev) (b:Bool),m=left.length/\fG left/\left.Sublist a/\k.I/\x++(drain k left).1=(drain c a).1/\(drain k left).2=(drain c a).2/\NB k left z b/\A.oneCell'=true/\x.length+left.length=a.length/\vs=[A,.pointer (some ⟨L,0,none⟩),.bool b]/\L'=zi s w u L k z A x q a left M) a.length ⟨c,a,[],_,L,z,b,rfl,c8,Gr _,hc,rfl,rfl,S,rfl,by simp,rfl,rfl⟩ ?_;clear S;rintro m vs g3 L' ⟨k,left,x,A,L,z,b,rfl,d6,d7,j5,P,c9,S,o4,w9,rfl,rfl⟩;refine bp [2,4,5,6,7,8,13,14] rG (λgk=>?_);cases b
  ·have u4:=S.2 rfl;rw[oZ u4]at P c9;simp only[ck]at P;rw[<-P,<-c9];refine rn ?_;(repeat(first|intro(g:Nat)|intro(v:Value)|intro(cs:List Value)|intro(d:_=List.set _ _ _)|intro h));refine bF (L':=zv s w u k A x (.slice none 0 0) [] q a left M) ?_ (ar rB (iT [1] _));refine bm [5,82] (λm vs L'=>∃(i:Nat) (I:Value),i<=a.length/\m=a.length-i/\I.oneCell'=true/\vs=[I,.int .i64 i]/\L'=zv s w u k A x I ((a.take i).filter (tf left)) q a left M) a.length ⟨0,_,U,U,rfl,rfl,rfl⟩ ?_;rintro m vs g4 L' ⟨i,I,hi,rfl,o5,rfl,rfl⟩;refine bp [2,4,5,6,7,80,81,82] rG (λgk=>?_);by_cases o:i<a.length
   ·have Q:=Xh (p:=tf left) a i o;have j7:=jJ (tf left) (a.take i);simp only[dy]at j7;have t:=Lv (a[i]'o) left;obtain⟨W,hX⟩:∃W,W=(a.take i).filter (tf left):=⟨_,rfl⟩;rw[<-hX]at Q j7⊢
    refine rn ?_;(repeat(first|intro(g:Nat)|intro(v:Value)|intro(cs:List Value)|intro(d:_=List.set _ _ _)|intro h));refine ca [] call272 (BF (a[i]'o) _) ?_;rintro _ _ ⟨rfl,rfl⟩;rcases uf (a[i]'o).cj left 0 with⟨C,y⟩|⟨j,hj,C,y⟩
    ·rw[C]at t;rw[ai (by unfold tf;rw[t];simp)]at Q;clear t y;refine Ai 3 J J J rfl J J C ?_;refine rn ?_;(repeat(first|intro(g:Nat)|intro(v:Value)|intro(cs:List Value)|intro(d:_=List.set _ _ _)|intro h));exact aS ⟨a.length-(i+1),zv s w u k A x I W q a left M,U,rB,i+1,I,U,rfl,o5,av rfl (av (aQ U) rfl),by rw[Q]⟩
    ·rw[y]at t;rw[an (by unfold tf;rw[t];rfl)]at Q;clear t;refine vz 3 J J J rfl J J y ?_;refine rn ?_;(repeat(first|intro(g:Nat)|intro(v:Value)|intro(cs:List Value)|intro(d:_=List.set _ _ _)|intro h));exact aS ⟨a.length-(i+1),zv s w u k A x v (W++[a[i]'o]) q a left M,U,rB,i+1,v,U,rfl,by assumption,av rfl (av (aQ U) rfl),by rw[Q]⟩
   ·obtain rfl:i=a.length:=U;have p9:a.filter (tf left)=left:=Ux d7 c8;rw[dI,p9];refine rn ?_;(repeat(first|intro(g:Nat)|intro(v:Value)|intro(cs:List Value)|intro(d:_=List.set _ _ _)|intro h));refine Dd ?_;(repeat(first|intro(g:Nat)|intro(v:Value)|intro(cs:List Value)|intro(d:_=List.set _ _ _)|intro h));refine rn ?_;(repeat(first|intro(g:Nat)|intro(v:Value)|intro(cs:List Value)|intro(d:_=List.set _ _ _)|intro h));refine fr ?_;exact⟨_,ar rB (iT [1] _),A,I,o4,o5,rfl,rfl⟩
  ·obtain⟨i,f,j8,rfl⟩:=S.1 rfl;have u5:=qL d6 f j8;have w8:(left.eraseIdx i).length=left.length-1:=by rw[uZ,an f]
   have e9:=j8.2.1;have e8:=c7 _ (d7.subset (bT f));have s9:k.get (left[i]'f).r.toNat=(left[i]'f).n-1:=by have:=e9.2.2.2.1;omega
   have e1:=zZ k (left[i]'f).r.toNat;have w6:(ab.cells k).length=5:=rfl;have r0:=e8;unfold cD at r0;have y8:=e9.1;have y9:=e9.2.1;refine rn ?_;(repeat(first|intro(g:Nat)|intro(v:Value)|intro(cs:List Value)|intro(d:_=List.set _ _ _)|intro h));refine ca [] call272 (BF (left[i]'f) _) ?_;rintro _ _ ⟨rfl,rfl⟩;refine Ud _ J J rK rfl J (Zl d6 f) rE ?_;rw[<-Wj];refine rn ?_;(repeat(first|intro(g:Nat)|intro(v:Value)|intro(cs:List Value)|intro(d:_=List.set _ _ _)|intro h));have n9:cs=ab.cells (k.set (left[i]'f).r.toNat (left[i]'f).n):=by rw[d,<-aj.zH _ _ U,e1,s9,Int.sub_add_cancel,qh,mL]
   clear d;subst n9;revert g;intro gy;refine cb (L':=zi s w u gy (k.set (left[i]'f).r.toNat (left[i]'f).n) (left[i]'f) v (x++[left[i]'f]) q a (left.eraseIdx i) M) ?_ (ar rB (iT [4,4,4,0] _));refine rn ?_;(repeat(first|intro(v:Value)|intro h));refine ca [2] call273 (K3 (k.set (left[i]'f).r.toNat (left[i]'f).n) s (left.eraseIdx i) _ (d6.erase i) (λe he=>c7 e (d7.subset ((xh ..).subset he))) (j5.set U e8)) ?_;rintro _ _ ⟨R,rfl⟩;obtain⟨z,b,rfl,r9⟩:=R.nb;clear R;refine rn ?_;(repeat(first|intro(v:Value)|intro h));rw[u5]at P c9;exact aS ⟨(left.eraseIdx i).length,zi s w u gy (k.set (left[i]'f).r.toNat (left[i]'f).n) z v (x++[left[i]'f]) q a (left.eraseIdx i) M,U,ar rB (iT [2,2] _),_,_,_,v,gy,z,b,rfl,d6.erase i,(xh ..).trans d7,j5.set U e8,by rw[dB];exact P,c9,r9,by assumption,by simp;omega,rfl,rfl⟩
end
end
section
structure Sv where
 v:Value
 one:v.oneCell'=true
instance:ab Sv:=⟨1,λb=>[b.v],by decide,λ_=>rfl,λb=>by simp[b.one]⟩
section
variable{P:Program}{n:Nat}{ops:Array Oper}{Q:bx}{f:Nat->Value}{L:List aa}{rest:List Oper}{d:Nat}{ty:TypeId}{pos:String}{af:Array Edge}{gd:Option (Nat×Bool)}
theorem rq(g:List Nat){xs:List Operand}{vs:List Value}(hd:fv n dd=true)(hx:aH f x=.func (.func fn) fs.toArray #[])
  (q:∀(xs:Array Value) (w:World),(callFunc fn xs).run P w=.ok (.enter fn xs) w)(l:oe g L=L1)(k:xs.map (aH f)=vs)(b:Fn P fn (fs++vs).toArray L1 R)(h:∀v L',R v L'->aM P n ops rest Q (cg f dd v) L'):
  aM P n ops (⟨dd,.call ⟨.value x,xs.toArray,ts⟩,ty,pos,af,none⟩::rest) Q f L:=by
 have b:=b.sub (L:=L) (by subst l;exact iT g L);intro D F w0 f0 ws a w H c;refine wpList_plain rfl λy i=>?_;have u:(execOp a.eval ⟨dd,.call ⟨.value x,xs.toArray,ts⟩,ty,pos,af,none⟩).run P w=.ok (.enter fn (fs++vs).toArray) w:=by rw[H.2.1.eval];subst k;unfold execOp;simp[resolve,Deferred.ofValue,hx,invoke,q]
 unfold Oper.wp;rw[u];show Calls P fn _ w _;refine(b F w0 w H.1 H.2.2.1).mono ?_;rintro e w' ⟨v,L',rfl,p,r,j⟩;have m:gB D n F w0 f0 ws (a.put dd v) w' (cg f dd v) L':=by have:=ti (w':=w) H (gO w) H.2.2.1 hd (λt s=>c t (rh (o:=⟨dd,.call ⟨.value x,xs.toArray,ts⟩,ty,pos,af,none⟩) (t:=0) s)) v;exact⟨p,this.2.1,r,this.2.2.2⟩
 exact i _ _ (h v L' j D F w0 f0 ws _ _ m λd hd=>c d (qN hd))
theorem Lw(hx:aH f x=.slice none 0 0)(a:P.underlying t=some (.slice e)):
  aP P ⟨some d,.call ⟨.builtin .cap,#[x],#[t]⟩,ty,pos,af,gd⟩ f L (.int .i64 0):=λF w s=>by
 simp[execOp,resolve,invoke,builtin,hx,Builtin.cap_,cX a,goInt]
variable{α:Type}[ab α]
theorem PZ[b:hQ P e α]{k:IntKind}{m:Nat}{by_:Nat}(hd:Nat.blt d n=true)(hx:aH f x=.slice none 0 0)(hy:aH f y=.int k (m:Int))(M:P.underlying t=some (.slice e))(S:P.underlying xt=some (.int k'))(g:P.bytesOf e=by_)(q:0<m)(hb:m*by_<=140737488355328)(hm:m<=140737488355328)
  (h:∀a,O1 a->aM P n ops rest Q (aZ f d a) (aK a e (List.replicate m b.z)::L)):aM P n ops (⟨some d,.call ⟨.builtin .append,#[x,y],#[t,xt]⟩,ty,pos,af,none⟩::rest) Q f L:=by
 refine lr rfl hd (R:=λa L'=>a.oneCell'=true/\L'=aK a e (List.replicate m b.z)::L) (λF w s=>?_) (λa L' e=>by obtain⟨p,rfl⟩:=e;exact h a p);obtain⟨l,z,C,I,r,c8,o⟩:∃i z,P.info? e=some i/\i.size=ab.sz α/\i.bytes=by_/\i.zero=some z/\z.cells=(ab.cells b.z).toArray:=by
  have c:=b.eq;have j:=b.size;unfold fI at c;unfold Program.cellsOf at j;unfold Program.bytesOf at g;cases hi:P.info? e with
  |none=>rw[hi]at c;cases c
  |some l=>rw[hi]at c j g;simp at c j g;obtain⟨z,W,c7⟩:=c;exact⟨l,z,rfl,j,g,W,by rw[<-c7]⟩
 have H:=Lib.run_append_nil_zeros (P:=P) w t xt ty e l z k k' M S C c8 m q (by rw[I];exact ab.pos) U (by rw[r];omega);have v:=grownCap_ge w m 0 e;have u:grownCap w m 0 e<=maxLen:=grownCap_le_maxLen w m 0 e (by unfold maxLen;omega);have c9:z.cells.size=ab.sz α:=by rw[o];simp[ab.len]
 refine⟨.slice (some ⟨w.heap.size,0,none⟩) m (grownCap w m 0 e),w.drew.alloc (.cells (Builtin.zeroCells z.cells m++Builtin.zeroCells z.cells (grownCap w m 0 e-m)) e),_,.inl (by simp[execOp,resolve,invoke,builtin,hx,hy,H]),yJ (Rest.drew (gO w)) _,qx (w:=w.drew) _ (xw s) (A:=aK (.slice (some ⟨w.heap.size,0,none⟩) m (grownCap w m 0 e)) e (List.replicate m b.z)) ?_,rfl,rfl⟩;refine⟨cN _,.inr ⟨w.heap.size,_,_,by simp,rfl,by simpa using v,u,?_,?_⟩⟩
 ·simp only[EM,size_zeroCells,c9,<-jr];congr 1;omega
 ·have V:z.cells.toList=ab.cells b.z:=by rw[o]
  simp only[Fs,ju];rw[GB V,Bj (by rw[cN];simp),ic (by rw[cN];simp)]
end
end
section
@[reducible] def dU(g:Nat)(most:Int)(c:aj)(v:Value):aa:=ao g 273 [.int .i64 most,.int .i64 c.a,.int .i64 c.b,.int .i64 c.c,.int .i64 c.d,.int .i64 c.e,v]
theorem WC:bY (.slice none 0 0) 0:=⟨none,0,rfl,bj _,eM _⟩
set_option maxRecDepth 20000 attribute [local irreducible] Ex aM Fn bI bJ bV fin meet ch aX bZ aP aN aI Rd aK Row ao Sub bk bP bS bN bg bR Hid bY
section
theorem TU(most:Int)(c:aj)(L:List aa):Fn prog 188 #[.int .i64 most,c.val] L λv L'=>∃g,v=.pointer (some ⟨g,0,none⟩)/\L'=dU g most c (.slice none 0 0)::aL (.slice none 0 0) []::L:=by refine fo func188 ntmps188 ?_;refine rn ?_;intros;refine fr ?_;exact⟨_,ar (bl _ (iC _ (bW _))) (bW _) |> λh=>ar (bl _ (cA none _ _)) h,_,rfl,rfl⟩
theorem wO(g:Nat)(most:Int)(c:aj)(v0:Value)(a:List Ev)(M:List aa):Fn prog 100 #[.pointer (some ⟨g,0,none⟩)] (dU g most c v0::aL v0 a::M)
  λr L'=>r=.agg (ab.cells c).toArray/\L'=dU g most c v0::aL v0 a::M:=by
 refine fo func100 ntmps100 ?_;exact bh
theorem Vj(g:Nat)(most:Int)(c:aj)(v0:Value)(a:List Ev)(M:List aa)(d:a.length<=1000000):Fn prog 121 #[.pointer (some ⟨g,0,none⟩)] (dU g most c v0::aL v0 a::M)
  λr L'=>O1 r/\L'=aL r a::dU g most c v0::aL v0 a::M:=by
 refine fo func121 ntmps121 ?_;refine rn ?_;intros;refine bc [] J call181 J J (KF _ _ _ rD U) ?_;rintro r _ ⟨b,rfl⟩;refine rn ?_;intros;refine fr ?_;exact⟨_,rB,b,rfl⟩
theorem Iw(g:Nat)(most:Int)(c:aj)(v0 u:Value)(d l:List Ev)(M:List aa)(m:aI (dU g most c v0::aL v0 d::M) u l)(i:l.length<=1000000)(f:∀e∈l,cD e.n)(h:c.I):
  Fn prog 174 #[.pointer (some ⟨g,0,none⟩),u] (dU g most c v0::aL v0 d::M)
  λv L'=>∃a b:Value,O1 a/\O1 b/\v=.tuple #[a,b,.agg (ab.cells (drain c (cK c l)).2.2).toArray]/\L'=aL a (drain c (cK c l)).1::aL b (drain c (cK c l)).2.1::dU g most c v0::aL v0 d::M:=by
 refine fo func174 ntmps174 ?_;refine rn ?_;intros;refine bc [] J call235 J J (VS c u l _ rD i f h) ?_;rintro _ _ ⟨a,b,j,k,rfl,rfl⟩;refine rn ?_;intros;refine fr ?_;exact⟨_,rB,a,b,j,k,rfl,rfl⟩
theorem VM(m:Nat)(M:List aa)(c:m<=1000000000):Fn prog 291 #[.slice none 0 0,.int .i64 m] M λv L'=>O1 v/\L'=aL v []::M:=by
 refine fo func291 ntmps291 ?_;refine rn ?_;(repeat(first|intro(v:Value)|intro(o:O1 _)|intro h));refine cH J J J (Lw J J) ?_;have b:=WC;by_cases a:m=0
 ·subst a;refine rn ?_;(repeat(first|intro(v:Value)|intro(o:O1 _)|intro h));refine fr ?_;exact⟨_,cA none _ _,rfl,rfl⟩
 ·refine rn ?_;(repeat(first|intro(v:Value)|intro(o:O1 _)|intro h));refine cH J J J (Lw J J) ?_;refine rn ?_;(repeat(first|intro(v:Value)|intro(o:O1 _)|intro h));refine PZ (m:=m) (by_:=112) J (show bg (.slice none 0 0) 0 (0:Int).toNat 12=.slice none 0 0 by simp[bg]) J J J rQ U U U (λv o=>?_);refine rn ?_;(repeat(first|intro(o:O1 _)|intro h));refine fr ?_;exact⟨_,xD (α:=Ev) 0 rfl (h:=0) (eM _) (sz:=12) rfl,jB o,rfl⟩
end
section
theorem Xv(u d e:Value)(g:O1 d)(i:O1 e)(a b:List Ev)(M:List aa)(s:aI M u [(⟨d,g⟩:Sv),⟨e,i⟩])(n:aI M d a)(o:aI M e b)(p:a.length<=1000000)(q:b.length<=1000000):
  Fn prog 254 #[u] M λr L'=>O1 r/\L'=aL r (a++b)::M:=by
 refine fo func254 ntmps254 ?_;refine rn ?_;(repeat(first|intro(v:Value)|intro h));refine ll [3,11] (λm vs=>(m=2/\vs=[.int .i64 0,.int .i64 0])\/(m=1/\vs=[.int .i64 a.length,.int .i64 1])\/(m=0/\vs=[.int .i64 (a.length+b.length),.int .i64 2])) 2 (.inl ⟨rfl,rfl⟩) ?_;rintro m vs k (⟨rfl,rfl⟩|⟨rfl,rfl⟩|⟨rfl,rfl⟩)
 ·refine bp [0,3,9,10,11] rG (λc=>?_);refine rn ?_;(repeat(first|intro(v:Value)|intro h));exact aS ⟨1,_,U,bW _,.inr (.inl ⟨rfl,av (aQ U) (av rfl rfl)⟩),rfl⟩
 ·refine bp [0,3,9,10,11] rG (λc=>?_);refine rn ?_;(repeat(first|intro(v:Value)|intro h));exact aS ⟨0,_,U,bW _,.inr (.inr ⟨rfl,av (aQ U) (av rfl rfl)⟩),rfl⟩
 ·refine bp [0,3,9,10,11] rG (λc=>?_);refine rn ?_;(repeat(first|intro(v:Value)|intro h));refine ca [] call291 (VM (a.length+b.length) _ U) ?_;rintro v0 _ ⟨t,rfl⟩;refine rn ?_;(repeat(first|intro(v:Value)|intro h));refine bm [6,27] (λm vs L'=>(m=2/\vs=[v0,.int .i64 0]/\L'=aL v0 []::M)\/(m=1/\∃v:Value,v.oneCell'=true/\vs=[v,.int .i64 1]/\L'=aL v a::M)\/(m=0/\∃v:Value,v.oneCell'=true/\vs=[v,.int .i64 2]/\L'=aL v (a++b)::M)) 2 (.inl ⟨rfl,rfl,rfl⟩) ?_;rintro m vs l L' (⟨rfl,rfl,rfl⟩|⟨rfl,j,f,rfl,rfl⟩|⟨rfl,j,f,rfl,rfl⟩)
  ·refine bp [6,25,26,27] rG (λc=>?_);refine rn ?_;(repeat(first|intro(v:Value)|intro h));exact aS ⟨1,_,U,bW _,.inr (.inl ⟨rfl,v,by assumption,rfl,rfl⟩)⟩
  ·refine bp [6,25,26,27] rG (λc=>?_);refine rn ?_;(repeat(first|intro(v:Value)|intro h));exact aS ⟨0,_,U,bW _,.inr (.inr ⟨rfl,v,by assumption,rfl,rfl⟩)⟩
  ·refine bp [6,25,26,27] rG (λc=>?_);refine rn ?_;intros;refine fr ?_;exact⟨_,rB,f,rfl⟩
def D2(g:Nat)(most:Int)(c:aj)(v0:Value)(a l:List Ev)(M:List aa)(r:Value)(L':List aa):Prop:=
 (most<((drain c (cK c (a++l))).2.1.length:Int)/\r=.tuple #[.slice none 0 0,.int .i64 22]/\L'=dU g most c v0::aL v0 a::M)\/
 (¬most<((drain c (cK c (a++l))).2.1.length:Int)/\∃b d:Value,b.oneCell'=true/\d.oneCell'=true/\r=.tuple #[b,.int .i64 0]/\
  L'=dU g most (drain c (cK c (a++l))).2.2 d::aL d (drain c (cK c (a++l))).2.1::aL b (drain c (cK c (a++l))).1::M)
theorem PK(b:Nat)(most:Int)(c:aj)(v0 u:Value)(a l:List Ev)(M:List aa)(y:aI M u l)(d:O1 v0)(f:O1 u)(v:a.length<=100000)(w:l.length<=100000)(m:∀e∈a++l,cD e.n)(n:c.I):
  Fn prog 201 #[.pointer (some ⟨b,0,none⟩),u] (dU b most c v0::aL v0 a::M) (D2 b most c v0 a l M):=by
 have p:(a++l).length<=1000000:=by rw[bo];omega
 have o:=BD c (cK c (a++l)) (qE c _ [] List.Pairwise.nil);have x:=rT c (a++l);refine fo func201 ntmps201 ?_;refine rn ?_;(repeat(first|intro(g:Nat)|intro(zs:List _)|intro h));refine xJ (parts:=[(0,.tmp 17),(1,.tmp 18)]) (ps:=[(0,[v0]),(1,[u])]) (vs:=[v0,u]) (zs:=[.slice none 0 0]) [(⟨v0,d⟩:Sv),⟨u,f⟩] J J J J J J rQ J (wM J d (wM J f Dz)) J rfl rfl rfl (λg=>?_);refine bc [] J call254 J J (Xv _ v0 u d f a l _ rD rD rD U U) ?_;rintro j _ ⟨z,rfl⟩;refine rq [3,3] (xs:=[.tmp 20]) (fs:=[.pointer (some ⟨b,0,none⟩)]) (vs:=[j]) J J call174 rE J (Iw b most c v0 j a (a++l) _ rD p m n) ?_;rintro _ _ ⟨s,t,q,r,rfl,rfl⟩;obtain⟨D,k⟩:∃D,D=drain c (cK c (a++l)):=⟨_,rfl⟩;unfold D2;rw[<-k]at o⊢
 by_cases i:most<(D.2.1.length:Int)
 ·refine rn ?_;intros;refine fr ?_;exact⟨_,rB,.inl ⟨i,rfl,rfl⟩⟩
 ·refine rn ?_;intros;refine fr ?_;exact⟨_,ar rB (iT [3,2] _),.inr ⟨i,s,t,q,r,rfl,rfl⟩⟩
def Ia(g:Nat)(most:Int)(c:aj)(v0:Value)(a:List Ev)(e:Ev)(M:List aa)(r:Value)(L':List aa):Prop:=
 (¬e.dY c/\r=.int .i64 20/\L'=dU g most c v0::aL v0 a::M)\/(e.dY c/\r=.int .i64 0/\L'=dU g most (c.set e.r.toNat e.n) v0::aL v0 a::M)
theorem LX(c:aj)(e:Ev):(e.dY c->drain c (cK c [e])=([e],[],c.set e.r.toNat e.n))/\(¬e.dY c->(drain c (cK c [e])).1=[]):=by
 have b:cK c [e]=if c.has e.r e.n=true then[]else[e]:=by simp[cK,kO]
 constructor
 ·intro h;have m:c.has e.r e.n=false:=aj.qo λk=>by have:=h.2.2.2.1;omega
  rw[b,ai (by rw[m];simp)];have hd:fG [e]:=by simp[fG]
  have hx:jm c [e] 0:=⟨by simp,h,λj g a=>by
   have:j=0:=by simpa using g
   subst this;exact eH _⟩
  rw[qL hd (by simp) hx];have n:drain (c.set e.r.toNat e.n) ([]:List Ev)=([],[],c.set e.r.toNat e.n):=oZ λi ⟨hi,_⟩=>by simp at hi
  show(e::(drain (c.set e.r.toNat e.n) []).1,(drain (c.set e.r.toNat e.n) []).2)=_;rw[n]
 ·intro h;rw[b];rw[oZ];rintro i ⟨hi,a,_⟩;split at hi
  ·simp at hi
  ·rename_i d;have f:i=0:=by simpa using hi
   subst f;apply h;have l:(if c.has e.r e.n=true then[]else[e])=[e]:=ai d;simp only[l]at a;exact a
theorem Rj(a:Nat)(most:Int)(c:aj)(v0:Value)(d:List Ev)(e:Ev)(M:List aa)(f:cD e.n)(g:c.I):
  Fn prog 104 #[.pointer (some ⟨a,0,none⟩),.agg (ab.cells e).toArray] (dU a most c v0::aL v0 d::M) (Ia a most c v0 d e M):=by
 refine fo func104 ntmps104 ?_;refine rn ?_;intros;refine bc [3,3] J call174 rE J (Iw a most c v0 _ d [e] _ rD (by simp) (by intro x hx;simp at hx;subst hx;exact f) g) ?_;rintro _ _ ⟨n,o,l,m,rfl,rfl⟩;unfold Ia;by_cases h:e.dY c
 ·rw[(LX c e).1 h];refine rn ?_;intros;refine fr ?_;exact⟨_,ar rB (iT [2,2] _),.inr ⟨h,rfl,rfl⟩⟩
 ·have b:=(LX c e).2 h;generalize drain c (cK c [e])=D at b⊢
  obtain⟨i,j,k⟩:=D;simp only at b;subst b;refine rn ?_;intros;refine fr ?_;exact⟨_,ar rB (iT [2,2] _),.inl ⟨h,rfl,rfl⟩⟩
end
end
end Go.Proofs.YtogcfijlhpaeeaaGreat
