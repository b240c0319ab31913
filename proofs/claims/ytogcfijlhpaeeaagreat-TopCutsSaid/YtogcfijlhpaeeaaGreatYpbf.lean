/- Texts. No condition. -/
import Derived.Test.YtogcfijlhpaeeaaGreatYpbe
open Go.RowKit
set_option linter.all false
set_option maxHeartbeats 32000000
namespace Go.Proofs.YtogcfijlhpaeeaaGreat
variable{k:Nat}{r:Int}{c:aJ}{w:aD}{α:Type}{st s:aG}{A:List Ev}
section
def lu(w:aD)(r:Int):List Ev:=(replay (w.node r).aE).1
theorem ir.WT{P:Ev->Prop}(g:cy k c r st)(h:ir P st)(e:Ed)(l:st.dg c r e=0->st.dm r e∈(replay (st.edit c r e).1.aE).1->P (st.dm r e)):ir P (st.edit c r e).1:=by
 by_cases b:st.dg c r e≠0
 ·unfold aG.edit;rw[an b];exact h
 have f:st.dg c r e=0:=by simpa using b
 have n:st.up=true:=by
  cases hh:st.up with
  |true=>rfl
  |false=>unfold aG.dg at f;rw[an hh]at f;cases f
 have m:=(g.up n).2;rcases tS st (bw 1 r [st.dm r e])with a|a
 ·-- nothing was kept
  unfold aG.edit;rw[ai b];have i:(st.write (bw 1 r [st.dm r e])).2≠0:=by intro d;rw[mZ d]at a;have:=cn List.length a;simp at this
  rw[an i];exact ir.down (by rw[a];exact h.1) ((st.mq _).2 i)
 ·have j:st.dm r e∈(replay (st.edit c r e).1.aE).1:=by
   have:(st.edit c r e).1.aE=st.aE++[bw 1 r [st.dm r e]]:=by
    unfold aG.edit;rw[ai b];split
    ·exact a
    ·exact a
   rw[this,iR,m];show st.dm r e∈st.log++[st.dm r e];simp
  exact h.edit g e λd=>l d j
theorem eS.TI{P:Ev->Prop}(g:bO k c w)(h:eS P c w)(s:cB)(d:s.kind=0->w.has s.r->(w.node s.r).dg c s.r s.ed=0->(w.node s.r).dm s.r s.ed∈lu (w.step c s).1 s.r->P ((w.node s.r).dm s.r s.ed)):eS P c (w.step c s).1:=by
 by_cases b:s.kind=0
 ·by_cases a:w.has s.r
  ·have e:(w.step c s).1=w.aZ s.r ((w.node s.r).edit c s.r s.ed).1:=by unfold aD.step;rw[ai U,ai U,ai (λk=>k a),an b]
   rw[e]at d⊢
   refine h.aZ a ((h.nd s.r a).WT (g.nd s.r a) s.ed λf i=>d b a f ?_);unfold lu;rw[pA a _ _ a.1,an rfl];exact i
  ·exact h.step g s λ_ k=>absurd k a
 ·exact h.step g s λk=>absurd k b
theorem Zv(g:cy k c r st)(e:Ed):(replay (st.edit c r e).1.aE).1=(replay st.aE).1\/(st.up=true/\st.dg c r e=0/\(replay (st.edit c r e).1.aE).1=(replay st.aE).1++[st.dm r e]):=by
 by_cases b:st.dg c r e≠0
 ·left;unfold aG.edit;rw[an b]
 have a:st.dg c r e=0:=by simpa using b
 have h:st.up=true:=by
  cases hh:st.up with
  |true=>rfl
  |false=>unfold aG.dg at a;rw[an hh]at a;cases a
 have f:(st.edit c r e).1.aE=(st.write (bw 1 r [st.dm r e])).1.aE:=by unfold aG.edit;rw[ai b];split<;>rfl
 rw[f];rcases tS st (bw 1 r [st.dm r e])with d|d
 ·left;rw[d]
 ·right;rw[d,iR];exact⟨h,a,rfl⟩
theorem Rr(g:cy k c r st)(f:aF×Int):(replay (st.dw c r f).1.aE).1=(replay st.aE).1\/(st.up=true/\(∀e∈f.1.l,e.r≠r)/\(replay (st.dw c r f).1.aE).1=(replay st.aE).1++(fJ st.aT (st.held++f.1.l)).1):=by
 unfold aG.dw;split
 ·exact .inl rfl
 rename_i n;have d:st.up=true:=by cases hh:st.up with
  |true=>rfl
  |false=>exact absurd hh n
 split
 ·exact .inl rfl
 split
 ·exact .inl rfl
 split
 ·exact .inl rfl
 rename_i j;have i:∀x:aF,(iM (replay st.aE) x).1=(replay st.aE).1->(replay (st.write x).1.aE).1=(replay st.aE).1:=λx hx=>by
  rcases tS st x with a|a
  ·rw[a]
  ·rw[a,iR];exact hx
 split
 ·left;unfold aG.iD;simp only;split
  ·rfl
  split
  ·exact i _ rfl
  ·exact i _ rfl
 split
 ·unfold aG.jt;split
  ·exact .inl rfl
  split
  ·exact .inl rfl
  have hx:(replay (st.write (bw 2 r (fJ st.aT (st.held++f.1.l)).1)).1.aE).1=(replay st.aE).1\/(replay (st.write (bw 2 r (fJ st.aT (st.held++f.1.l)).1)).1.aE).1=(replay st.aE).1++(fJ st.aT (st.held++f.1.l)).1:=by
   rcases tS st (bw 2 r (fJ st.aT (st.held++f.1.l)).1)with a|a
   ·left;rw[a]
   ·right;rw[a,iR];rfl
  have b:∀e∈f.1.l,e.r≠r:=λe m a=>j (eR.2 ⟨e,m,by simp[a]⟩);split
  ·exact hx.imp id λh=>⟨d,b,h⟩
  ·exact hx.imp id λh=>⟨d,b,h⟩
 ·exact .inl rfl
theorem SA(g:cy k c r st):(replay (st.state r).1.aE).1=(replay st.aE).1:=by
 unfold aG.state;split
 ·rfl
 rename_i e;have d:st.up=true:=by cases hh:st.up with
  |true=>rfl
  |false=>exact absurd hh e
 split
 ·rfl
 have b:(replay (st.write ⟨4,r,st.sent,aj.zero,st.log⟩).1.aE).1=(replay st.aE).1:=by
  rcases tS st ⟨4,r,st.sent,aj.zero,st.log⟩with a|a
  ·rw[a]
  ·rw[a,iR,(g.up d).2];rfl
 split
 ·exact b
 ·exact b
theorem Ur(g:cy k c r st)(e:Ed)(h:ix c r (replay st.aE).1):ix c r (replay (st.edit c r e).1.aE).1:=by
 rcases Zv g e with hd|⟨d,a,hd⟩
 ·rw[hd];exact h
 ·rw[hd];have j:=(g.up d).2;have l:=g.aT d;have f:(st.dm r e).c=cr (replay st.aE).1:=by rw[j];exact l
  refine h.snoc (λi _=>by rw[f];exact eH _) λ_=>⟨f,?_⟩;rw[j];show kb c.l c.p (iv (cf st.log)) e=0;unfold aG.dg at a;rw[ai (by rw[d];simp)]at a;split at a
  ·rename_i b;exact absurd a b
  ·rename_i b;simpa using b
theorem Ra(g:cy k c r st)(f:aF×Int)(h:ix c r (replay st.aE).1):ix c r (replay (st.dw c r f).1.aE).1:=by
 rcases Rr g f with hd|⟨b,j,hd⟩
 ·rw[hd];exact h
 ·rw[hd];obtain⟨m1,_⟩:=yD st.aT (st.held++f.1.l);have d:∀e∈st.held++f.1.l,e.r≠r:=λe a=>(ct.1 a).elim (λhx=>((g.held b).2 e hx).2.1) (j e);refine h.app _ _ ?_ λe a=>d e (m1 e a);have i:cr (replay st.aE).1=st.aT:=by rw[(g.up b).2,g.aT b]
  rw[i,Bt];exact ZX _ _ (qE _ _ [] List.Pairwise.nil)
structure pZ(c:aJ)(w:aD):Prop where
 ok:∀r:Int,w.has r->ix c r (lu w r)
 al:eS (λe=>w.has e.r/\e∈lu w e.r) c w
theorem eS.imp{P Q:Ev->Prop}(h:eS P c w)(b:∀e,P e->Q e):eS Q c w:=
 ⟨λr d=>⟨λe a=>b e ((h.nd r d).1 e a),λf=>⟨λe a=>b e (((h.nd r d).2 f).1 e a),λe a=>b e (((h.nd r d).2 f).2 e a)⟩⟩,λs g e a=>b e (h.aO s g e a),λx hx e a=>b e (h.fl x hx e a)⟩
theorem wD(h:∀r:Int,w.has r->ix c r (lu w r))(d:w.has r)(f:ix c r (replay s.aE).1):∀q:Int,(w.aZ r s).has q->ix c q (lu (w.aZ r s) q):=λq b=>by
 have a:=(zP w r s q).1 b;unfold lu;rw[pA d s q a.1];split
 ·rename_i e;rw[e];exact f
 ·exact h q a
theorem RM(g:bO k c w)(h:∀r:Int,w.has r->ix c r (lu w r))(s:cB):∀r:Int,(w.step c s).1.has r->ix c r (lu (w.step c s).1 r):=by
 have j:∀(v:aD) (b:Int) (f:aF×Int),bO k c v->(∀r:Int,v.has r->ix c r (lu v r))->∀r:Int,(v.eJ c b f).1.has r->ix c r (lu (v.eJ c b f).1 r):=λv b f l d=>by
  unfold aD.eJ;split
  ·rename_i a;exact wD d a (Ra (l.nd b a) f (d b a))
  ·simp only;split
   ·exact d
   ·exact d
 unfold aD.step;split
 ·unfold aD.eC;split
  ·have e:(∀r:Int,(if s.kind=5 then w else{w with fl:=dQ w.fl s.at_}).has r->ix c r (lu (if s.kind=5 then w else{w with fl:=dQ w.fl s.at_}) r))/\bO k c (if s.kind=5 then w else{w with fl:=dQ w.fl s.at_}):=by
    split
    ·exact⟨h,g⟩
    ·exact⟨h,⟨g.n,g.nd,g.aO,by have:=g.fl.1;have:=tE w.fl s.at_;show(dQ w.fl s.at_).length<=k;omega,λy hy=>g.fl.2 y (vm hy)⟩⟩
   simp only;split
   ·exact e.1
   ·exact j _ _ _ e.2 e.1
  ·exact h
 split
 ·unfold aD.dj;split
  ·rename_i a;split
   ·exact wD h a (h s.r a)
   ·split
    ·exact wD h a (by rw[NO];exact h s.r a)
    ·exact wD h a (h s.r a)
  ·split
   ·split
    ·exact h
    ·split
     ·exact h
     ·exact h
   ·exact h
 split
 ·exact h
 rename_i a;have a:w.has s.r:=by
  by_cases h:w.has s.r
  ·exact h
  ·exact absurd h a
 have gn:=g.nd s.r a;have i:∀p,∀r:Int,(w.send p).1.has r->ix c r (lu (w.send p).1 r):=λp=>by
  unfold aD.send;simp only;split
  ·exact h
  ·exact h
 split
 ·exact wD h a (Ur gn s.ed (h s.r a))
 split
 ·exact i _
 split
 ·exact i _
 split
 ·exact i _
 split
 ·exact wD h a (by rw[SA gn];exact h s.r a)
 ·exact h
theorem pZ.step{k:Nat}{c:aJ}{w:aD}(g:bO k c w)(h:pZ c w)(i:k<=198)(s:cB):pZ c (w.step c s).1:=by
 refine⟨RM g h.ok s,?_⟩;have m:=(Vl g s).1;have f:=g.step i s;have d:∀r,w.has r->(w.step c s).1.has r:=λr a=>by have n:=g.n;have o:=f.n;exact⟨a.1,by have:=a.2;omega⟩
 refine eS.TI g (h.al.imp λe b=>⟨d _ b.1,?_⟩) s λ_ a _ j=>⟨d _ a,j⟩;obtain⟨t,l⟩:=(m.nd e.r b.1).1;unfold lu;rw[<-l];exact ct.2 (.inl b.2)
theorem pZ.Pr(g:bO k c w)(h:pZ c w):yQ c w.nodes.length (λs=>lu w s):=by have b:∀s:Nat,s<w.nodes.length->w.has (s:Int):=λs a=>⟨U,U⟩;refine⟨λs a=>(g.nd s (b s a)).dK.num,λs a=>(g.nd s (b s a)).dK.iZ,λs a=>h.ok s (b s a),λs a e d=>?_⟩;have:=(h.al.nd s (b s a)).1 e d;refine⟨this.1.2,?_⟩;show e∈lu w ((e.r.toNat:Nat):Int);rw[show((e.r.toNat:Nat):Int)=e.r by have:=this.1.1;omega];exact this.2
end
section
theorem GH(k:List UInt8):∀l:List (List UInt8),k∈dX l↔k∈l
 |[]=>Ad
 |[x]=>Ad
 |x::y::l=>by
  have c:=GH k (y::l);unfold dX;split
  ·rename_i h;subst h;rw[c];simp
  ·rw[gA,c,gA (a:=k) (b:=x)]
theorem Ms:∀l:List (List UInt8),l.Pairwise (·<=·)->(dX l).Nodup
 |[],_=>EU
 |[x],_=>by simp[dX]
 |x::y::l,h=>by
  rw[km]at h;have a:=Ms (y::l) h.2;unfold dX;split
  ·exact a
  ·rename_i c;rw[sd];refine⟨λhx=>c ?_,a⟩;have hx:=(GH x (y::l)).1 hx;have b:=h.1 y (by simp);rcases gA.1 hx with hx|hx
   ·exact hx
   ·rw[km]at h;exact List.le_antisymm b (h.2.1 x hx)
structure jb(l:List Ev):Prop where
 num:lH l
 may:∀e∈l,e.aW
 cz:∀A e B,l=A++e::B->∀i,i<5->e.c.get i<=(cr A).get i
 tr:∀e∈l,∀y∈l,e.dq y=true->∀i,i<5->e.c.get i<=y.c.get i
theorem jb.pre{l:List Ev}{e:Ev}(h:jb (l++[e])):jb l:=
 ⟨(sC.1 h.num).1,λx hx=>h.may x (by simp[hx]),λA x B a=>h.cz A x (B++[e]) (by rw[a];simp),λx hx y hy=>h.tr x (by simp[hx]) y (by simp[hy])⟩
theorem EK(a e:Ev)(c:a.aW):a.dq e=true↔a.n<=e.c.get a.r.toNat:=by
 have b:=c.r;have d:=c.n;unfold Ev.dq aj.has;simp only[dT,kZ];constructor
 ·rintro⟨_,h⟩;exact h
 ·intro h;exact⟨⟨⟨b.1,b.2⟩,d.1⟩,h⟩
theorem jb.trans{l:List Ev}(h:jb l){a e y:Ev}(f:a∈l)(g:e∈l)(hy:y∈l)(c:a.dq e=true)(d:e.dq y=true):a.dq y=true:=by
 have b:=h.may a f;rw[EK a _ b]at c⊢
 have i:=b.r;have:=h.tr e g y hy d a.r.toNat U;omega
theorem jb.last{l:List Ev}{e:Ev}(h:jb (l++[e])):(∀x∈l,e.dq x=false)/\e∉l:=by
 have j:e.n=(cr l).get e.r.toNat+1:=(sC.1 h.num).2.1;have b:=h.may e (by simp);have i:=b.r;have c:∀x∈l,0<=x.r/\x.r<5:=λx hx=>(h.may x (by simp[hx])).r;refine⟨λx hx=>?_,λd=>?_⟩
 ·cases hb:e.dq x with
  |false=>rfl
  |true=>
   exfalso;rw[EK e x b]at hb;obtain⟨A,B,a⟩:=xf hx;have f:=h.cz A x (B++[e]) (by rw[a];simp) e.r.toNat U;have g:(cr A).get e.r.toNat<=(cr l).get e.r.toNat:=by rw[a];unfold cr;rw[js];exact GS _ _ _
   omega
 ·have:=Fi (h.pre).num c e d;omega
def sP(e y:Ev):Prop:=y.ed.key=e.ed.key/\y.ed.label=e.ed.label/\y.ed.value=e.ed.value/\(y.ed.kind=4\/y.ed.kind=5)
theorem xj{l:List Ev}{a:Ev}(h:a∈sv l):a∈l/\a.ed.kind=1:=by obtain⟨A,B,b,c,_⟩:=(ML _ _).1 h;exact⟨by rw[b];simp,c⟩
theorem Yi(k:List UInt8)(a:List Ev)(h:∀e∈a,1<=e.ed.kind/\e.ed.kind<=5):∀y∈cp k (cf a),y∈a:=by
 induction a using oK with
 |h0=>intro y hy;cases hy
 |hs l x ih=>
  have b:∀e∈l,1<=e.ed.kind/\e.ed.kind<=5:=λy hy=>h y (by simp[hy]);intro y hy;rw[xZ]at hy;unfold ik at hy;rw[AW _ _ _ _ (vr l b).nd]at hy;split at hy
  ·rename_i c;rcases EY hy with hy|hy
   ·rw[<-c]at hy;exact ct.2 (.inl (ih b y hy))
   ·rw[hy.1];simp
  ·exact ct.2 (.inl (ih b y hy))
theorem Ik{k:List UInt8}{l:List Ev}(h:∀e∈l,1<=e.ed.kind/\e.ed.kind<=5){a:Ev}(b:a∈sv l)(c:a.ed.key=k):a∈cp k (cf l)/\a.ed.kind=1:=by have:a∈(sv l).filter λa=>decide (a.ed.key=k):=fW.2 ⟨b,by simpa using c⟩;rw[<-FO l h k]at this;exact⟨(fW.1 this).1,(xj b).2⟩
theorem CQ{L:List Ev}{a e:Ev}(b:a∈L)(d:a.ed.kind=1)(c:a.dq e=true):lP L e=true:=eR.2 ⟨a,b,by simp[d,c]⟩
theorem No(k:List UInt8)(l:List Ev)(h:jb l):∀e,(∃a∈sv l,a.ed.key=k/\a.dq e=true)->((e∈cp k (cf l)/\e.ed.kind=4)↔∃m j,l=m++e::j/\e.ed.kind=4/\e.ed.key=k/\∀y∈j,sP e y->e.dq y=false):=by
 induction l using oK with
 |h0=>rintro e ⟨a,g,_⟩;cases g
 |hs l x ih=>
  rintro e ⟨a,g,F,t⟩;have hp:=h.pre;have e9:=h.last;have M:∀e∈l,1<=e.ed.kind/\e.ed.kind<=5:=λy hy=>xo (h.may y (by simp[hy])).ed;have m8:∀e∈l++[x],1<=e.ed.kind/\e.ed.kind<=5:=λy hy=>xo (h.may y hy).ed;have m9:=xo (h.may x (by simp)).ed;have hm:=vr l M;have I:cp k (cf (l++[x]))=if k=x.ed.key then ga (cp k (cf l)) x else cp k (cf l):=by
   rw[xZ];unfold ik;rw[AW _ _ _ _ hm.nd];split
   ·rename_i i;rw[<-i]
   ·rfl
  have c8:=Yi k l M;have j5:=(xj g).1;by_cases A:e=x
  ·subst A;constructor
   ·rintro⟨d,f⟩;rw[I]at d;split at d
    ·rename_i i;exact⟨l,[],rfl,f,i.symm,λy hy=>by cases hy⟩
    ·exact absurd (c8 e d) e9.2
   ·rintro⟨m,j,_,f,i,_⟩;have H:a∈sv l:=by rw[yk]at g;unfold qF at g;rw[ai U,ai U]at g;exact g
    have o:=Ik M H F;rw[I,an i.symm];refine⟨?_,f⟩;unfold ga;rw[ai U,ai U,ai U,ai U,an (CQ o.1 o.2 t)];simp
  ·by_cases w:e∈l
   ·have H:a∈sv l:=by
     rw[yk]at g;unfold qF at g;split at g
     ·rcases ct.1 g with d|d
      ·exact d
      ·have S:a=x:=by simpa using d
       rw[S,e9.1 e w]at t;cases t
     split at g
     ·exact(fW.1 g).1
     ·exact g
    have o:=Ik M H F;have ih:=ih hp e ⟨a,H,F,t⟩;have hR:(∃m j,l++[x]=m++e::j/\e.ed.kind=4/\e.ed.key=k/\∀y∈j,sP e y->e.dq y=false)↔(∃m j,l=m++e::j/\e.ed.kind=4/\e.ed.key=k/\∀y∈j,sP e y->e.dq y=false)/\(sP e x->e.dq x=false):=by
     constructor
     ·rintro⟨m,j,u,f,i,hy⟩;rcases CZ j with rfl|⟨d8,y,rfl⟩
      ·obtain⟨_,d⟩:=vq u rfl;simp only[jH,nV]at d;exact absurd d.symm A
      ·have n:l++[x]=(m++e::d8)++[y]:=by rw[u];simp
       obtain⟨h3,h5⟩:=vq n rfl;simp only[jH,nV]at h5;subst h5;exact⟨⟨m,d8,h3,f,i,λz hz=>hy z (by simp[hz])⟩,hy x (by simp)⟩
     ·rintro⟨⟨m,j,u,f,i,hy⟩,hx⟩;refine⟨m,j++[x],by rw[u];simp,f,i,λy m6=>?_⟩;rcases ct.1 m6 with d|d
      ·exact hy y d
      ·have:y=x:=by simpa using d
       rw[this];exact hx
    rw[hR,<-ih,I];have c7:e∈cp k (cf l)->e.ed.key=k:=λW=>by obtain⟨p,j9,l8,l9⟩:=sU W;have:=(hm.ev p j9 e l9).1;rw[l8]at this;exact this
    by_cases i:k=x.ed.key
    ·rw[an i];obtain⟨L,hL⟩:∃L,L=cp k (cf l):=⟨_,rfl⟩;rw[<-hL]at o c7⊢
     have C:∀(R:Int) (q:Ev->Bool),e∈jy L x R q↔e∈L/\¬(e.ed.kind=R/\q e=true/\e.dq x=true):=λR q=>by unfold jy;rw[fW];refine and_congr Ad ?_;by_cases d:e.ed.kind=R<;>cases q e<;>cases e.dq x<;>simp[d]
     have c9:∀L':List Ev,(e∈L'++[x])↔e∈L':=λL'=>by
      rw[ct];constructor
      ·rintro(d|d)
       ·exact d
       ·have:e=x:=by simpa using d
        exact absurd this A
      ·exact .inl
     by_cases r:x.ed.kind=1
     ·have:ga L x=L++[x]:=by unfold ga;rw[an r]
      rw[this,c9];constructor
      ·rintro⟨d,f⟩;exact⟨⟨d,f⟩,λs=>by have:=s.2.2.2;omega⟩
      ·rintro⟨d,_⟩;exact d
     by_cases v:x.ed.kind=2
     ·have:ga L x=tY (jy L x 1 pd):=by unfold ga;rw[ai r,an v]
      rw[this];have S:a∈jy L x 1 pd:=by
       unfold jy;refine fW.2 ⟨o.1,?_⟩;rw[yk]at g;unfold qF at g;rw[ai r,an v]at g;have d:=(fW.1 g).2;have n:a.ed.key=x.ed.key:=by rw[F,i]
       simp[n]at d;simp[d]
      constructor
      ·rintro⟨d,f⟩;unfold tY at d;exact⟨⟨((C 1 pd).1 (fW.1 d).1).1,f⟩,λs=>by have:=s.2.2.2;omega⟩
      ·rintro⟨⟨d,f⟩,_⟩;refine⟨?_,f⟩;unfold tY;refine fW.2 ⟨(C 1 pd).2 ⟨d,λhh=>by omega⟩,?_⟩;rw[CQ S o.2 t];simp
     by_cases Q:x.ed.kind=3
     ·have e8:e.ed.kind=4->(e∈ga L x↔e∈L):=λf=>by
       unfold ga;rw[ai r,ai v,an Q];split
       ·rw[c9,C];exact⟨λh=>h.1,λh=>⟨h,λhh=>by omega⟩⟩
       ·exact Ad
      constructor
      ·rintro⟨d,f⟩;exact⟨⟨(e8 f).1 d,f⟩,λs=>by have:=s.2.2.2;omega⟩
      ·rintro⟨⟨d,f⟩,_⟩;exact⟨(e8 f).2 d,f⟩
     have P:∀(f:e.ed.kind=4),e∈L->((¬(e.ed.kind=4/\mu x e=true/\e.dq x=true))↔(sP e x->e.dq x=false)):=λf W=>by
      have j7:=c7 W;have:sP e x↔mu x e=true:=by
       unfold sP mu;simp only[dT,kZ];constructor
       ·rintro⟨_,b,c,_⟩;exact⟨b.symm,c.symm⟩
       ·rintro⟨b,c⟩;exact⟨by rw[<-i,j7],b.symm,c.symm,U⟩
      rw[this];cases e.dq x<;>simp[f]
     by_cases k5:x.ed.kind=5
     ·have:ga L x=jy L x 4 (mu x):=by unfold ga;rw[ai r,ai v,ai Q,an k5]
      rw[this,C];constructor
      ·rintro⟨⟨d,n⟩,f⟩;exact⟨⟨d,f⟩,(P f d).1 n⟩
      ·rintro⟨⟨d,f⟩,n⟩;exact⟨⟨d,(P f d).2 n⟩,f⟩
     ·by_cases V:lP L x=true
      ·have:ga L x=jy L x 4 (mu x)++[x]:=by unfold ga;rw[ai r,ai v,ai Q,ai k5,an V]
       rw[this,c9,C];constructor
       ·rintro⟨⟨d,n⟩,f⟩;exact⟨⟨d,f⟩,(P f d).1 n⟩
       ·rintro⟨⟨d,f⟩,n⟩;exact⟨⟨d,(P f d).2 n⟩,f⟩
      ·have:ga L x=L:=by unfold ga;rw[ai r,ai v,ai Q,ai k5,ai V]
       rw[this];constructor
       ·rintro⟨d,f⟩;refine⟨⟨d,f⟩,λ_=>?_⟩;cases hb:e.dq x with
        |false=>rfl
        |true=>have:=h.trans j5 (by simp[w]) (by simp) t hb;exact absurd (CQ o.1 o.2 this) V
       ·rintro⟨d,_⟩;exact d
    ·rw[ai i];constructor
     ·rintro⟨d,f⟩;refine⟨⟨d,f⟩,λs=>?_⟩;exact absurd (by rw[s.1,c7 d]) i
     ·rintro⟨d,_⟩;exact d
   ·constructor
    ·rintro⟨d,_⟩;exfalso;rw[I]at d;split at d
     ·rcases EY d with d|d
      ·exact w (c8 e d)
      ·exact A d.1
     ·exact w (c8 e d)
    ·rintro⟨m,j,u,_⟩;have:e∈l++[x]:=by rw[u];simp
     rcases ct.1 this with d|d
     ·exact absurd d w
     ·simp at d;exact absurd d A
end
section
def Mi(k:List UInt8)(cq:Int)(l:List Ev)(e:Ev):Prop:=(∃a∈sv l,a.ed.key=k/\a.dq e=true)/\(∃c b,l=c++e::b/\e.ed.kind=4/\e.ed.key=k/\∀y∈b,sP e y->e.dq y=false)/\e.ed.label=cq
def vs(k:List UInt8)(cq:Int)(l:List Ev):List (List UInt8):=qJ k cq (ph (cp k (cf l)) (fi (cp k (cf l))))
theorem Jj(k:List UInt8)(cq:Int)(l:List Ev)(h:jb l):(vs k cq l).Nodup/\∀v,v∈vs k cq l↔∃e,Mi k cq l e/\e.ed.value=v:=by
 have s:∀e∈l,1<=e.ed.kind/\e.ed.kind<=5:=λy hy=>xo (h.may y hy).ed;have F:=vr l s;have i:∀e∈cp k (cf l),e.ed.key=k/\(e.ed.kind=1\/e.ed.kind=3\/e.ed.kind=4):=λe f=>by obtain⟨p,j,c,b⟩:=sU f;have:=F.ev p j e b;rw[c]at this;exact this
 have A:=(DK i).1;have H:=FO l s k;refine⟨Ms _ (C5 _),λv=>?_⟩;unfold vs qJ;rw[GH,(jZ _).mem_iff,fA,A,H];have t:∀e,e∈oH k cq (ph (cp k (cf l)) ((sv l).filter λa=>decide (a.ed.key=k)))↔Mi k cq l e:=λe=>by
  unfold oH ph;rw[fW,fW];constructor
  ·rintro⟨⟨c,b⟩,d⟩;simp only[dT,kZ,sm,Cl]at d;unfold iF at b;rw[ai d.2]at b;split at b
   ·rename_i m;rw[dT]at b;obtain⟨a,g,j⟩:=eR.1 b.1;obtain⟨w,q⟩:=fW.1 g;simp only[dT,kZ]at j q;have hx:∃a∈sv l,a.ed.key=k/\a.dq e=true:=⟨a,w,q,j.2⟩;exact⟨hx,(No k l h e hx).1 ⟨c,m⟩,d.1.2⟩
   ·cases b
  ·rintro⟨hx,hy,C⟩;obtain⟨c,m⟩:=(No k l h e hx).2 hy;obtain⟨a,g,r,z⟩:=hx;refine⟨⟨c,?_⟩,?_⟩
   ·unfold iF;rw[ai U,an m,dT];refine⟨eR.2 ⟨a,fW.2 ⟨g,by simpa using r⟩,?_⟩,?_⟩
    ·have:=(xj g).2;have n:=(i e c).1;unfold ee;simp[this,z,r,n]
    ·have:fU 5 lx (cp k (cf l)) e=false:=by unfold fU;rw[ra];intro x hx;have:=(i x hx).2;have u:¬x.ed.kind=5:=U;simp[u]
     rw[this];rfl
   ·have n:=(i e c).1;have d:¬e.ed.kind=3:=U;simp[n,C,d]
 constructor
 ·rintro⟨e,f,o⟩;exact⟨e,(t e).1 f,o⟩
 ·rintro⟨e,f,o⟩;exact⟨e,(t e).2 f,o⟩
theorem jb.front{B:List Ev}(h:jb (A++B)):jb A:=
 ⟨(sC.1 h.num).1,λx hx=>h.may x (by simp[hx]),λP x Q a=>h.cz P x (Q++B) (by rw[a];simp),λx hx y hy=>h.tr x (by simp[hx]) y (by simp[hy])⟩
theorem jb.behind{l B:List Ev}{e:Ev}(h:jb l)(b:l=A++e::B)(y:Ev)(hy:y∈A):e.dq y=false:=by
 subst b;have a:jb (A++[e]):=by
  have:A++e::B=(A++[e])++B:=by simp
  rw[this]at h;exact h.front
 exact a.last.1 y hy
theorem yQ.ZY{N:Nat}{D:Nat->List Ev}(h:yQ c N D){s r:Nat}(e:s<N)(d:r<N){x y:Ev}{B:List Ev}(hx:x∈D s)(a:D r=A++B)(m:x.n<=(cr A).get x.r.toNat):x∈A:=by
 have b:=h.may s e x hx;have n:lH A:=by have:=h.num r d;rw[a]at this;exact(sC.1 this).1
 have l:=Ah (h.may r d);have k:∀x∈A,0<=x.r/\x.r<5:=λy hy=>l y (by rw[a];simp[hy]);obtain⟨z,g,i,o⟩:=Ya n k x.r x.n b.r (by have:=b.n;omega) m;have j:=h.uq r d z (by rw[a];simp[g]);have p:=h.uq s e x hx;have f:x.r.toNat<N:=by have:=b.r;omega
 rw[i]at j;have:=Y7 (h.num _ f) (Ah (h.may _ f)) z j.2 x p.2 i o;rw[<-this];exact g
theorem yQ.zQ{N:Nat}{D:Nat->List Ev}(h:yQ c N D){s:Nat}(a:s<N):jb (D s):=by
 refine⟨h.num s a,h.may s a,λA e B n=>(h.ok s a A e B n).1,λe j y hy g i hi=>?_⟩;have k:=h.may s a y hy;have o:=h.may s a e j;have q:=h.uq s a y hy;have d:y.r.toNat<N:=by have:=k.r;omega
 obtain⟨A,B,b⟩:=xf q.2;have p:y.r=((y.r.toNat:Nat):Int):=by have:=k.r;omega
 have l:=((h.ok _ d A y B b).2 p).1;rw[EK e y o,l]at g;have m:=h.ZY (y:=y) a d j b g;obtain⟨P,Q,f⟩:=xf m;have r:=(h.ok _ d P e (Q++y::B) (by rw[b,f];simp)).1 i hi;rw[l,f];have t:(cr P).get i<=(cr (P++e::Q)).get i:=by unfold cr;rw[js];exact GS _ _ _
 omega
theorem GR{l:List eW}{k:List UInt8}(h:0<=kJ l k):∃b∈l,b.key=k/\l[(kJ l k).toNat]?=some b:=by
 unfold kJ at h⊢
 split at h
 ·rename_i a;rw[an a];have:=GD (w:=a);refine⟨_,bT a,rU this,?_⟩;simp[gV a]
 ·omega
theorem U1{k:List UInt8}{l:List Ev}(h:∀e∈l,1<=e.ed.kind/\e.ed.kind<=5){b:eW}(a:b∈iv (cf l)):b.s0=vs b.key 0 l/\b.s1=vs b.key 1 l:=by
 unfold iv at a;rw[Db]at a;obtain⟨q,_,a⟩:=a;have m:=vr l h;have i:∀e∈cp q (cf l),e.ed.key=q/\(e.ed.kind=1\/e.ed.kind=3\/e.ed.kind=4):=λe g=>by obtain⟨p,n,d,f⟩:=sU g;have:=m.ev p n e f;rw[d]at this;exact this
 have j:=(DK i).2;unfold lW at a;obtain⟨z,c,rfl⟩:=fA.1 a;rw[j]at c;split at c
 ·cases c
 ·simp at c;subst c;exact⟨rfl,rfl⟩
end
section
theorem JP(l:List eW)(k:List UInt8):0<=kJ l k↔k∈l.map eW.key:=by
 constructor
 ·intro h;obtain⟨a,b,c,_⟩:=GR h;exact fA.2 ⟨a,b,c⟩
 ·intro h;obtain⟨a,b,c⟩:=fA.1 h;unfold kJ;rw[an (List.findIdx_lt_length_of_exists ⟨a,b,by simp[c]⟩)];omega
structure Uo(A B:List eW):Prop where
 na:(A.map eW.key).Nodup
 nb:(B.map eW.key).Nodup
 k:∀k,k∈A.map eW.key↔k∈B.map eW.key
 s:∀a∈A,∀b∈B,a.key=b.key->∀cq,(a.set cq).Nodup/\(b.set cq).Nodup/\∀v,v∈a.set cq↔v∈b.set cq
theorem Ho[BEq α][LawfulBEq α]{a b:List α}(c:a.Nodup)(d:b.Nodup)(h:∀v,v∈a↔v∈b):a.length=b.length:=by have e:=En a b c λx=>(h x).1;have f:=En b a d λx=>(h x).2;omega
theorem ZW{A B:List eW}(h:Uo A B)(L P:Int)(e:Ed):kb L P A e=kb L P B e:=by
 have o:A.length=B.length:=by have:=Ho h.na h.nb h.k;rwa[bC,bC]at this
 have d:0<=kJ A e.key↔0<=kJ B e.key:=by rw[JP,JP,h.k]
 unfold kb;split
 ·rfl
 rw[o];split
 ·by_cases c:0<=kJ A e.key
  ·rw[an c,an (d.1 c)]
  ·rw[ai c,ai (λk=>c (d.2 k))]
 by_cases c:0<=kJ A e.key
 ·rw[ai (show¬kJ A e.key<0 by omega),ai (show¬kJ B e.key<0 by have:=d.1 c;omega)];obtain⟨a,g,j,i⟩:=GR c;obtain⟨b,l,n,m⟩:=GR (d.1 c);rw[i,m];obtain⟨p,q,f⟩:=h.s a g b l (by rw[j,n]) e.label;simp only[Ho p q f,f]
 ·rw[an (show kJ A e.key<0 by omega),an (show kJ B e.key<0 by have:=mt d.2 c;omega)]
theorem Gi{l:List Ev}(h:jb l)(a:Ev):a∈fi l↔a∈sv l:=by
 unfold fi;rw[fW,ML];simp only[dT,kZ,sm,fU,ra];constructor
 ·rintro⟨j,c,g⟩;obtain⟨A,B,b⟩:=xf j;refine⟨A,B,b,c,λd hd f e=>?_⟩;have:=g d (by rw[b];simp[hd]);simpa[f,ee,e]using this
 ·rintro⟨A,B,b,c,i⟩;refine⟨by rw[b];simp,c,λd hd=>?_⟩;rw[b]at hd;rcases ct.1 hd with hd|hd
  ·simp[h.behind b d hd]
  rcases gA.1 hd with rfl|hd
  ·simp[c]
  ·by_cases f:d.ed.kind=2
   ·by_cases e:d.ed.key=a.ed.key
    ·simp[i d hd f e.symm]
    ·simp[ee,e]
   ·simp[f]
theorem Zu{p:Ev->Prop}(l:List Ev):(∃y∈l,p y)->∃b y a,l=b++y::a/\p y/\∀z∈a,¬p z:=by
 induction l using oK with
 |h0=>rintro⟨y,hy,_⟩;cases hy
 |hs l e ih=>
  rintro⟨y,hy,f⟩;by_cases c:p e
  ·exact⟨l,e,[],rfl,c,λz d=>by cases d⟩
  ·rcases ct.1 hy with hy|hy
   ·obtain⟨b,z,a,h,d,g⟩:=ih ⟨y,hy,f⟩;refine⟨b,z,a++[e],by rw[h];simp,d,λx hx=>?_⟩;rcases ct.1 hx with hx|hx
    ·exact g x hx
    ·simp at hx;rw[hx];exact c
   ·simp at hy;exact absurd (hy▸f) c
def CO(l:List Ev)(k:List UInt8)(cq:Int)(e:Ev):Prop:=e∈l/\iF l (fi l) e=true/\e.ed.key=k/\e.ed.label=cq/\e.ed.kind=4
theorem Oq{l:List Ev}(h:jb l)(k:List UInt8)(cq:Int)(v:List UInt8):(∃e,CO l k cq e/\e.ed.value=v)↔v∈vs k cq l:=by
 rw[(Jj k cq l h).2 v];constructor
 ·rintro⟨e,⟨j,t,g,q,m⟩,r⟩;unfold iF at t;rw[ai U,an m,dT,sm]at t;obtain⟨H,I⟩:=t;unfold oP at H;obtain⟨a,o,f⟩:=eR.1 H;simp only[dT,kZ,ee]at f;have F:=(Gi h a).1 o;have c9:=(xj F).1;obtain⟨A,y,C,d,⟨y4,u,w,x,i⟩,s⟩:=Zu (p:=λy=>y.ed.kind=4/\y.ed.key=k/\y.ed.label=cq/\y.ed.value=v/\(y=e\/e.dq y=true)) l ⟨e,j,m,g,q,r,.inl rfl⟩;have M:y∈l:=by rw[d];simp
  have tr:∀z∈l,y.dq z=true->e.dq z=true:=λz b c=>by
   rcases i with rfl|i
   ·exact c
   ·exact h.trans j M b i c
  refine⟨y,⟨⟨a,F,by rw[f.1.2,g],?_⟩,⟨A,C,d,y4,u,λz b hs=>?_⟩,w⟩,x⟩
  ·rcases i with rfl|i
   ·exact f.2
   ·exact h.trans c9 j M f.2 i
  ·obtain⟨Q,R,S,s4⟩:=hs;have P:z∈l:=by rw[d];simp[b]
   cases c:y.dq z with
   |false=>rfl
   |true=>
    exfalso;have L:=tr z P c;rcases s4 with z4|z5
    ·exact s z b ⟨z4,by rw[Q,u],by rw[R,w],by rw[S,x],.inr L⟩
    ·unfold fU at I;have:=(ra.1 I) z P;simp[z5,lx,pz,ee,L,Q,R,S,u,w,x,g,q,r]at this
 ·rintro⟨e,⟨⟨a,o,c8,f⟩,⟨A,C,d,m,g,s⟩,q⟩,r⟩;have j:e∈l:=by rw[d];simp
  refine⟨e,⟨j,?_,g,q,m⟩,r⟩;unfold iF;rw[ai U,an m,dT,sm];constructor
  ·unfold oP;exact eR.2 ⟨a,(Gi h a).2 o,by simp[(xj o).2,ee,c8,g,f]⟩
  ·unfold fU;refine ra.2 λz b=>?_;intro c;simp only[dT,kZ,lx,pz,ee]at c;obtain⟨⟨k5,⟨V,W⟩,b3⟩,n⟩:=c;rw[d]at b;rcases ct.1 b with b|b
   ·rw[h.behind d z b]at n;cases n
   rcases gA.1 b with rfl|b
   ·omega
   ·rw[s z b ⟨V,W,b3,.inr k5⟩]at n;cases n
structure N8(l:List Ev)(A:List eW):Prop where
 n:(A.map eW.key).Nodup
 k:∀k,k∈A.map eW.key↔∃a∈fi l,a.ed.key=k
 s:∀a∈A,∀cq,cq=0\/cq=1->(a.set cq).Nodup/\∀v,v∈a.set cq↔∃e,CO l a.key cq e/\e.ed.value=v
theorem X4{l:List Ev}(h:jb l){A:List eW}(d:N8 l A)(L P:Int)(e:Ed):kb L P A e=kb L P (iv (cf l)) e:=by
 have g:∀e∈l,1<=e.ed.kind/\e.ed.kind<=5:=λe q=>xo (h.may e q).ed;obtain⟨t,u⟩:=Wp l g;refine ZW ⟨d.n,t,λk=>?_,λa o b p r cq=>?_⟩ L P e
 ·rw[d.k];show _↔k∈ks l;rw[u];simp only[Gi h]
 ·have j:∀cq,cq=0\/cq=1->(a.set cq).Nodup/\(b.set cq).Nodup/\∀v,v∈a.set cq↔v∈b.set cq:=λcq i=>by
   obtain⟨m,n⟩:=d.s a o cq i;have s:b.set cq=vs a.key cq l:=by
    have:=U1 (k:=b.key) g p;rw[r];unfold eW.set;rcases i with rfl|rfl
    ·rw[an rfl,this.1]
    ·rw[ai U,this.2]
   rw[s];exact⟨m,(Jj _ _ _ h).1,λv=>by rw[n,Oq h]⟩
  by_cases f:cq=0
  ·exact j cq (.inl f)
  ·have:∀c:eW,c.set cq=c.set 1:=λc=>by unfold eW.set;rw[ai f,ai U]
   rw[this,this];exact j 1 (.inr rfl)
end
end Go.Proofs.YtogcfijlhpaeeaaGreat
