/- Texts. No condition. -/
import Derived.Test.YtogcfijlhpaeeaaGreatYpas
open Go.RowKit Go.Proofs.Tryz
set_option linter.all false
set_option maxHeartbeats 32000000
namespace Go.Proofs.YtogcfijlhpaeeaaGreat
variable{k i n:Nat}{c:aJ}{L M:List aa}{f:Nat->Value}{P:Program}{α:Type}{Q:bx}{o1 o2:Obj}{ax:List aa->Prop}
section
def aD.cw(w:aD)(c:aJ):Nat->aD
 |0=>w
 |j+1=>(w.cw c j).aZ (j:Nat) ((((w.cw c j).node (j:Nat)).db).start c (j:Nat)).1
def aD.re(w:aD)(c:aJ):aD:={w.cw c w.nodes.length with aO:=(w.aO.db.start c).1}
def aD.ox(w:aD)(c:aJ):Nat->aD
 |0=>w
 |n+1=>if(w.round c).qe=w.qe then w.round c else(w.round c).ox c n
def aD.mG(w:aD)(c:aJ)(n:Nat):aD:=(w.re c).ox c n
def aD.pO(kk:Nat)(c:aJ)(w:aD):Nat->Prop
 |0=>dE kk c w
 |n+1=>(∀i,i<=3*w.nodes.length->dE kk c (w.gI c i))/\((w.round c).qe≠w.qe->(w.round c).pO kk c n)
theorem aD.Rb(w:aD)(r:Int)(s:aG):(w.aZ r s).aO=w.aO:=rfl
theorem aD.yO(w:aD)(c:aJ):∀j,(w.cw c j).nodes.length=w.nodes.length
 |0=>rfl
 |j+1=>by show((w.cw c j).aZ _ _).nodes.length=_;rw[nG,aD.yO w c j]
theorem aD.M9(w:aD)(c:aJ):∀j,(w.cw c j).aO=w.aO
 |0=>rfl
 |j+1=>by show((w.cw c j).aZ _ _).aO=_;rw[aD.Rb,aD.M9 w c j]
theorem eO.db{k:Nat}{c:aJ}{r:Int}{s:aG}(a:eO k c r s):eO k c r s.db:=
 ⟨a.cm,a.rg,a.aE,a.tail,a.size,a.lN,a.iZ,a.ia,(λh=>by cases h),(λh=>by cases h),(λh=>by cases h),(λh=>by cases h)⟩
theorem kY.db{k:Nat}{c:aJ}{s:aY}(a:kY k c s):kY k c s.db:=
 ⟨a.cm,a.aE,a.tail,a.size,a.post,(λh=>by cases h),a.ok⟩
instance:pV prog 132 ko:=⟨6,.b::List.replicate 75 (.i .i64),by kernel_rfl,by kernel_rfl,by kernel_rfl,by kernel_rfl,λ_=>rfl,λa b h=>by
 obtain⟨⟨a0,⟨⟨a1,a2,a3,a4,a5⟩,⟨b1,b2,b3,b4,b5⟩,⟨c1,c2,c3,c4,c5⟩,⟨d1,d2,d3,d4,d5⟩,⟨e1,e2,e3,e4,e5⟩,⟨f1,f2,f3,f4,f5⟩,⟨g1,g2,g3,g4,g5⟩⟩⟩,⟨⟨p1,p2,p3,p4,p5⟩,p6,p7,p8⟩,⟨⟨q1,q2,q3,q4,q5⟩,q6,q7,q8⟩,⟨⟨r1,r2,r3,r4,r5⟩,r6,r7,r8⟩,⟨⟨s1,s2,s3,s4,s5⟩,s6,s7,s8⟩,⟨⟨t1,t2,t3,t4,t5⟩,t6,t7,t8⟩⟩:=a;obtain⟨⟨c,⟨⟨d,e,f,g,j⟩,⟨k,l,m,n,o⟩,⟨p,q,r,s,t⟩,⟨u,v,w,x,y⟩,⟨z,A,C,F,H⟩,⟨I,L,M,P,Q⟩,⟨R,S,V,W,c7⟩⟩⟩,⟨⟨P1,P2,P3,P4,P5⟩,P6,P7,P8⟩,⟨⟨Q1,Q2,Q3,Q4,Q5⟩,Q6,Q7,Q8⟩,⟨⟨R1,R2,R3,R4,R5⟩,R6,R7,R8⟩,⟨⟨S1,S2,S3,S4,S5⟩,S6,S7,S8⟩,⟨⟨u5,u6,u7,u9,w5⟩,w6,w7,w8⟩⟩:=b;simp only[ab.cells,pY,lG,dB,jH,uh,Value.bool.injEq,qy,nV]at h;simp only[ko.mk.injEq,dM.mk.injEq,ki.mk.injEq,Hs.mk.injEq,aj.mk.injEq];simp only[BH]at h⊢
 exact h⟩
end
section
theorem ff.keep{c:Code}(ss:List Nat){vs:List Value}(a:ss.map f=vs)(h:∀g,ff P n c Q (lA g ss vs) L):ff P n c Q f L:=by have:=h f;rw[<-a,oW]at this;exact this
theorem ei.keep{l:Nat}{c:Code}(ss:List Nat){vs:List Value}(a:ss.map f=vs)(h:∀g,ei l P n c Q (lA g ss vs) L):ei l P n c Q f L:=by have:=h f;rw[<-a,oW]at this;exact this
theorem VO{l:Nat}{B:Code}(a:Sub (Pt l o1::M) L)(h:ei l P k B (rk l o2 ax) f (Pt l o2::M)):uQ l P k o1 o2 B ax .normal f L:=⟨M,a,h⟩
theorem GL{l:Nat}{o:Obj}(a:Sub (Pt l o::M) L)(h:ax M):rk l o ax .normal f L:=⟨M,a,h⟩
variable{w:aD}
theorem aD.pO.here{kk:Nat}:∀{n:Nat},w.pO kk c n->dE kk c w
 |0,h=>h
 |_+1,h=>h.1 0 (eM _)
set_option maxRecDepth 20000 attribute [local irreducible] Ex aM Fn bI bJ bV fin meet ch aX bZ aP aN aI Rd aK Row ao Sub bk bP bS bN bg bR Hid bY
section
attribute [local irreducible] aA bD bL cx cQ Pt uz fV ei ff yu
theorem XJ(b:Nat)(M:List aa):Fn prog 65 #[ay b] M
  λv L'=>∃a,v=.func (.func 134) #[] #[ay a]/\L'=ao a 32 [ay b]::M:=by
 refine fo func65 ntmps65 ?_;exact Lc
theorem QT{kk:Nat}(a gh gl:Nat)(vs:Value)(gs:List Ptr)(c:aJ)(w:aD)(n:Nat)(M:List aa)(s:kk<=198)(W:O1 vs)(y7:gs.length=w.nodes.length)(hn:n<=1000)
  (q9:dE kk c w)(j1:∀j,j<=w.nodes.length->dE kk c (w.cw c j))(r0:(w.re c).pO kk c n):
  Fn prog 24 #[ay a,.int .i64 n] (dh a gh gl vs gs c w M)
   λv L'=>L'=dh a gh gl vs gs c (w.mG c n) M:=by
 have B0:=q9.n5;refine Fn.Uh func24 rfl ntmps24 rfl ?_;refine nn (ml ?_);refine rn ?_;(repeat(first|intro(g:Nat)|intro h));refine mE ?_;refine nn (ml ?_);refine rn ?_;(repeat(first|intro(g:Nat)|intro h));refine mE ?_;revert g;intro d;refine nn (ml ?_);refine rn ?_;(repeat(first|intro(g:Nat)|intro h));refine bF (L':=dh a gh gl vs gs c w (ao d 32 [ay a]::M)) ?_ rP;refine bm [21] (λz y L'=>∃(j:Nat),j<=w.nodes.length/\z=w.nodes.length-j/\y=[.int .i64 j]/\L'=dh a gh gl vs gs c (w.cw c j) (ao d 32 [ay a]::M)) w.nodes.length ⟨0,U,rfl,rfl,rfl⟩ ?_;rintro z y g1 L1 ⟨j,hj,rfl,rfl,rfl⟩;refine bp [1,2,19,20,21] rG (λgk=>?_);by_cases y9:j<w.nodes.length
 ·have j0:=w.yO c j;have P:(w.cw c j).has (j:Int):=⟨U,U⟩;have V:=(j1 j hj).node P;have e8:j<gs.length:=U;have m6:((j:Int)).toNat=j:=dc j;have l9:gs[j]'e8=gs.getD (j:Int).toNat ⟨0⟩:=by rw[m6];simp[cu,e8]
  refine rn ?_;(repeat(first|intro(g:Nat)|intro h));rw[l9];refine cb (L':=bD (gs.getD (j:Int).toNat ⟨0⟩).g c j ((w.cw c j).node j)::jk a gh gl vs gs c (w.cw c j) j (ao d 32 [ay a]::M)) ?_ (lh P _);refine ca [] call60 (G3 _ c j _ _) ?_;rintro _ _ rfl;refine rn ?_;(repeat(first|intro(g:Nat)|intro h));refine ca [] call61 (FA (k:=kk) _ c j _ _ V.db U) ?_;rintro _ _ ⟨rfl,rfl⟩;refine rn ?_;(repeat(first|intro(g:Nat)|intro h));refine aS ⟨w.nodes.length-(j+1),dh a gh gl vs gs c (w.cw c (j+1)) (ao d 32 [ay a]::M),U,?_,j+1,U,rfl,av (aQ U) rfl,rfl⟩;exact ar (B:=aA (cQ c gs (w.cw c (j+1)).nodes)::eG a gh gl vs::eZ vs gs::bL gh c (w.cw c j).aO::cx gl (w.cw c j).keys::ao d 32 [ay a]::M) rP (ar (Ab P _ _) rP)
 ·obtain rfl:j=w.nodes.length:=U;refine rn ?_;(repeat(first|intro(g:Nat)|intro h));have j0:=w.yO c w.nodes.length;have C:=j1 _ hj;have m8:=w.M9 c w.nodes.length;refine mE ?_;refine nn (ml ?_);refine rn ?_;(repeat(first|intro(g:Nat)|intro h));refine ca [3] call62 (G1 gh c _ _) ?_;rintro _ _ rfl;refine rn ?_;(repeat(first|intro(g:Nat)|intro h));refine mE ?_;refine nn (ml ?_);refine rn ?_;(repeat(first|intro(g:Nat)|intro h));refine ca [] call63 (Fc (k:=kk) gh c _ _ C.aO.db U) ?_;rintro _ _ ⟨rfl,rfl⟩;refine rn ?_;(repeat(first|intro(g:Nat)|intro h));refine mE ?_;refine nn (ml ?_);refine rn ?_;(repeat(first|intro(g:Nat)|intro h));refine mE ?_;obtain⟨c9,hY⟩:∃c9,c9=ao d 32 [ay a]:=⟨_,rfl⟩;refine ff.sub (L':=dh a gh gl vs gs c (w.re c) (ao d 32 [ay a]::M)) ?_ (by unfold aD.re;rw[<-m8];exact rP);refine ff.block (ff.loop [41] (λz y L'=>∃(m:Nat) (w':aD),m<=n/\z=n-m/\w'.pO kk c (n-m)/\w'.ox c (n-m)=w.mG c n/\w'.nodes.length=w.nodes.length/\y=[.int .i64 m]/\L'=dh a gh gl vs gs c w' (ao d 32 [ay a]::M)) n ⟨0,w.re c,U,rfl,r0,rfl,j0,rfl,rfl⟩ ?_);rintro z y g1 L1 ⟨m,w',hm,rfl,S,t,B9,rfl,rfl⟩;refine ff.keep [2,40,41] rG (λgk=>?_);have s9:=S.here;refine nn (ml ?_);by_cases z8:m<n
  ·refine rn ?_;(repeat(first|intro(g:Nat)|intro h));refine mE ?_;refine nn (ml ?_);refine rn ?_;(repeat(first|intro(g:Nat)|intro h));refine mE ?_;refine nn (ff.block (nn (ml ?_)));refine rn ?_;(repeat(first|intro(g:Nat)|intro h));refine ca [] call64 (JG (k:=kk) a gh gl vs gs c w' _ s9 s W U) ?_;rintro _ _ ⟨rfl,rfl⟩;generalize hst:w'.qe=F;refine rn ?_;(repeat(first|intro(g:Nat)|intro h));rename_i u9;revert g;intro I;refine mE ?_;refine nn (nn (ml ?_));refine rn ?_;intros;refine ca [] call65 (XJ a _) ?_;rintro _ _ ⟨L,rfl,rfl⟩;refine rn ?_;intros;refine mE ?_;have m9:n-m=(n-(m+1))+1:=U;rw[m9]at S t;obtain⟨C,V⟩:=S;refine ff.sub (L':=ao L 32 [ay a]::dh a gh gl vs gs c w' (ao d 32 [ay a]::ao I 132 (ab.cells F)::M)) ?_ rP;refine ff.block (ff.rangeFunc (λM'=>M'=ao L 32 [ay a]::dh a gh gl vs gs c (w'.round c) (ao d 32 [ay a]::ao I 132 (ab.cells F)::M)) J call134 (λl j3 tm fn n8 j8=>QY (kk:=kk) a gh gl L vs gs c w' _ _ l j3 fn tm 47 _ _ _ _ C s W U n8 (by decide) j8 ?_) ?_)
   ·intro b x u r A y8 H ou;have m7:=A.n5;have j9:=sX x H;have w9:=x.pH H;refine AL J Calm.uQ ?_;refine rn ?_;intros;refine VO (bW _) ?_;refine ei.keep [2,7] rG (λw5=>?_);refine ei.block (ei.seq (AL J (Calm.vx (mH Calm.rk)) ?_));refine rn ?_;intros;refine bc [5] J call66 rE J (J8 (k:=kk) gh c b.aO u x.bu _ A.aO s rD ou U) ?_;rintro _ _ ⟨u2,u5,rfl,rfl⟩;rw[j9];have Q:=xc A.aO s (f:=(x,0)) (λ_=>H);obtain⟨⟨i,t2,o,e2⟩,hq⟩:∃q,b.aO.take c (x,0)=q:=⟨_,rfl⟩;have e:b.once c (x,0)=if e2=0/\b.has t2 then({b with aO:=i}:aD).aZ t2 (((b.node t2).dw c t2 (o,0)).1)else{b with aO:=i}:=by unfold aD.once;rw[hq];rfl
    rw[e];rw[hq]at Q⊢
    simp only at Q⊢
    refine rn ?_;intros;refine Aq ?_;refine ei.keep [2,7,8,9,10] rG (λw6=>?_);refine ei.seq (AL J (Calm.vx (mH Calm.rk)) ?_);by_cases he:e2=0
    ·subst he;refine cb (L':=eG a gh gl vs::eZ vs gs::aA (cQ c gs b.nodes)::bL gh c i::bB u2 (lV (t2,(o,0)))::ao d 32 [ay a]::Pt l _::bB u x.bu::cx gl b.keys::r) ?_ rP;refine rn ?_;intros;refine ca [] call39 (sK a gh gl vs gs c b t2 _ U m7.1) ?_;rintro _ _ ⟨rfl,rfl⟩;by_cases p:b.has t2
     ·rw[bf p];have n9:=p.1;have B7:=p.2;have B8:t2<gs.length:=U;have d8:=Q rfl n9;have w8:=o.pH d8;have l8:=sX o d8;have hf:lV (t2,(o,0))=o.bu:=by unfold lV;rw[ai (by simp only;omega)];rfl
      rw[hf];refine rn ?_;intros;refine Aq (ei.wa J (AL J (mH Calm.rk) ?_));refine rn ?_;intros;rw[<-pq U];refine cb (L':=bD (gs.getD t2.toNat ⟨0⟩).g c t2 (b.node t2)::jk a gh gl vs gs c {b with aO:=i} t2 (ao d 32 [ay a]::bB u2 o.bu::Pt l _::bB u x.bu::r)) ?_ (ar (lh (w:={b with aO:=i}) p _) rP);refine bc [] J call67 rE J (MU (k:=kk) _ c t2 (b.node t2) u2 o.bu _ (A.node p) s rD u5 U) ?_;rintro _ _ ⟨rfl,rfl⟩;rw[l8];refine rn ?_;intros;refine GL (M:=bB u x.bu::dh a gh gl vs gs c (({b with aO:=i}:aD).aZ t2 (((b.node t2).dw c t2 (o,0)).1)) (ao d 32 [ay a]::r)) ?_ ?_
      ·exact ar (B:=aA (cQ c gs (({b with aO:=i}:aD).aZ t2 (((b.node t2).dw c t2 (o,0)).1)).nodes)::eG a gh gl vs::eZ vs gs::bL gh c i::cx gl b.keys::ao d 32 [ay a]::Pt l _::bB u x.bu::r) rP (ar (Ab (w:={b with aO:=i}) p _ _) rP)
      ·rw[an ⟨rfl,p⟩]
     ·rw[bd p];refine rn ?_;intros;refine Aq (ei.te J (ei.skip ?_));refine uG (GL (M:=bB u x.bu::dh a gh gl vs gs c {b with aO:=i} (ao d 32 [ay a]::r)) rP ?_);rw[ai (λh=>p h.2)]
    ·refine rn ?_;intros;refine Aq (ei.te J (ei.skip ?_));refine uG (GL (M:=bB u x.bu::dh a gh gl vs gs c {b with aO:=i} (ao d 32 [ay a]::r)) rP ?_);rw[ai (λh=>he h.1)]
   ·rintro M' rfl;have r9:dE kk c (w'.round c):=C _ (bj _);have B6:(w'.round c).nodes.length=w'.nodes.length:=Be _ _ _;refine uG (mE ?_);refine ff.sub (L':=dh a gh gl vs gs c (w'.round c) (ao d 32 [ay a]::ao I 132 (ab.cells F)::M)) ?_ rP;refine nn (ml ?_);refine bU 4 _ rfl rQ (eb _) ?_;(repeat' (first|(refine m1 ?_;intros)|(refine cG J J J (λh=>?_) (λh=>?_)<;>try(exfalso;omega))));refine ma [] call64 (JG (k:=kk) a gh gl vs gs c (w'.round c) _ r9 s W U) ?_;rintro _ _ ⟨rfl,rfl⟩;generalize hst2:(w'.round c).qe=u6;by_cases R:u6=F
    ·refine mw ?_;intros;refine rn ?_;intros;refine mE (ml ?_);refine rn ?_;intros;refine R9 (BY (An ?_));refine fr ?_;refine⟨dh a gh gl vs gs c (w'.round c) M,rP,?_⟩;have:w'.ox c (n-(m+1)+1)=w'.round c:=by show(if _ then _ else _)=_;rw[an (by rw[hst2,hst,R])]
     rw[<-t,this]
    ·refine mw ?_;intros;refine rn ?_;intros;refine mE (ml ?_);refine rn ?_;intros;refine mE (ml ?_);refine rn ?_;intros;refine aS ⟨n-(m+1),dh a gh gl vs gs c (w'.round c) (ao d 32 [ay a]::M),U,rP,m+1,w'.round c,U,rfl,V (by rw[hst2,hst];exact R),?_,U,av (aQ U) rfl,rfl⟩;have:w'.ox c (n-(m+1)+1)=(w'.round c).ox c (n-(m+1)):=by show(if _ then _ else _)=_;rw[ai (by rw[hst2,hst];exact R)]
     rw[<-t,this]
  ·refine rn ?_;intros;refine mE ?_;refine nn (ml ?_);refine rn ?_;intros;have hz:n-m=0:=U;rw[hz]at t;refine Tv (Br (B1 J ?_));refine fr ?_;rw[<-t];exact⟨_,rP,rfl⟩
theorem IN(c:aJ):∀(n:Nat) (w:aD),(w.ox c n).nodes.length=w.nodes.length
 |0,w=>rfl
 |n+1,w=>by
  have a:(w.round c).nodes.length=w.nodes.length:=Be _ _ _;show(if _ then _ else _:aD).nodes.length=_;split
  ·exact a
  ·rw[IN c n,a]
theorem XE(w:aD)(c:aJ)(n:Nat):(w.mG c n).nodes.length=w.nodes.length:=by unfold aD.mG;rw[IN];exact w.yO c _
structure Nw(kk:Nat)(c:aJ)(w:aD)(n:Nat):Prop where
 Um:dE kk c w
 QB:∀j,j<=w.nodes.length->dE kk c (w.cw c j)
 TY:(w.re c).pO kk c n
theorem IE{kk:Nat}(a:Nat)(c:aJ)(w:aD)(n:Nat)(M:List aa)(f:kk<=198)(g:n<=1000)(b:Nw kk c w n):
  Fn prog 24 #[ay a,.int .i64 n] (bz a c w::M) λv L'=>L'=bz a c (w.mG c n)::M:=by
 refine bz.fn λgh gl vs gs e d=>?_;refine(QT (kk:=kk) a gh gl vs gs c w n M f e d g b.Um b.QB b.TY).dD ?_;rintro v L' rfl;exact⟨_,oL e (by rw[XE];exact d) M,rfl⟩
end
section
def su(s:cB)(n:Int):Int:=(s.r.tmod (n+1)+n+1)%(n+1)
def lT(n:Int)(s:cB):cB:=
 {s with kind:=(s.kind.tmod 12+12)%12,r:=if su s n=n then(if(s.kind.tmod 12+12)%12<8\/(s.kind.tmod 12+12)%12=11 then 0 else 5)else su s n,ed:=s.ed.fit}
def pX(n:Int)(l:List cB):List cB:=(l.take 60).map (lT n)
theorem Np(e:Ed):e.fit.key.length<=8/\e.fit.value.length<=12:=by
 constructor
 ·rcases PJ e with h|h|h<;>rw[h]<;>simp
 ·rcases Ph e with h|h|h|h|h<;>rw[h]<;>simp
theorem V0(s:cB)(n:Nat)(L:List aa)(j:1<=n/\n<=5)(b:s.ed.key.length<=140737488355328)(c:s.ed.value.length<=140737488355328):
  Fn prog 35 #[.agg (ab.cells s).toArray,.int .i64 n] L λv L'=>v=.agg (ab.cells (lT n s)).toArray/\L'=L:=by
 have i:=qY s.kind 12 U;have k:=qY s.r ((n:Int)+1) U;by_cases a:su s n=n
 ·by_cases g:(s.kind.tmod 12+12)%12<8
  ·have e:lT n s={s with kind:=(s.kind.tmod 12+12)%12,r:=0,ed:=s.ed.fit}:=by unfold lT;rw[an a,an (.inl g)]
   rw[e];unfold su at a;refine fo func35 ntmps35 ?_;refine rn ?_;intros;refine ca [] call26 (xB s.ed _ b c) ?_;rintro _ _ ⟨rfl,rfl⟩;generalize s.ed.fit=d;exact bh
  ·by_cases f:(s.kind.tmod 12+12)%12=11
   ·have e:lT n s={s with kind:=(s.kind.tmod 12+12)%12,r:=0,ed:=s.ed.fit}:=by unfold lT;rw[an a,an (.inr f)]
    rw[e];unfold su at a;refine fo func35 ntmps35 ?_;refine rn ?_;intros;refine ca [] call26 (xB s.ed _ b c) ?_;rintro _ _ ⟨rfl,rfl⟩;generalize s.ed.fit=d;refine rn ?_;intros;refine fr ?_;exact⟨_,rB,by rw[f];rfl,rfl⟩
   ·have e:lT n s={s with kind:=(s.kind.tmod 12+12)%12,r:=5,ed:=s.ed.fit}:=by unfold lT;rw[an a,ai (λh=>h.elim g f)]
    rw[e];unfold su at a;refine fo func35 ntmps35 ?_;refine rn ?_;intros;refine ca [] call26 (xB s.ed _ b c) ?_;rintro _ _ ⟨rfl,rfl⟩;generalize s.ed.fit=d;exact bh
 ·have e:lT n s={s with kind:=(s.kind.tmod 12+12)%12,r:=su s n,ed:=s.ed.fit}:=by unfold lT;rw[ai a]
  rw[e];unfold su at a⊢
  refine fo func35 ntmps35 ?_;refine rn ?_;intros;refine ca [] call26 (xB s.ed _ b c) ?_;rintro _ _ ⟨rfl,rfl⟩;generalize s.ed.fit=d;exact bh
theorem KG(v0:Value)(l:List cB)(n:Nat)(M:List aa)(x:aI M v0 l)(y:O1 v0)(k:1<=n/\n<=5)(w:l.length<=140737488355328)(m:∀s∈l,s.ed.key.length<=140737488355328/\s.ed.value.length<=140737488355328):
  Fn prog 13 #[v0,.int .i64 n] M λv L'=>O1 v/\L'=aK v 29 (pX n l)::M:=by
 refine fo func13 ntmps13 ?_;refine rn ?_;(repeat(first|intro(g:Nat)|intro(v:Value)|intro(o:O1 _)|intro h));refine bF (L':=aK (.slice (some ⟨g,0,none⟩) 0 0) 29 ([]:List cB)::M) ?_ (cA (α:=cB) _ 29 M);refine bm [5,6] (λz vs L'=>∃(j:Nat) (b:Value),j<=l.length/\j<=60/\b.oneCell'=true/\z=60-j/\vs=[b,.int .i64 j]/\L'=aK b 29 ((l.take j).map (lT n))::M) 60 ⟨0,_,U,U,rfl,rfl,rfl,rfl⟩ ?_;rintro z vs q p ⟨j,b,u,f,d,rfl,rfl,rfl⟩;refine bp [0,1,5,6] rG (λr=>?_);by_cases a:j<l.length
 ·by_cases t:j<60
  ·have i:(l.take (j+1)).map (lT n)=(l.take j).map (lT n)++[lT n (l[j]'a)]:=by rw[da a,dA];rfl
   have c:=m (l[j]'a) (bT a);refine rn ?_;(repeat(first|intro(v:Value)|intro(o:O1 _)|intro h));refine ca [] call35 (V0 (l[j]'a) n _ k c.1 c.2) ?_;rintro _ _ ⟨rfl,rfl⟩;refine rn ?_;(repeat(first|intro(v:Value)|intro(o:O1 _)|intro h));refine aS ⟨60-(j+1),aK v 29 ((l.take (j+1)).map (lT n))::M,U,?_,j+1,v,U,U,o,rfl,av rfl (av (aQ U) rfl),rfl⟩;rw[i];exact rP
  ·obtain rfl:j=60:=U;refine rn ?_;intros;refine fr ?_;exact⟨_,rP,d,rfl⟩
 ·obtain rfl:j=l.length:=U;refine rn ?_;intros;refine fr ?_;have e:pX n l=(l.take l.length).map (lT n):=by unfold pX;rw[ic f,dI]
  rw[e];exact⟨_,rP,d,rfl⟩
end
end
section
instance:pV prog 90 Mk:=⟨6,[.i .i64,.i .i64],by kernel_rfl,by kernel_rfl,by kernel_rfl,by kernel_rfl,λ_=>rfl,λa b h=>by obtain⟨c,d⟩:=a;obtain⟨e,f⟩:=b;simp only[ab.cells,jH,uh,qy,nV]at h;simp[h]⟩
structure aV where
 p:jG
 u1:Value
 u2:Value
 o1:u1.oneCell'=true
 o2:u2.oneCell'=true
instance:Inhabited aV:=⟨⟨jG.zero,.slice none 0 0,.slice none 0 0,rfl,rfl⟩⟩
instance:ab aV:=⟨9,λs=>mB s.p s.u1 s.u2,by decide,λ_=>rfl,λs=>by simp only[mB,vo,s.o1,s.o2];rfl⟩
instance:hQ prog 65 aV:=⟨⟨jG.zero,.slice none 0 0,.slice none 0 0,rfl,rfl⟩,by kernel_rfl,by kernel_rfl⟩
def aV.own(s:aV):aa:=jf (je s.u1 s.p.held) (je s.u2 s.p.log)
@[reducible] def cJ(v:Value)(l:List aV):aa:=aK v 65 l
def aD.sites(w:aD):List jG:=w.nodes.map aG.site
theorem aV.cls(s:aV)(L:List aa):Sub (aV.own s::L) (je s.u1 s.p.held::je s.u2 s.p.log::L):=qn _ _ _
theorem aV.rd{ss:List aV}(h:i<ss.length)(L:List aa):aI (aA (ss.map aV.own)::L) (ss[i]'h).u1 (ss[i]'h).p.held/\aI (aA (ss.map aV.own)::L) (ss[i]'h).u2 (ss[i]'h).p.log:=by have b:Sub (aV.own (ss[i]'h)::aA ((ss.map aV.own).eraseIdx i)::L) (aA (ss.map aV.own)::L):=qA L (by simp[h]);have a:Sub (je (ss[i]'h).u1 (ss[i]'h).p.held::je (ss[i]'h).u2 (ss[i]'h).p.log::aA ((ss.map aV.own).eraseIdx i)::L) (aA (ss.map aV.own)::L):=ar (vR _ _ _) b;exact⟨aI.sub (gr 0 rfl) a,aI.sub (gr 1 rfl) a⟩
variable{w:aD}
theorem dE.lens(g:dE k c w)(l:k<=198):∀p∈w.sites,p.held.length<=10000/\p.log.length<=10000:=by
 intro p e;obtain⟨s,f,rfl⟩:=fA.1 e;obtain⟨i,hi,rfl⟩:=la f;have a:=g.nd i hi;unfold aG.site;split
 ·rename_i d;have h:=(a.held d).1;have j:=a.cm.h;have b:=a.lN;rw[(a.up d).2]at b;simp only[bC];constructor
  ·omega
  ·simp only at b;omega
 ·exact⟨eM _,eM _⟩
set_option maxRecDepth 20000 attribute [local irreducible] Ex aM Fn bI bJ bV fin meet ch aX bZ aP aN aI Rd aK Row ao Sub bk bP bS bN bg bR Hid bY
section
attribute [local irreducible] aA bD bL cx cQ bz aV.own
theorem xa(f:Nat)(c:aJ)(w:aD)(M:List aa)(r:dE k c w)(t:k<=198)(n:Nat)(L:w.nodes.length=n):
  Fn prog 16 #[ay f,.int .i64 n] (bz f c w::M) λv L'=>∃ss:List aV,O1 v/\ss.map aV.p=w.sites/\L'=cJ v ss::aA (ss.map aV.own)::bz f c w::M:=by
 have P:=r.n5;refine fo func16 ntmps16 ?_;refine rn ?_;(repeat(first|intro(g:Nat)|intro(v:Value)|intro(o:O1 _)|intro h));refine bF (L':=cJ (.slice (some ⟨g,0,none⟩) 0 0) []::aA ([]:List aa)::bz f c w::M) ?_ (ar (cA (α:=aV) _ 65 _) (ly _));refine bm [5,6] (λz vs L'=>∃(j:Nat) (m:Value) (ss:List aV),j<=n/\m.oneCell'=true/\z=n-j/\ss.map aV.p=(w.nodes.take j).map aG.site/\vs=[m,.int .i64 j]/\L'=cJ m ss::aA (ss.map aV.own)::bz f c w::M) n ⟨0,_,[],U,rfl,rfl,rfl,rfl,rfl⟩ ?_;rintro z vs C A ⟨j,m,ss,H,y,rfl,q,rfl,rfl⟩;refine bp [0,1,5,6] rG (λF=>?_);have Q:ss.length<=5:=by have:=cn List.length q;simp only[bC,dy]at this;omega
 by_cases I:j<n
 ·have p:j<w.nodes.length:=U;have s:w.has (j:Int):=⟨U,U⟩;have x:w.node (j:Int)=w.nodes[j]'p:=by unfold aD.node;rw[show((j:Int)).toNat=j from dc j];simp[cu,p]
  have u:(w.nodes.take (j+1)).map aG.site=(w.nodes.take j).map aG.site++[(w.node j).site]:=by rw[da p,dA,x];rfl
  refine rn ?_;(repeat(first|intro(g:Nat)|intro(v:Value)|intro(o:O1 _)|intro h));refine ca [2] call22 (GU (k:=k) f c w j _ r t s) ?_;rintro _ _ ⟨b,d,i,l,rfl,rfl⟩;refine rn ?_;(repeat(first|intro(g:Nat)|intro(v:Value)|intro(o:O1 _)|intro h));refine pn (a:=(⟨(w.node j).site,b,d,i,l⟩:aV)) J J J J (λg=>?_);refine rn ?_;(repeat(first|intro(v:Value)|intro(o:O1 _)|intro h));refine aS ⟨n-(j+1),cJ v (ss++[(⟨(w.node j).site,b,d,i,l⟩:aV)])::aA ((ss++[(⟨(w.node j).site,b,d,i,l⟩:aV)]).map aV.own)::bz f c w::M,U,?_,j+1,v,ss++[(⟨(w.node j).site,b,d,i,l⟩:aV)],U,o,rfl,by rw[dA,q,u];rfl,av rfl (av (aQ U) rfl),rfl⟩;rw[dA];exact ar (B:=aV.own (⟨(w.node j).site,b,d,i,l⟩:aV)::aA (ss.map aV.own)::cJ v (ss++[(⟨(w.node j).site,b,d,i,l⟩:aV)])::bz f c w::M) (ar (B:=aA (ss.map aV.own++[aV.own (⟨(w.node j).site,b,d,i,l⟩:aV)])::cJ v (ss++[(⟨(w.node j).site,b,d,i,l⟩:aV)])::bz f c w::M) rP (so _ _)) (ar (B:=je b (w.node j).site.held::je d (w.node j).site.log::aA (ss.map aV.own)::cJ v (ss++[(⟨(w.node j).site,b,d,i,l⟩:aV)])::bz f c w::M) (aV.cls ⟨(w.node j).site,b,d,i,l⟩ _) rP)
 ·obtain rfl:j=n:=U;have e:w.sites=(w.nodes.take j).map aG.site:=by unfold aD.sites;rw[ic U]
  refine rn ?_;intros;refine fr ?_;exact⟨_,rP,ss,y,by rw[q,e],rfl⟩
theorem CW[DecidableEq α]{xs a:List α}{j:Nat}(hx:j<xs.length)(hy:j<a.length)(h:xs[j]'hx≠a[j]'hy):xs≠a:=λe=>by subst e;exact h rfl
theorem AR(i k:Value)(xs a:List Mk)(M:List aa)(o:aI M i xs)(p:aI M k a)(r:xs.length<=1000000)(s:a.length<=1000000):
  Fn prog 29 #[i,k] M λv L'=>v=.bool (decide (xs=a))/\L'=M:=by
 by_cases g:xs.length=a.length
 ·refine fo func29 ntmps29 ?_;refine rn ?_;intros;refine bm [5] (λz vs L'=>∃(j:Nat),j<=xs.length/\z=xs.length-j/\xs.take j=a.take j/\vs=[.int .i64 j]/\L'=M) xs.length ⟨0,U,rfl,rfl,rfl,rfl⟩ ?_;rintro z vs m l ⟨j,q,rfl,d,rfl,rfl⟩;refine bp [0,1,5] rG (λn=>?_);by_cases b:j<xs.length
  ·have c:j<a.length:=U;refine rn ?_;intros;by_cases f:xs[j]'b=a[j]'c
   ·refine oE ?_;intros;refine rn ?_;intros;refine aS ⟨xs.length-(j+1),l,U,rP,j+1,U,rfl,by rw[da b,da c,d,f],av (aQ U) rfl,rfl⟩
   ·have e:decide (xs=a)=false:=bd (CW b c f);rw[e];refine oE ?_;intros;exact fX
  ·obtain rfl:j=xs.length:=U;have e:decide (xs=a)=true:=bf (by rw[dI]at d;rw[d,g,dI]);rw[e];exact fX
 ·have e:decide (xs=a)=false:=bd (λh=>g (by rw[h]));rw[e];refine fo func29 ntmps29 ?_;exact fX
theorem Kb(p q:jG)(j k l m:Value)(M:List aa)(w:aI M j p.held)(x:aI M k p.log)(y:aI M l q.held)(z:aI M m q.log)(A:O1 j)(C:O1 k)(F:O1 l)(H:O1 m)
  (r:p.held.length<=1000000)(s:p.log.length<=1000000)(t:q.held.length<=1000000)(u:q.log.length<=1000000):
  Fn prog 54 #[.agg (mB p j k).toArray,.agg (mB q l m).toArray] M λv L'=>v=.bool (decide (p=q))/\L'=M:=by
 refine fo func54 ntmps54 ?_;refine rn ?_;intros;refine bc [] J call29 rE J (AR j l p.held q.held _ rD rD r t) ?_;rintro _ _ ⟨rfl,rfl⟩;refine rn ?_;intros;refine bc [] J call29 rE J (AR k m p.log q.log _ rD rD s u) ?_;rintro _ _ ⟨rfl,rfl⟩;have e:decide (p=q)=((decide (p.held=q.held)&&decide (p.log=q.log))&&decide (p.up=q.up)&&decide (p.aT=q.aT)&&decide (p.sent=q.sent)):=by
  obtain⟨W,L,ps,I,P⟩:=p;obtain⟨uq,R,V,Q,S⟩:=q;rw[Cm];simp only[jG.mk.injEq,kZ,dT];constructor
  ·rintro⟨a,b,c,d,e⟩;exact⟨⟨⟨⟨d,e⟩,a⟩,b⟩,c⟩
  ·rintro⟨⟨⟨⟨d,e⟩,a⟩,b⟩,c⟩;exact⟨a,b,c,d,e⟩
 rw[e];by_cases f:p.held=q.held
 ·by_cases g:p.log=q.log
  ·by_cases i:p.up=q.up
   ·by_cases n:p.aT=q.aT
    ·by_cases o:p.sent=q.sent
     ·rw[bf f,bf g,bf i,bf n,bf o]
      (repeat' (first|(refine r1 ?_;intros)|(refine fx J (λh=>?_) (λh=>?_)<;>try(exfalso;omega))|(apply fw;refine fH J J J (λh=>?_) (λh=>?_)<;>try(exfalso;omega))))
      all_goals(intros;first|contradiction|((refine fr ?_);exact⟨_,rP,rfl,rfl⟩))
     ·rw[bf f,bf g,bf i,bf n,bd o]
      (repeat' (first|(refine r1 ?_;intros)|(refine fx J (λh=>?_) (λh=>?_)<;>try(exfalso;omega))|(apply fw;refine fH J J J (λh=>?_) (λh=>?_)<;>try(exfalso;omega))))
      all_goals(intros;first|contradiction|((refine fr ?_);exact⟨_,rP,rfl,rfl⟩))
    ·rw[bf f,bf g,bf i,bd n]
     (repeat' (first|(refine r1 ?_;intros)|(refine fx J (λh=>?_) (λh=>?_)<;>try(exfalso;omega))|(apply fw;refine fH J J J (λh=>?_) (λh=>?_)<;>try(exfalso;omega))))
     all_goals(intros;first|contradiction|((refine fr ?_);exact⟨_,rP,rfl,rfl⟩))
   ·rw[bf f,bf g,bd i]
    (repeat' (first|(refine r1 ?_;intros)|(refine fx J (λh=>?_) (λh=>?_)<;>try(exfalso;omega))|(apply fw;refine fH J J J (λh=>?_) (λh=>?_)<;>try(exfalso;omega))))
    all_goals(intros;first|contradiction|((refine fr ?_);exact⟨_,rP,rfl,rfl⟩))
  ·rw[bf f,bd g]
   (repeat' (first|(refine r1 ?_;intros)|(refine fx J (λh=>?_) (λh=>?_)<;>try(exfalso;omega))|(apply fw;refine fH J J J (λh=>?_) (λh=>?_)<;>try(exfalso;omega))))
   all_goals(intros;first|contradiction|((refine fr ?_);exact⟨_,rP,rfl,rfl⟩))
 ·rw[bd f]
  (repeat' (first|(refine r1 ?_;intros)|(refine fx J (λh=>?_) (λh=>?_)<;>try(exfalso;omega))|(apply fw;refine fH J J J (λh=>?_) (λh=>?_)<;>try(exfalso;omega))))
  all_goals(intros;first|contradiction|((refine fr ?_);exact⟨_,rP,rfl,rfl⟩))
theorem LL(d f:Value)(ss a:List aV)(M:List aa)(I:ss.length=a.length)(F:ss.length<=5)(r:∀p∈ss.map aV.p,p.held.length<=10000/\p.log.length<=10000)(s:∀p∈a.map aV.p,p.held.length<=10000/\p.log.length<=10000):
  Fn prog 19 #[d,f] (cJ d ss::aA (ss.map aV.own)::cJ f a::aA (a.map aV.own)::M)
   λv L'=>v=.bool (decide (ss.map aV.p=a.map aV.p))/\L'=cJ d ss::aA (ss.map aV.own)::cJ f a::aA (a.map aV.own)::M:=by
 refine fo func19 ntmps19 ?_;refine rn ?_;intros;refine bm [5] (λz vs L'=>∃(j:Nat),j<=ss.length/\z=ss.length-j/\(ss.map aV.p).take j=(a.map aV.p).take j/\vs=[.int .i64 j]/\L'=cJ d ss::aA (ss.map aV.own)::cJ f a::aA (a.map aV.own)::M) ss.length ⟨0,U,rfl,rfl,rfl,rfl⟩ ?_;rintro z vs A t ⟨j,H,rfl,l,rfl,rfl⟩;refine bp [0,1,5] rG (λC=>?_);by_cases b:j<ss.length
 ·have c:j<a.length:=U;have o:=aV.rd b (cJ d ss::cJ f a::aA (a.map aV.own)::M);have q:=aV.rd c (cJ d ss::aA (ss.map aV.own)::cJ f a::M);have x:=r _ (fA.2 ⟨ss[j]'b,bT b,rfl⟩);have y:=s _ (fA.2 ⟨a[j]'c,bT c,rfl⟩);have i:j<(ss.map aV.p).length:=by rw[bC];exact b
  have k:j<(a.map aV.p).length:=by rw[bC];exact c
  have m:(ss.map aV.p)[j]'i=(ss[j]'b).p:=gT ..;have n:(a.map aV.p)[j]'k=(a[j]'c).p:=gT ..;refine rn ?_;intros;refine bU 9 _ rfl rQ (eb _) ?_;(repeat' (first|(refine m1 ?_;intros)|(refine cG J J J (λh=>?_) (λh=>?_)<;>try(exfalso;omega))));refine ma [] call54 (Kb (ss[j]'b).p (a[j]'c).p _ _ _ _ _ (o.1.sub rP) (o.2.sub rP) (q.1.sub rP) (q.2.sub rP) (ss[j]'b).o1 (ss[j]'b).o2 (a[j]'c).o1 (a[j]'c).o2 U U U U) ?_;rintro _ _ ⟨rfl,rfl⟩;by_cases g:(ss[j]'b).p=(a[j]'c).p
  ·rw[bf g];refine mw ?_;intros;refine rn ?_;intros;refine aS ⟨ss.length-(j+1),cJ d ss::aA (ss.map aV.own)::cJ f a::aA (a.map aV.own)::M,U,rP,j+1,U,rfl,by rw[da i,da k,l,m,n,g],av (aQ U) rfl,rfl⟩
  ·have e:decide (ss.map aV.p=a.map aV.p)=false:=bd (CW i k (by rw[m,n];exact g));rw[bd g,e];refine mw ?_;intros;exact fX
 ·obtain rfl:j=ss.length:=U;have e:decide (ss.map aV.p=a.map aV.p)=true:=bf (by
   have u:(ss.map aV.p).length=ss.length:=bC ..;have w:(a.map aV.p).length=ss.length:=by rw[bC];omega
   rw[ic U,ic U]at l;exact l)
  rw[e];exact fX
end
end
end Go.Proofs.YtogcfijlhpaeeaaGreat
