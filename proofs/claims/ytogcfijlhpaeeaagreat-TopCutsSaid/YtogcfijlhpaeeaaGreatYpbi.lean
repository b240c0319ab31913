/- Texts. No condition. -/
import Derived.Test.YtogcfijlhpaeeaaGreatYpbh
open Go.RowKit Go.Proofs.Tryz
set_option linter.all false
set_option maxHeartbeats 32000000
namespace Go.Proofs.YtogcfijlhpaeeaaGreat
variable{k g n:Nat}{r:Int}{c:aJ}{M:List aa}{w:aD}{f:Nat->Value}{P:Program}{R:Value->List aa->Prop}{Q:bx}{ss:List Sh}{tl:List aj}{gs:List Ptr}{fl:List Fk}{bs:List Bv}
section
theorem IP{st:aY}(a:st.bE=false)(x:aF):(st.write x).2=0/\(st.write x).1={st with aE:=st.aE++[x]}:=by rw[aY.sO a];exact⟨rfl,rfl⟩
theorem zB{st:aY}{x:aF}(hx:x.aW)(b:st.bE=true):(st.write x).2=18/\(st.write x).1.up=false/\(st.write x).1.bE=false/\(st.write x).1.aE=if(x.bytes.length:Int)<=st.keep then st.aE++[x]else st.aE:=by
 have a:=(x.lR hx).1;rw[aY.uu b];by_cases h:(x.bytes.length:Int)<=st.keep
 ·rw[an h,an ((Ci st.keep a).2 h)];exact⟨rfl,rfl,rfl,rfl⟩
 ·rw[ai h,ai (λk=>h ((Ci st.keep a).1 k))];exact⟨rfl,rfl,rfl,rfl⟩
theorem P9{p:aR}(k:aj)(h:p.has r)(a:p.told.length=p.sf.length):(p.bK r k).1=0/\(p.bK r k).2.told.getD r.toNat aj.zero=(p.told.getD r.toNat aj.zero).join k:=by unfold aR.bK;rw[ai (λk=>k h)];unfold aR.has at h;refine⟨rfl,?_⟩;simp only[pI];rw[cu,tM U];rfl
theorem YQ{p:aR}{most:Int}{l:List Ev}(a:(p.dC most r l).2.1=0):p.iX r.toNat<=(p.dC most r l).1/\p.has r:=by
 unfold aR.dC at a⊢
 split
 ·rename_i h;rw[an h]at a;cases a
 rename_i h;rw[ai h]at a;split
 ·rename_i b;rw[an b]at a;exact absurd a b
 have c:p.has r:=nW λk=>h (.inl k);refine⟨?_,c⟩;unfold aR.has at c;unfold aR.iX;rw[an U,bo];omega
theorem eD.Zo{ops:Array Oper}{l:List Oper}{st:aR}(h:∀ss tl,gq n st ss tl->aM P k ops l Q f (cL g c ss tl::dp c.w ss::M)):aM P k ops l Q f (eD g c n st::M):=λD F w0 f0 ws a w ⟨r,e,⟨x,⟨ss,tl,i,b⟩,d,s⟩,kk⟩ hc=>
 h ss tl i D F w0 f0 ws a w ⟨r,e,Ep _ _ M w F ⟨x,b,d,s⟩,kk⟩ hc
theorem gq.of{st:aR}{a:List Sh}(h:gq n st ss tl)(e:a.map Sh.sf=ss.map Sh.sf):gq n st a tl:=⟨h.n1,h.n5,h.ls,h.lt,by rw[e];exact h.sf,h.told⟩
set_option maxRecDepth 20000 attribute [local irreducible] Ex aM Fn bI bJ bV fin meet ch aX bZ aP aN aI Rd aK Row ao Sub bk bP bS bN bg bR Hid bY
section
attribute [local irreducible] eY mh eD
theorem OF(gh:Nat)(c:aJ)(st:aY)(v0:Value)(b:List UInt8)(f:aF×Int)(M:List aa)(hr:aI M v0 b)(o0:O1 v0)(hf:cV b=f)(h0:f.2=0\/f.2=4)(gd:eA k c st)(hk:k<=80):
  Fn prog 141 #[ay gh,v0] (cc gh c st::M)
  λv L'=>∃u,O1 u/\v=.tuple #[.int .i64 (st.take c f).2.1,u,.int .i64 (st.take c f).2.2.2]/\L'=bB u (lV (st.take c f).2)::cc gh c (st.take c f).1::M:=by
 refine cc.fn λgp keep t=>?_;cases i:st.up
 ·have e:st.take c f=(st,-1,(aF.zero,18)):=by unfold aY.take;rw[an i]
  rw[e];refine fo func141 ntmps141 ?_;refine rn ?_;(repeat(first|intro(g:Nat)|intro h));refine fr ?_;exact⟨_,ar (gX _) (ar (rz (st:=st) i rfl t rfl M) rP),.slice none 0 0,rfl,rfl,rfl⟩
 have s:=(gd.up i).2;have e9:=gd.dK.post;rw[s]at e9⊢
 have e8:=gd.ok.yx U i;have y7:=e9.n;have w8:=gd.cm.n;have hw:=gd.cm.w;refine fo func141 ntmps141 ?_;refine rn ?_;(repeat(first|intro(g:Nat)|intro h));refine bc [] J call202 J J (Je v0 b f _ rD o0 hf h0) ?_;rintro _ _ ⟨q,o',rfl,rfl⟩;have l9:=(E5 hf h0).2;obtain⟨a,w⟩:=f;by_cases d7:w=0
 case neg=>
  have e:st.take c (a,w)=(st,-1,(aF.zero,w)):=by unfold aY.take;rw[ai (by rw[i];simp),an d7]
  rw[e];refine rn ?_;(repeat(first|intro(g:Nat)|intro h));refine fr ?_;exact⟨_,ar (gX _) (ar (rz (st:=st) i rfl t s M) rP),.slice none 0 0,rfl,rfl,rfl⟩
 subst d7;have d6:a.cM:=by
  rcases l9 with⟨_,h⟩|⟨h,_,_⟩
  ·cases h
  ·exact h
 clear l9 hf h0;have V:=d6.r;have w9:=d6.m;by_cases hR:c.n<=a.r
 ·have e:st.take c (a,0)=(st,-1,(aF.zero,23)):=by unfold aY.take;rw[ai (by rw[i];simp),ai (by simp),an hR]
  rw[e];refine rn ?_;(repeat(first|intro(g:Nat)|intro h));refine ln ?_;(repeat(first|intro(g:Nat)|intro h));refine rn ?_;(repeat(first|intro(g:Nat)|intro h));refine fr ?_;exact⟨_,ar (gX _) (ar (rz (st:=st) i rfl t s M) rP),.slice none 0 0,rfl,rfl,rfl⟩
 have e:st.take c (a,0)=if a.kind=1 then st.push c a.r a.l else if a.kind=3 then(st,st.dP a.r a.c)else
   if a.kind=5 then((st.bK a.r a.c).1,-1,(aF.zero,(st.bK a.r a.c).2))else(st,-1,(aF.zero,23)):=by
  unfold aY.take;rw[ai (by rw[i];simp),ai (by simp),ai hR]
 rw[e];clear e;refine rn ?_;(repeat(first|intro(g:Nat)|intro h));refine ln ?_;(repeat(first|intro(g:Nat)|intro h));refine rn ?_;(repeat(first|intro(g:Nat)|intro h));revert g;intro R;refine cb (L':=eD gp c c.n.toNat st.post::lK gh c gp true st.bE keep::ao R 192 (bH a q)::aL q a.l::M) ?_ rP;refine eD.Zo λss tl Q=>?_;have h5:=Q.s5;have u7:=Q.t5;have hn:((c.n.toNat:Nat):Int)=c.n:=U;refine ca [] call203 (Tz gp c ss tl _ h5 u7 (λx hx=>(Q.ok e8 x hx).2)) ?_;rintro _ _ ⟨o,s2,rfl,m9,q9,rfl⟩;have c8:∀{st':aY} {up bE:Bool} {kp:Int} (i:st'.up=up) (d:st'.bE=bE) (hk:bE=true->kp=st'.keep) (L:cU c st'.aE=st.post) (M:List aa),Sub (cc gh c st'::M) (lK gh c gp up bE kp::cL gp c ss tl::dp c.w ss::M):=λi d hk L M=>
  ar (rz (gp:=gp) i d hk L M) (bl _ (eD.cls Q M))
 refine cb (L':=eD o c c.n.toNat st.post::cL gp c ss tl::dp c.w ss::lK gh c gp true st.bE keep::ao R 192 (bH a q)::aL q a.l::M) ?_ (eD.cls (Q.of m9) _);clear m9 q9;by_cases k1:a.kind=1
 ·rw[an k1];refine rn ?_;(repeat(first|intro(g:Nat)|intro h));refine bc [] J call204 rE J (T5 o c c.n.toNat st.post a.r q a.l _ hn e8 rD U (λy hy=>(d6.l y hy).I.1)) ?_;rintro _ _ ⟨rfl,rfl⟩;rw[Fb];have m7:=CN e9 c.w a.r a.l;have d8:=YQ (p:=st.post) (most:=c.w) (r:=a.r) (l:=a.l);have m8:∀n w m,st.post.dC c.w a.r a.l=(n,w,m)->st.push c a.r a.l=if w≠0 then(st,-1,(aF.zero,w))else if n=st.post.iX a.r.toNat then({st with post:=m},a.r,(⟨2,a.r,n,aj.zero,[]⟩,0))else
    if(st.write (bw 5 a.r a.l)).2≠0 then((st.write (bw 5 a.r a.l)).1,-1,(aF.zero,18))else({(st.write (bw 5 a.r a.l)).1 with post:=m},a.r,(⟨2,a.r,n,aj.zero,[]⟩,0)):=λn w m h=>by
   unfold aY.push;rw[h]
  obtain⟨⟨n,w,m⟩,L⟩:∃p,st.post.dC c.w a.r a.l=p:=⟨_,rfl⟩;rw[m8 n w m L];have P:iz c st.post (bw 5 a.r a.l)=m:=by show(st.post.dC c.w a.r a.l).2.2=m;rw[L]
  rw[L]at m7 d8⊢
  clear m8;simp only at m7 d8;by_cases d7:w=0
  case neg=>
   rw[an d7];refine rn ?_;(repeat(first|intro(g:Nat)|intro h));refine fr ?_;exact⟨_,ar (gX _) (ar (c8 i rfl t s M) rP),.slice none 0 0,rfl,rfl,rfl⟩
  subst d7;rw[ai (by simp)];obtain⟨d8,d9⟩:=d8 rfl;have u6:a.r.toNat<c.n.toNat:=U;have z:a.r.toNat<ss.length:=U;have u5:st.post.iX a.r.toNat=((ss[a.r.toNat]'z).sf.all.length:Int):=by unfold aR.iX;rw[an U,Q.get u6 z]
  rw[u5]at d8⊢
  have w7:=(Q.ok e8 _ (bT z)).2;clear P;refine rn ?_;(repeat(first|intro(g:Nat)|intro h));refine bF (L':=lK gh c gp true st.bE keep::cL gp c ss tl::kj c.w (ss[a.r.toNat]'z)::kK (ss[a.r.toNat]'z)::om c.w ss a.r.toNat::ao R 192 (bH a q)::aL q a.l::eD o c c.n.toNat m::M) ?_ (ar rP (ar (vi (g:=gp) (c:=c) (tl:=tl) z (lK gh c gp true st.bE keep::ao R 192 (bH a q)::aL q a.l::eD o c c.n.toNat m::M)) rP));refine Ex.N6 17 _ rfl rQ rQ (eb _) ?_;refine mn ?_;intros;refine fZ J J J (sk 1 (j:=a.r.toNat) J J J z) ?_;refine mn ?_;intros;have j9:∀{st':aY} {up bE:Bool} {kp:Int} (i:st'.up=up) (d:st'.bE=bE) (hk:bE=true->kp=st'.keep) (L:cU c st'.aE=st.post) (M:List aa),Sub (cc gh c st'::M) (lK gh c gp up bE kp::kj c.w (ss[a.r.toNat]'z)::kK (ss[a.r.toNat]'z)::om c.w ss a.r.toNat::cL gp c ss tl::M):=λi d hk L M=>
   ar (c8 i d hk L M) (bl _ (BN z M))
  refine⟨[ao R 192 (bH a q)],gC (dt 5 rfl (eI _)),?_⟩;by_cases m6:n=((ss[a.r.toNat]'z).sf.all.length:Int)
  ·rw[an m6];refine mn ?_;intros;refine rn ?_;intros;refine ca [] call182 (xi ⟨2,a.r,n,aj.zero,[]⟩ (.slice none 0 0) _ (mC _) rfl (vU V U)) ?_;rintro _ _ ⟨u2,j0,rfl,rfl⟩;refine rn ?_;intros;refine fr ?_;exact⟨_,bl _ (ar (j9 (st':={st with post:=m}) i rfl t s M) rP),u2,j0,rfl,by unfold lV;rw[ai (by simp only;omega)];rfl⟩
  ·rw[ai m6];have W:=pb (k:=5) (l:=a.l) (.inr (.inr rfl)) V U d6.l;have P:cU c (st.aE++[bw 5 a.r a.l])=m:=by rw[sE,s];show(st.post.dC c.w a.r a.l).2.2=m;rw[L]
   refine mn ?_;intros;refine bX J J J ?_;refine bc [] J call205 rE J (NK gh gp o c true st.bE keep (bw 5 a.r a.l) q _ rD o' W) ?_;rintro _ _ (⟨d,rfl,rfl⟩|⟨d,rfl,S,rfl⟩|⟨d,rfl,S,rfl⟩)
   ·obtain⟨C,F⟩:=IP d (bw 5 a.r a.l);rw[C,ai (by simp),F];refine bn ?_;refine br (gC (dt 5 rfl (eI _))) ?_;refine mn ?_;intros;refine rn ?_;intros;refine ca [] call182 (xi ⟨2,a.r,n,aj.zero,[]⟩ (.slice none 0 0) _ (mC _) rfl (vU V U)) ?_;rintro _ _ ⟨u2,j0,rfl,rfl⟩;refine rn ?_;intros;refine fr ?_;exact⟨_,bl _ (ar (rz (gp:=o) (st:={st with aE:=st.aE++[bw 5 a.r a.l],post:=m}) i d (λh=>by cases h) P M) rP),u2,j0,rfl,by unfold lV;rw[ai (by simp only;omega)];rfl⟩
   ·obtain⟨C,F,w3,H⟩:=zB W d;rw[an (by rw[<-t d];exact S)]at H;rw[<-H]at P;rw[C,an (by simp)];refine bn ?_;refine br (gC (dt 5 rfl (eI _))) ?_;refine mn ?_;intros;refine rn ?_;intros;refine fr ?_;exact⟨_,ar (gX _) (ar (rz (gp:=o) F w3 (λh=>by cases h) P M) rP),.slice none 0 0,rfl,rfl,rfl⟩
   ·obtain⟨C,F,w3,H⟩:=zB W d;rw[ai (by rw[<-t d];exact S)]at H;rw[C,an (by simp)];refine bn ?_;refine br (gC (dt 5 rfl (eI _))) ?_;refine mn ?_;intros;refine rn ?_;intros;refine fr ?_;exact⟨_,ar (gX _) (ar (j9 F w3 (λh=>by cases h) (by rw[H];exact s) M) rP),.slice none 0 0,rfl,rfl,rfl⟩
 rw[ai k1];by_cases k3:a.kind=3
 ·rw[an k3];obtain⟨s9,u4⟩:=Dc e9 gd.cm a.r a.c;have d9:(st.post.dP a.r a.c).2=0:=by unfold aR.dP;rw[ai (λh=>h ⟨V.1,U⟩)]
  have e:st.dP a.r a.c=(a.r,(⟨4,a.r,0,aj.zero,(st.post.dP a.r a.c).1⟩,0)):=by unfold aY.dP;rw[ai (by rw[d9];simp)]
  rw[e];refine rn ?_;intros;refine ca [] call206 (Va o c c.n.toNat st.post a.r a.c _ hn e8) ?_;rintro _ _ ⟨u,ou,rfl,rfl⟩;rw[d9];refine rn ?_;intros;refine bc [] J call182 J J (xi ⟨4,a.r,0,aj.zero,(st.post.dP a.r a.c).1⟩ u _ rD ou (Gh V s9 u4)) ?_;rintro _ _ ⟨u2,j0,rfl,rfl⟩;refine rn ?_;intros;refine fr ?_;exact⟨_,bl _ (ar (c8 i rfl t s M) rP),u2,j0,rfl,by unfold lV;rw[ai (by simp only;omega)];rfl⟩
 rw[ai k3];by_cases k5:a.kind=5
 ·rw[an k5];have d9:st.post.has a.r:=⟨V.1,U⟩;obtain⟨r0,r9⟩:=P9 a.c d9 e9.t;have A:a.r.toNat<tl.length:=U;have u9:st.post.told.getD a.r.toNat aj.zero=tl[a.r.toNat]'A:=by rw[<-Q.NZ,cu,gV A];rfl
  have he:st.bK a.r a.c=if(st.post.bK a.r a.c).2.told.getD a.r.toNat aj.zero=st.post.told.getD a.r.toNat aj.zero then({st with post:=(st.post.bK a.r a.c).2},0)else
    if(st.write ⟨6,a.r,0,a.c,[]⟩).2≠0 then((st.write ⟨6,a.r,0,a.c,[]⟩).1,18)else({(st.write ⟨6,a.r,0,a.c,[]⟩).1 with post:=(st.post.bK a.r a.c).2},0):=by
   unfold aY.bK;rw[ai (by rw[r0];simp)]
  rw[he];rw[r9,u9];clear he;have W:=EP (c:=a.c) V d6.c;have P:cU c (st.aE++[⟨6,a.r,0,a.c,[]⟩])=(st.post.bK a.r a.c).2:=by rw[sE,s];rfl
  refine rn ?_;intros;refine ca [] call207 (Tu o c c.n.toNat st.post a.r a.c _ hn e8) ?_;rintro _ _ ⟨rfl,rfl⟩;refine rn ?_;intros;refine bF (L':=lK gh c gp true st.bE keep::cL gp c ss tl::ao R 192 (bH a q)::eD o c c.n.toNat (st.post.bK a.r a.c).2::dp c.w ss::M) ?_ rP;refine Ex.N6 25 _ rfl rQ rQ (eb _) ?_;refine mn ?_;intros;refine fZ J J J (GO 1 (k:=a.r.toNat) h5 J J J J A) ?_;refine mn ?_;intros;refine ma [] call208 (JA (tl[a.r.toNat]'A) a.c _) ?_;rintro _ _ ⟨rfl,rfl⟩;refine bn ?_;refine br (eb _) ?_;refine mn ?_;intros;refine fZ J J J (GO 1 (k:=a.r.toNat) h5 J J J J A) ?_;refine mn ?_;intros;refine⟨[ao R 192 (bH a q)],gC (dt 2 rfl (eI _)),?_⟩;by_cases hj:(tl[a.r.toNat]'A).join a.c=tl[a.r.toNat]'A
  ·rw[an hj];rw[bd (p:=(tl[a.r.toNat]'A).join a.c≠tl[a.r.toNat]'A) (λh=>h hj)];refine mn ?_;intros;refine rn ?_;intros;refine fr ?_;exact⟨_,ar (gX _) (ar (c8 (st':={st with post:=(st.post.bK a.r a.c).2}) i rfl t s M) rP),.slice none 0 0,rfl,rfl,rfl⟩
  ·rw[ai hj];rw[bf (p:=(tl[a.r.toNat]'A).join a.c≠tl[a.r.toNat]'A) hj];refine mn ?_;intros;refine ma [] call205 (NK gh gp o c true st.bE keep ⟨6,a.r,0,a.c,[]⟩ (.slice none 0 0) _ (mC _) rfl W) ?_;rintro _ _ (⟨d,rfl,rfl⟩|⟨d,rfl,S,rfl⟩|⟨d,rfl,S,rfl⟩)
   ·obtain⟨C,F⟩:=IP d ⟨6,a.r,0,a.c,[]⟩;rw[C,ai (by simp),F];refine bn ?_;refine br (gC (dt 2 rfl (eI _))) ?_;refine mn ?_;intros;refine rn ?_;intros;refine fr ?_;exact⟨_,ar (gX _) (ar (rz (gp:=o) (st:={st with aE:=st.aE++[⟨6,a.r,0,a.c,[]⟩],post:=(st.post.bK a.r a.c).2}) i d (λh=>by cases h) P M) rP),.slice none 0 0,rfl,rfl,rfl⟩
   ·obtain⟨C,F,w3,H⟩:=zB W d;rw[an (by rw[<-t d];exact S)]at H;rw[<-H]at P;rw[C,an (by simp)];refine bn ?_;refine br (gC (dt 2 rfl (eI _))) ?_;refine mn ?_;intros;refine rn ?_;intros;refine fr ?_;exact⟨_,ar (gX _) (ar (rz (gp:=o) F w3 (λh=>by cases h) P M) rP),.slice none 0 0,rfl,rfl,rfl⟩
   ·obtain⟨C,F,w3,H⟩:=zB W d;rw[ai (by rw[<-t d];exact S)]at H;rw[C,an (by simp)];refine bn ?_;refine br (gC (dt 2 rfl (eI _))) ?_;refine mn ?_;intros;refine rn ?_;intros;refine fr ?_;exact⟨_,ar (gX _) (ar (c8 F w3 (λh=>by cases h) (by rw[H];exact s) M) rP),.slice none 0 0,rfl,rfl,rfl⟩
 ·rw[ai k5];refine rn ?_;intros;refine fr ?_;exact⟨_,ar (gX _) (ar (c8 i rfl t s M) rP),.slice none 0 0,rfl,rfl,rfl⟩
end
end
section
theorem OK(c:aJ)(a:(aD.new c).has r):((aD.new c).node r).aE=[]/\((aD.new c).node r).held=[]:=by
 have f:=a.1;have b:=a.2;have d:(aD.new c).nodes.length=c.n.toNat:=by unfold aD.new;simp
 rw[d]at b;have e:(aD.new c).node r=(aG.fresh.start c r).1:=by unfold aD.node aD.new;have:r.toNat<c.n.toNat:=U;simp only[cu,kz,xX this,oF,AH];rw[show((r.toNat:Nat):Int)=r by omega]
 rw[e];exact⟨rfl,rfl⟩
theorem pZ.new(c:aJ)(b:c.aW):pZ c (aD.new c):=by refine⟨λr a=>?_,eS.new c⟩;unfold lu;rw[(OK c a).1];exact ix.nil c r
end
section
theorem V4(st:aY)(c:aJ)(f:aF×Int)(d:f.2=0->0<=f.1.r):(st.take c f).2.1=-1\/((st.take c f).2.2.2=0/\0<=(st.take c f).2.1/\(st.take c f).2.1<c.n):=by
 unfold aY.take;split
 ·exact .inl rfl
 split
 ·exact .inl rfl
 rename_i b;have a:=d (by simpa using b);split
 ·exact .inl rfl
 rename_i e;split
 ·unfold aY.push;split
  ·exact .inl rfl
  split
  ·exact .inr ⟨rfl,a,by simp only;omega⟩
  split
  ·exact .inl rfl
  ·exact .inr ⟨rfl,a,by simp only;omega⟩
 split
 ·unfold aY.dP;split
  ·exact .inl rfl
  ·exact .inr ⟨rfl,a,by simp only;omega⟩
 split
 ·exact .inl rfl
 ·exact .inl rfl
def qd(w:aD):Prop:=∀x∈w.fl,x.1=5\/w.has x.1
theorem LK(h:qd w)(b:Int)(f:aF×Int):qd (w.eJ c b f).1:=by
 unfold aD.eJ;split
 ·intro x hx;refine(h x hx).imp id λa=>?_;unfold aD.has at*
  rw[nG];exact a
 ·simp only;split
  ·rename_i a;intro x hx;rcases ct.1 hx with hx|hx
   ·exact h x hx
   ·rw[mJ.1 hx];exact .inr a.2
  ·exact h
theorem qd.step{c:aJ}{w:aD}(h:qd w)(s:cB):qd (w.step c s).1:=by
 have a:∀(r:Int) (t:aG),qd (w.aZ r t):=λr t x hx=>by
  refine(h x hx).imp id λd=>?_;unfold aD.has at*
  rw[nG];exact d
 have b:∀p,qd (w.send p).1:=λp=>by
  unfold aD.send;simp only;split
  ·intro x hx;rcases ct.1 hx with hx|hx
   ·exact h x hx
   ·rw[mJ.1 hx];exact .inl rfl
  ·exact h
 have e:qd {w with fl:=dQ w.fl s.at_}:=λx hx=>h x (xy hx);unfold aD.step;split
 ·unfold aD.eC;split
  ·simp only;split
   ·split<;>assumption
   ·split
    ·exact LK h _ _
    ·exact LK e _ _
  ·exact h
 split
 ·unfold aD.dj;split
  ·split
   ·exact a _ _
   ·split
    ·exact a _ _
    ·exact a _ _
  ·split
   ·split
    ·exact h
    ·split
     ·exact h
     ·exact h
   ·exact h
 split
 ·exact h
 split
 ·exact a _ _
 split
 ·exact b _
 split
 ·exact b _
 split
 ·exact b _
 split
 ·exact a _ _
 ·exact h
structure QI(k:Nat)(c:aJ)(w:aD):Prop where
 gd:bO k c w
 q:oT w
 gv:pZ c w
 ft:qd w
theorem QI.step{k:Nat}{c:aJ}{w:aD}(h:QI k c w)(a:k<=198)(s:cB):QI (k+1) c (w.step c s).1:=⟨h.gd.step a s,h.q.step h.gd s,h.gv.step h.gd a s,h.ft.step s⟩
theorem QI.new{c:aJ}(a:c.aW):QI 0 c (aD.new c):=by
 have g:=bO.new a;refine⟨g,λr b=>?_,pZ.new c a,λx hx=>by cases hx⟩;obtain⟨i,rfl⟩:=jF b.1;have hi:i<(aD.new c).nodes.length:=by have:=b.2;omega
 rw[(xz hi).2];have e:(aD.new c).nodes[i]'hi=(aG.fresh.start c (i:Nat)).1:=by simp[aD.new]
 rw[e];exactλ_=>rfl
theorem QI.zQ{k:Nat}{c:aJ}{w:aD}(h:QI k c w){r:Int}(a:w.has r):jb (replay (w.node r).aE).1:=by
 obtain⟨i,rfl⟩:=jF a.1;have hi:i<w.nodes.length:=by have:=a.2;omega
 exact(h.gv.Pr h.gd).zQ hi
end
section
def cF(g:Nat)(a:List Fk):aa:=λh=>∃(v0:Value) (fs:List Fl) (bs:List Bv),v0.oneCell'=true/\fs.map Fl.key=a/\(∀f∈fs,f.b∈bs)/\aA [gD g v0,dH v0 fs,cE bs] h
theorem cF.fn{k:FuncId}{args:Array Value}
  (h:∀v0 fs bs,O1 v0->fs.map Fl.key=fl->(∀f∈fs,f.b∈bs)->Fn P k args (gD g v0::dH v0 fs::cE bs::M) R):Fn P k args (cF g fl::M) R:=λF w0 w rr ⟨x,⟨v0,fs,bs,o,e,m,a⟩,d,s⟩=>
 h v0 fs bs o e m F w0 w rr (ky [gD g v0,dH v0 fs,cE bs] M w F ⟨x,a,d,s⟩)
theorem cF.cls{v0:Value}{fs:List Fl}(o:O1 v0)(e:fs.map Fl.key=fl)(m:∀f∈fs,f.b∈bs)(M:List aa):Sub (cF g fl::M) (gD g v0::dH v0 fs::cE bs::M):=
 ar (jE (λ_ a=>⟨v0,fs,bs,o,e,m,a⟩) (bW M)) (mr [gD g v0,dH v0 fs,cE bs] M)
@[reducible] def di(v:Value)(gs:List Ptr):aa:=aK v 82 gs
def cv(c:aJ)(gs:List Ptr)(a:List aG):List aa:=(List.range a.length).map λ(i:Nat)=>bA (gs.getD i ⟨0⟩).g c i (a.getD i aG.fresh)
theorem YZ(c:aJ)(gs:List Ptr)(a:List aG)(r:Int)(h:0<=r/\r<a.length):(cv c gs a)[r.toNat]?=some (bA (gs.getD r.toNat ⟨0⟩).g c r (a.getD r.toNat aG.fresh)):=by unfold cv;have b:r.toNat<a.length:=U;rw[kz,xX b];have e:((r.toNat:Nat):Int)=r:=U;simp only[oF];rw[e]
theorem Uw(c:aJ)(gs:List Ptr)(a:List aG)(r:Int)(s:aG)(h:0<=r/\r<a.length):cv c gs (a.set r.toNat s)=(cv c gs a).set r.toNat (bA (gs.getD r.toNat ⟨0⟩).g c r s):=by
 have f:r.toNat<a.length:=U;have e:((r.toNat:Nat):Int)=r:=U;unfold cv;rw[iw];refine sV (by simp) λi d j=>?_;have hi:i<a.length:=by simpa using d
 rw[gT,zD,BE];by_cases b:r.toNat=i
 ·subst b;rw[an rfl];have:(a.set r.toNat s).getD r.toNat aG.fresh=s:=by simp[cu,f]
  rw[this,e]
 ·rw[ai b,gT,zD];have:(a.set r.toNat s).getD i aG.fresh=a.getD i aG.fresh:=by simp only[cu,Ac b]
  rw[this]
theorem TF(c:aJ)(gs:List Ptr)(a:List aG)(p:Ptr)(s:aG)(h:gs.length=a.length):cv c (gs++[p]) (a++[s])=cv c gs a++[bA p.g c a.length s]:=by
 unfold cv;rw[bo,oV,wx,dA];congr 1
 ·refine xe λi hi=>?_;have e:i<a.length:=oI.1 hi;have f:i<gs.length:=U;have b:(gs++[p]).getD i ⟨0⟩=gs.getD i ⟨0⟩:=by simp only[cu,qH f]
  have d:(a++[s]).getD i aG.fresh=a.getD i aG.fresh:=by simp only[cu,qH e]
  rw[b,d]
 ·have b:(gs++[p]).getD a.length ⟨0⟩=p:=by rw[<-h];simp[cu]
  have d:(a++[s]).getD a.length aG.fresh=s:=by simp[cu]
  simp only[kq,EF,b,d]
theorem DF(h:w.has r)(L:List aa):Sub (bA (gs.getD r.toNat ⟨0⟩).g c r (w.node r)::aA ((cv c gs w.nodes).eraseIdx r.toNat)::L) (aA (cv c gs w.nodes)::L):=
 qA L (YZ c gs w.nodes r h)
theorem EG(h:w.has r)(s:aG)(L:List aa):Sub (aA (cv c gs (w.aZ r s).nodes)::L) (bA (gs.getD r.toNat ⟨0⟩).g c r s::aA ((cv c gs w.nodes).eraseIdx r.toNat)::L):=by
 have a:r.toNat<(cv c gs w.nodes).length:=by have:=h.1;have:=h.2;unfold cv;rw[bC,zd];omega
 have:=aA.qt (As:=cv c gs w.nodes) (i:=r.toNat) (bA (gs.getD r.toNat ⟨0⟩).g c r s) L a;rw[<-Uw c gs w.nodes r s h]at this;exact this
theorem EE(h:w.has r)(L:List aa):Sub (aA (cv c gs w.nodes)::L) (bA (gs.getD r.toNat ⟨0⟩).g c r (w.node r)::aA ((cv c gs w.nodes).eraseIdx r.toNat)::L):=by have:=EG (c:=c) (gs:=gs) h (w.node r) L;have e:(w.aZ r (w.node r)).nodes=w.nodes:=tL _ _ _;rwa[e]at this
@[reducible] def cY(a:Nat)(c:aJ)(gh gl:Nat)(vs:Value):aa:=ao a 44 [.int .i64 c.n,.int .i64 c.w,.int .i64 c.q,.int .i64 c.h,.int .i64 c.l,.int .i64 c.p,vs,.pointer (some ⟨gh,0,none⟩),.pointer (some ⟨gl,0,none⟩)]
@[reducible] def tB(a gh gl:Nat)(vs:Value)(gs:List Ptr)(c:aJ)(w:aD)(M:List aa):List aa:=cY a c gh gl vs::di vs gs::aA (cv c gs w.nodes)::cc gh c w.aO::cF gl w.keys::M
def dr(a:Nat)(c:aJ)(w:aD):aa:=λh=>∃(gh gl:Nat) (vs:Value) (gs:List Ptr),vs.oneCell'=true/\gs.length=w.nodes.length/\aA (tB a gh gl vs gs c w []) h
theorem dr.fn{k:FuncId}{args:Array Value}
  (h:∀gh gl vs gs,O1 vs->gs.length=w.nodes.length->Fn P k args (tB g gh gl vs gs c w M) R):Fn P k args (dr g c w::M) R:=λF w0 ww rr ⟨x,⟨gh,gl,vs,gs,o,e,a⟩,d,s⟩=>
 h gh gl vs gs o e F w0 ww rr (ky _ _ ww F ⟨x,a,d,s⟩)
theorem dr.ex{i:Code}
  (h:∀gh gl vs gs,O1 vs->gs.length=w.nodes.length->Ex P k i Q f (tB g gh gl vs gs c w M)):Ex P k i Q f (dr g c w::M):=λD F w0 f0 ws a ww ⟨l,j,⟨x,⟨gh,gl,vs,gs,o,e,b⟩,d,s⟩,kk⟩ hc=>
 h gh gl vs gs o e D F w0 f0 ws a ww ⟨l,j,ky _ _ ww F ⟨x,b,d,s⟩,kk⟩ hc
theorem dr.cls{gh gl:Nat}{vs:Value}(o:O1 vs)(e:gs.length=w.nodes.length)(M:List aa):Sub (dr k c w::M) (tB k gh gl vs gs c w M):=
 ar (jE (λ_ a=>⟨gh,gl,vs,gs,o,e,a⟩) (bW M)) (mr (tB k gh gl vs gs c w []) M)
@[reducible] def tt(c:aJ)(gs:List Ptr)(w:aD)(r:Int):aa:=aA ((cv c gs w.nodes).eraseIdx r.toNat)
@[reducible] def pt(a gh gl:Nat)(vs:Value)(gs:List Ptr)(c:aJ)(w:aD)(r:Int)(M:List aa):List aa:=cY a c gh gl vs::di vs gs::tt c gs w r::cc gh c w.aO::cF gl w.keys::M
theorem qz{gh gl:Nat}{vs:Value}(a:w.has r)(M:List aa):Sub (bA (gs.getD r.toNat ⟨0⟩).g c r (w.node r)::pt k gh gl vs gs c w r M) (tB k gh gl vs gs c w M):=
 ar (B:=bA (gs.getD r.toNat ⟨0⟩).g c r (w.node r)::tt c gs w r::cY k c gh gl vs::di vs gs::cc gh c w.aO::cF gl w.keys::M) rP (ar (DF a _) rP)
theorem ve{gh gl:Nat}{vs:Value}(b:w.has r)(s:aG)(d:O1 vs)(a:gs.length=w.nodes.length)(M:List aa):Sub (dr k c (w.aZ r s)::M) (bA (gs.getD r.toNat ⟨0⟩).g c r s::pt k gh gl vs gs c w r M):=
 ar (dr.cls d (by rw[nG];exact a) M) (ar (B:=aA (cv c gs (w.aZ r s).nodes)::cY k c gh gl vs::di vs gs::cc gh c w.aO::cF gl w.keys::M) rP (ar (EG b s _) rP))
theorem Cr{gh gl:Nat}{vs:Value}(p:aF×Int)(b:O1 vs)(a:gs.length=w.nodes.length)(M:List aa):
  Sub (dr k c (w.send p).1::M) (cY k c gh gl vs::cF gl (if p.2=0 then w.keys++[(5,p.1.bu)]else w.keys)::di vs gs::aA (cv c gs w.nodes)::cc gh c w.aO::M):=by
 by_cases h:p.2=0
 ·have e:(w.send p).1={w with fl:=w.fl++[(5,p.1)]}:=by unfold aD.send;rw[an h]
  have d:w.keys++[(5,p.1.bu)]=({w with fl:=w.fl++[(5,p.1)]}:aD).keys:=by unfold aD.keys;rw[dA];rfl
  rw[e,an h,d];exact ar (dr.cls (w:={w with fl:=w.fl++[(5,p.1)]}) (gh:=gh) (gl:=gl) (vs:=vs) (gs:=gs) b a M) rP
 ·have e:(w.send p).1=w:=by unfold aD.send;rw[ai h]
  rw[e,ai h];exact ar (dr.cls (gh:=gh) (gl:=gl) (vs:=vs) (gs:=gs) b a M) rP
attribute [local irreducible] aA cE
theorem OE(gl:Nat)(d:Int)(x:Value)(xs:List UInt8)(c:List Fk)(M:List aa)(hx:aI M x xs)(g:c.length<=1000000000)(i:xs.length<=140737488355328):
  Fn prog 117 #[ay gl,.int .i64 d,x] (cF gl c::M) λv L'=>L'=cF gl (c++[(d,xs)])::M:=by
 refine cF.fn λv0 fs bs o e m=>?_;refine(HT gl d v0 x fs xs bs M hx (by rw[<-bC (f:=Fl.key),e];exact g) i o).dD ?_;rintro v L' ⟨j,b,o',h,rfl⟩;refine⟨_,cF.cls o' (by rw[dA,e,<-h];rfl) (λf a=>?_) M,rfl⟩;rcases ct.1 a with a|a
 ·exact eu _ (m f a)
 ·rw[mJ.1 a];exact fP ..
set_option maxRecDepth 20000 attribute [local irreducible] Ex aM Fn bI bJ bV fin meet ch aX bZ aP aN aI Rd aK Row ao Sub bk bP bS bN bg bR Hid bY
section
attribute [local irreducible] bA cc cF cv
theorem CR(a gh gl:Nat)(vs:Value)(c:aJ)(w:aD)(r:Int)(M:List aa)(f:(w.nodes.length:Int)=c.n):Fn prog 48 #[ay a,.int .i64 r] (cY a c gh gl vs::M)
  λv L'=>v=.bool (decide (w.has r))/\L'=cY a c gh gl vs::M:=by
 have e:decide (w.has r)=decide (0<=r/\r<c.n):=Bf.2 (by unfold aD.has;rw[f]);rw[e];refine fo func48 ntmps48 ?_;by_cases b:0<=r
 ·by_cases d:r<c.n
  ·rw[bf (⟨b,d⟩:0<=r/\r<c.n)];exact fX
  ·rw[bd (λh:0<=r/\r<c.n=>d h.2)];exact fX
 ·rw[bd (λh:0<=r/\r<c.n=>b h.1)];exact fX
theorem Du(p:aF×Int)(d gh gl:Nat)(c:aJ)(vs u:Value)(a:List Fk)(M:List aa)(e:aI M u (eU p))(j:O1 u)(i:a.length<=1000000)(f:p.2=0->p.1.bu.length<=1000000):
  Fn prog 49 #[ay d,u,.int .i64 p.2] (cY d c gh gl vs::cF gl a::M)
   λv L'=>v=.int .i64 p.2/\L'=cY d c gh gl vs::cF gl (if p.2=0 then a++[(5,p.1.bu)]else a)::M:=by
 refine fo func49 ntmps49 ?_;by_cases b:p.2=0
 ·have g:eU p=p.1.bu:=by unfold eU;rw[an b]
  have h:=f b;rw[g]at e;rw[an b,b];refine rn ?_;intros;refine ca [1] call117 (OE gl 5 u p.1.bu a _ (e.sub rP) U U) ?_;rintro _ _ rfl;exact fX
 ·rw[ai b];exact fX
theorem PA(c:aJ)(r:Int)(M:List aa)(a:c.aW)(d:0<=r/\r<c.n):Fn prog 91 #[.agg (ab.cells c).toArray,.int .i64 r] M
  λv L'=>∃gn,v=.tuple #[ay gn,.int .i64 0]/\L'=bA gn c r (aG.fresh.start c r).1::M:=by
 have b:gS c=true:=by have:=a.n;have:=a.w;have:=a.q;have:=a.h;have:=a.l;have:=a.p;unfold gS gW;simp[*]
 refine fo func91 ntmps91 ?_;refine rn ?_;(repeat(first|intro(g:Nat)|intro h));refine ca [] call156 (LA c _) ?_;rintro _ _ ⟨rfl,rfl⟩;rw[b];refine rn ?_;(repeat(first|intro(g:Nat)|intro h));revert g;intro gn;revert g;intro gi;refine fr ?_;exact⟨_,ar (bA.nl (st:=(aG.fresh.start c r).1) (gi:=gi) (keep:=0) (vl:=.slice none 0 0) rfl rfl rfl (λh=>by cases h) (λ_=>⟨rfl,rfl⟩) M) (ar (bl _ (cA (α:=Ev) none 80 _)) rP),gn,rfl,rfl⟩
end
section
attribute [local irreducible] bA cc cF cv
theorem GQ(l gh gl:Nat)(vs:Value)(gs:List Ptr)(c:aJ)(w:aD)(a:Int)(u:Value)(b:List UInt8)(f:aF×Int)(v0:Value)(fs:List Fl)(bs:List Bv)(M:List aa)(q:QI k c w)(H:k<=80)(z:O1 vs)(p:gs.length=w.nodes.length)
  (R:O1 v0)(o:fs.map Fl.key=w.keys)(Q:∀f∈fs,f.b∈bs)(L:aI (cE bs::M) u b)(S:O1 u)(d:cV b=f)(C:f.2=0\/f.2=4)(d9:a=5\/w.has a):
  Fn prog 113 #[ay l,.int .i64 a,u] (cY l c gh gl vs::di vs gs::aA (cv c gs w.nodes)::cc gh c w.aO::gD gl v0::dH v0 fs::cE bs::M)
   λv L'=>v=.int .i64 (w.eJ c a f).2/\L'=dr l c (w.eJ c a f).1::M:=by
 have y:=q.gd.ok U;have j6:=y.n5;have F:∀N,Sub (cF gl w.keys::N) (gD gl v0::dH v0 fs::cE bs::N):=λN=>cF.cls R o Q N;by_cases m:w.has a
 ·have e:w.eJ c a f=(w.aZ a ((w.node a).dw c a f).1,((w.node a).dw c a f).2):=by unfold aD.eJ;rw[an m]
  rw[e];have j7:=m.1;have j8:=m.2;have j9:a<gs.length:=U;refine fo func113 ntmps113 ?_;refine rn ?_;intros;rw[<-pq U];refine cb (L':=bA (gs.getD a.toNat ⟨0⟩).g c a (w.node a)::cY l c gh gl vs::di vs gs::tt c gs w a::cc gh c w.aO::gD gl v0::dH v0 fs::cE bs::M) ?_ (ar (B:=bA (gs.getD a.toNat ⟨0⟩).g c a (w.node a)::tt c gs w a::cY l c gh gl vs::di vs gs::cc gh c w.aO::gD gl v0::dH v0 fs::cE bs::M) rP (ar (DF m _) rP));refine ca [] call142 (OC (k:=k) _ c a (w.node a) u b f _ (L.sub rP) S d C (q.gd.nd a m) H) ?_;rintro _ _ ⟨rfl,rfl⟩;refine rn ?_;intros;refine fr ?_;exact⟨_,ar (ve m _ z p M) (ar (B:=cF gl w.keys::bA (gs.getD a.toNat ⟨0⟩).g c a ((w.node a).dw c a f).1::cY l c gh gl vs::di vs gs::tt c gs w a::cc gh c w.aO::M) rP (ar (F _) rP)),rfl,rfl⟩
 ·have h5:a=5:=d9.elim id (λh=>absurd h m);have x:=V4 w.aO c f (λh=>by have:=(xv (b:=b) (by rw[d];exact h)).1.r;rw[d]at this;exact this.1);have s:=xc y.aO U (f:=f) (λh=>by have:=(xv (b:=b) (by rw[d];exact h)).1;rw[d]at this;exact this);have t:=OF (k:=k) gh c w.aO u b f;have d7:w.keys.length=w.fl.length:=bC ..;have j4:fs.length=w.fl.length:=by rw[<-d7,<-o,bC]
  have j3:=y.fl.1;have j5:=q.gd.n;obtain⟨⟨i,t2,j,A⟩,I⟩:∃q,w.aO.take c f=q:=⟨_,rfl⟩;have e:w.eJ c a f=(if A=0/\w.has t2 then{w with aO:=i,fl:=w.fl++[(t2,j)]}else{w with aO:=i},A):=by unfold aD.eJ;rw[ai m,I]
  rw[e];rw[I]at s x t;simp only at s x t;refine fo func113 ntmps113 ?_;refine rn ?_;intros;refine ca [3] call141 (t _ (L.sub rP) S d C q.gd.aO H) ?_;rintro _ _ ⟨u2,l9,rfl,rfl⟩;rcases x with rfl|⟨rfl,P,l8⟩
  ·rw[ai (λh=>by have:=h.2.1;omega)];refine rn ?_;intros;refine fr ?_;exact⟨_,ar (dr.cls (w:={w with aO:=i}) (gh:=gh) (gl:=gl) z p M) (ar (B:=cF gl w.keys::cY l c gh gl vs::di vs gs::aA (cv c gs w.nodes)::cc gh c i::M) rP (ar (F _) rP)),rfl,rfl⟩
  ·have d6:w.has t2:=⟨P,U⟩;have c9:=s rfl P;have j1:=j.pH c9;have c8:lV (t2,(j,0))=j.bu:=by unfold lV;rw[ai (by simp only;omega)];rfl
   rw[an ⟨rfl,d6⟩,c8];refine rn ?_;intros;refine bc [7,7,7] J call117 rE J (HT gl t2 v0 u2 fs j.bu bs _ rD U U R) ?_;rintro _ _ ⟨V,n,o3,W,rfl⟩;have d8:(fs++[(⟨t2,n⟩:Fl)]).map Fl.key=({w with aO:=i,fl:=w.fl++[(t2,j)]}:aD).keys:=by rw[dA,o];unfold aD.keys;rw[dA];show _++[(t2,n.l)]=_;rw[W];rfl
   have c7:∀N,Sub (cF gl ({w with aO:=i,fl:=w.fl++[(t2,j)]}:aD).keys::N) (gD gl V::dH V (fs++[(⟨t2,n⟩:Fl)])::cE (n::bs)::N):=λN=>cF.cls o3 d8 (λf d=>by
    rcases ct.1 d with d|d
    ·exact eu _ (Q f d)
    ·rw[mJ.1 d];exact fP ..) N
   refine rn ?_;intros;refine fr ?_;exact⟨_,ar (dr.cls (w:={w with aO:=i,fl:=w.fl++[(t2,j)]}) (gh:=gh) (gl:=gl) z p M) (ar (B:=cF gl ({w with aO:=i,fl:=w.fl++[(t2,j)]}:aD).keys::cY l c gh gl vs::di vs gs::aA (cv c gs w.nodes)::cc gh c i::M) rP (ar (c7 _) rP)),rfl,rfl⟩
end
end
def xI:=@cF.cls
def nS:=@dr.cls
end Go.Proofs.YtogcfijlhpaeeaaGreat
