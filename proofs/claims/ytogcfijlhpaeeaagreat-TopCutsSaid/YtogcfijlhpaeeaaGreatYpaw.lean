/- Texts. No condition. -/
import Derived.Test.YtogcfijlhpaeeaaGreatYpav
open Go.RowKit Go.Proofs.Tryz
set_option linter.all false
set_option maxHeartbeats 32000000
namespace Go.Proofs.YtogcfijlhpaeeaaGreat
variable{k g sz n:Nat}{t:TypeId}{c:aJ}{M:List aa}{cs:List Value}{w:aD}{f:Nat->Value}{P:Program}{α H:Type}{R:Value->List aa->Prop}{Q:bx}
section
def yK(a e d:Nat)(b:Value)(c:aJ)(w:aD)(l:List cB)(xs:List Int):aa:=aA [bz a c (w.after c l xs.length),ao e 32 [ay a],ao d 24 [b],aK b 29 l]
theorem Al(a e d:Nat)(b:Value)(c:aJ)(w:aD)(l:List cB)(xs:List Int):yK a e d b c w l xs=aA [bz a c (w.after c l xs.length),ao e 32 [ay a],ao d 24 [b],aK b 29 l]:=rfl
structure fp where
 v:Value
 o:v.oneCell'=true
 cs:List Ct
def fp.sv(l:fp):Sv:=⟨l.v,l.o⟩
def fp.own(l:fp):aa:=jf (gG l.v l.cs) (aA (l.cs.map Ct.own))
def sD(b d:Nat)(c:aJ)(w:aD)(e:List Sv):aa:=λh=>∃a:List fp,a.map fp.sv=e/\(∀(i:Nat) (hi:i<a.length),(a[i]'hi).cs.map Ct.gK=(w.node i).list.1)/\aA [bz b c w,ao d 32 [ay b],aA (a.map fp.own)] h
theorem VA{k:FuncId}{args:Array Value}{e:List Sv}
  (h:∀b:List fp,b.map fp.sv=e->(∀(i:Nat) (hi:i<b.length),(b[i]'hi).cs.map Ct.gK=(w.node i).list.1)->Fn P k args (bz g c w::ao sz 32 [ay g]::aA (b.map fp.own)::M) R):Fn P k args (sD g sz c w e::M) R:=λF w0 ww rr ⟨x,⟨b,f,j,a⟩,d,s⟩=>
 h b f j F w0 ww rr (ky [bz g c w,ao sz 32 [ay g],aA (b.map fp.own)] M ww F ⟨x,a,d,s⟩)
theorem OI{ops:Array Oper}{l:List Oper}{j:List Sv}
  (h:∀e:List fp,e.map fp.sv=j->(∀(i:Nat) (hi:i<e.length),(e[i]'hi).cs.map Ct.gK=(w.node i).list.1)->aM P n ops l Q f (bz k c w::ao g 32 [ay k]::aA (e.map fp.own)::M)):aM P n ops l Q f (sD k g c w j::M):=λD F w0 f0 ws a ww ⟨q,m,⟨x,⟨e,o,p,b⟩,d,s⟩,kk⟩ hc=>
 h e o p D F w0 f0 ws a ww ⟨q,m,ky [bz k c w,ao g 32 [ay k],aA (e.map fp.own)] M ww F ⟨x,b,d,s⟩,kk⟩ hc
theorem JF(b:List fp)(h:∀(i:Nat) (hi:i<b.length),(b[i]'hi).cs.map Ct.gK=(w.node i).list.1)(M:List aa):Sub (sD k g c w (b.map fp.sv)::M) (bz k c w::ao g 32 [ay k]::aA (b.map fp.own)::M):=
 ar (jE (λ_ a=>⟨b,rfl,h,a⟩) (bW M)) (mr [bz k c w,ao g 32 [ay k],aA (b.map fp.own)] M)
set_option maxRecDepth 20000 attribute [local irreducible] Ex aM Fn bI bJ bV fin meet ch aX bZ aP aN aI Rd aK Row ao Sub bk bP bS bN bg bR Hid bY
section
attribute [local irreducible] aA bD bL cx cQ bz aV.own
theorem QU(b g f:Nat)(d:Value)(c:aJ)(w:aD)(l:List cB)(xs:List Int)(M:List aa)(j:dE 198 c (w.after c l xs.length))(hx:xs.length<l.length)(i:∀s∈l,s.Ok)(m:l.length<=1000):
  Fn prog 154 #[.int .i64 (xs.length:Nat),ay g,ay f] (yK b g f d c w l xs::M) λv L'=>∃a:Int,v=.int .i64 a/\L'=yK b g f d c w l (xs++[a])::M:=by
 rw[Al];refine wV (L':=bz b c (w.after c l xs.length)::ao g 32 [ay b]::ao f 24 [d]::aK d 29 l::M) ?_ (ky [bz b c (w.after c l xs.length),ao g 32 [ay b],ao f 24 [d],aK d 29 l] M);refine fo func154 ntmps154 ?_;refine rn ?_;intros;refine bU 6 [ao g 32 [ay b],ao f 24 [d],aK d 29 l] rfl rQ (gC (dt 1 rfl (dt 1 rfl (dt 1 rfl (eI _))))) ?_
 (repeat' (first|(refine m1 ?_;intros)|(refine cG J J J (λh=>?_) (λh=>?_)<;>try(exfalso;omega))))
 refine ma [] call17 (sI (k:=198) b c (w.after c l xs.length) (l[xs.length]'hx) _ j (bj _) (i _ (bT hx))) ?_;rintro _ _ ⟨rfl,rfl⟩;refine bn ?_;refine br (gC (dt 1 rfl (dt 1 rfl (dt 1 rfl (eI _))))) ?_;refine mn ?_;intros;refine rn ?_;intros;refine fr ?_;have e:w.after c l (xs++[((w.after c l xs.length).step c (l[xs.length]'hx)).2]).length=((w.after c l xs.length).step c (l[xs.length]'hx)).1:=by rw[bo];exact Jw w c l hx
 refine⟨_,?_,_,rfl,rfl⟩;rw[Al,e];exact mr [bz b c ((w.after c l xs.length).step c (l[xs.length]'hx)).1,ao g 32 [ay b],ao f 24 [d],aK d 29 l] M
theorem OY(c:aJ)(b:Value)(l:List cB)(M:List aa)(f:c.aW)(p:O1 b)(j:∀s∈l,s.Ok)(o:l.length<=190):
  Fn prog 86 #[.agg (ab.cells c).toArray,b] (aK b 29 l::M) λv L'=>∃a u,O1 u/\v=.tuple #[ay a,u,.int .i64 0]/\L'=bz a c ((aD.new c).after c l l.length)::M:=by
 refine fo func86 ntmps86 ?_;refine rn ?_;(repeat(first|intro(g:Nat)|intro h));refine ca [] call21 (Hk c _ f) ?_;rintro _ _ ⟨a,rfl,rfl⟩;refine rn ?_;(repeat(first|intro(g:Nat)|intro h));rename_i n d;revert g;intro e;have i:=bO.new f;refine bF (L':=bz a c (aD.new c)::ao e 32 [ay a]::ao d 24 [b]::aK b 29 l::M) ?_ rP;refine bU 6 [ao e 32 [ay a],ao d 24 [b],aK b 29 l] rfl rQ (gC (dt 1 rfl (dt 1 rfl (dt 1 rfl (eI _))))) ?_
 (repeat' (first|(refine m1 ?_;intros)|(refine cG J J J (λh=>?_) (λh=>?_)<;>try(exfalso;omega))))
 refine bX J J J ?_;refine cb (L':=yK a e d b c (aD.new c) l []::M) ?_ (by rw[Al];exact mr [bz a c ((aD.new c).after c l 0),ao e 32 [ay a],ao d 24 [b],aK b 29 l] M);refine ca [] call153 (SC 154 [ay e,ay d] (yK a e d b c (aD.new c) l) l.length U M call154 (λxs M hx=>QU a e d b c (aD.new c) l xs M ((((bO.after i l xs.length U U).mono (show 0+xs.length<=198 by omega)).ok U)) hx j U)) ?_;rintro u _ ⟨xs,k,m,rfl⟩;refine cb (L':=aK u 57 xs::bz a c ((aD.new c).after c l l.length)::ao e 32 [ay a]::ao d 24 [b]::aK b 29 l::M) ?_ (bl _ (by rw[Al,k];exact ky [bz a c ((aD.new c).after c l l.length),ao e 32 [ay a],ao d 24 [b],aK b 29 l] M));refine bn ?_;refine br (gC (dt 2 rfl (dt 2 rfl (dt 2 rfl (eI _))))) ?_;refine mn ?_;intros;refine rn ?_;intros;refine fr ?_;exact⟨_,rP,a,u,m,rfl,rfl⟩
def vP(a:Nat)(c:aJ)(w:aD)(ss:List aV):aa:=pv (ss.map aV.p=(w.nodes.take ss.length).map aG.site) (aA [bz a c w,aA (ss.map aV.own)])
theorem Bp(a:Nat)(c:aJ)(w:aD)(ss:List aV):vP a c w ss=pv (ss.map aV.p=(w.nodes.take ss.length).map aG.site) (aA [bz a c w,aA (ss.map aV.own)]):=rfl
theorem O5{j:Nat}(h:j<w.nodes.length):(w.nodes.take (j+1)).map aG.site=(w.nodes.take j).map aG.site++[(w.node j).site]:=by rw[da h,dA,(xz h).2];rfl
theorem Yo(b:Nat)(c:aJ)(w:aD)(ss:List aV)(M:List aa)(i:dE 198 c w)(hx:ss.length<w.nodes.length):
  Fn prog 22 #[ay b,.int .i64 (ss.length:Nat)] (vP b c w ss::M) λv L'=>∃a:aV,v=.agg (mB a.p a.u1 a.u2).toArray/\L'=vP b c w (ss++[a])::M:=by
 rw[Bp];refine Fn.PU λh=>?_;refine wV (L':=bz b c w::aA (ss.map aV.own)::M) ?_ (ky [bz b c w,aA (ss.map aV.own)] M);refine(GU (k:=198) b c w ss.length _ i (bj _) (xz hx).1).dD ?_;rintro v L' ⟨d,e,f,g,rfl,rfl⟩;refine⟨_,?_,⟨(w.node ss.length).site,d,e,f,g⟩,rfl,rfl⟩;rw[Bp];refine ar (pv.cls ?_ M) ?_
 ·rw[bo,dA,h,oV,O5 hx];rfl
 refine ar (mr [bz b c w,aA ((ss++[(⟨(w.node ss.length).site,d,e,f,g⟩:aV)]).map aV.own)] M) ?_;rw[dA];exact ar (B:=aA (ss.map aV.own++[aV.own (⟨(w.node ss.length).site,d,e,f,g⟩:aV)])::bz b c w::M) rP (ar (so _ _) (ar (B:=je d (w.node ss.length).site.held::je e (w.node ss.length).site.log::aA (ss.map aV.own)::bz b c w::M) (aV.cls ⟨(w.node ss.length).site,d,e,f,g⟩ _) rP))
theorem Yv(a n:Nat)(c:aJ)(w:aD)(e:Value)(M:List aa)(d:dE 198 c w)(q:O1 e)(l:w.nodes.length=n):
  Fn prog 87 #[.int .i64 n,ay a,e] (bz a c w::M) λv L'=>∃b ss,O1 b/\ss.map aV.p=w.sites/\v=.agg (oc e b w.aO.gg w.fl.length).toArray/\L'=cJ b ss::aA (ss.map aV.own)::bz a c w::M:=by
 have m:=d.n5;refine fo func87 ntmps87 ?_;refine rn ?_;(repeat(first|intro(g:Nat)|intro h));refine cb (L':=vP a c w []::ao g 101 (oc (.slice none 0 0) (.slice none 0 0) ki.zero 0)::M) ?_ (by rw[Bp];exact ar (pv.cls rfl _) (ar (mr [bz a c w,aA (([]:List aV).map aV.own)] _) (ar (B:=aA []::bz a c w::ao g 101 (oc (.slice none 0 0) (.slice none 0 0) ki.zero 0)::M) rP (ar (ly _) rP))));refine ca [] call155 (Rp 22 [ay a] (vP a c w) n U _ call22 (λss M hx=>Yo a c w ss M d U)) ?_;rintro b _ ⟨ss,p,j,rfl⟩;refine cb (L':=vP a c w ss::cJ b ss::ao g 101 (oc (.slice none 0 0) (.slice none 0 0) ki.zero 0)::M) ?_ rP;rw[Bp];refine pv.Uy λf=>?_;have i:ss.map aV.p=w.sites:=by rw[f];unfold aD.sites;rw[ic U]
 refine cb (L':=bz a c w::aA (ss.map aV.own)::cJ b ss::ao g 101 (oc (.slice none 0 0) (.slice none 0 0) ki.zero 0)::M) ?_ (ky [bz a c w,aA (ss.map aV.own)] _);refine rn ?_;intros;refine ca [] call15 (xC (k:=198) a c w _ d (bj _)) ?_;rintro _ _ ⟨rfl,rfl⟩;generalize w.aO.gg=o;refine rn ?_;intros;refine ca [] call30 (QJ a c w _) ?_;rintro _ _ ⟨rfl,rfl⟩;refine rn ?_;intros;refine fr ?_;exact⟨_,rP,b,ss,j,i,rfl,rfl⟩
theorem Yw(b g:Nat)(c:aJ)(w:aD)(d:List Sv)(M:List aa)(p:dE 198 c w)(hx:d.length<w.nodes.length):
  Fn prog 89 #[.int .i64 (d.length:Nat),ay g] (sD b g c w d::M) λv L'=>∃a:Sv,v=a.v/\L'=sD b g c w (d++[a])::M:=by
 refine VA λf m n=>?_;have o:f.length=d.length:=by rw[<-m,bC]
 refine fo func89 ntmps89 ?_;refine rn ?_;(repeat(first|intro(cs:List Value)|intro(l:_=List.set _ _ _)|intro h));refine ca [] call23 (Uq (k:=198) b c w d.length _ p (bj _) (xz hx).1) ?_;rintro _ _ ⟨u,cs,j,l,rfl,rfl⟩;refine rn ?_;(repeat(first|intro(cs:List Value)|intro(l:_=List.set _ _ _)|intro h));refine fr ?_;refine⟨_,?_,⟨u,j⟩,rfl,rfl⟩;have e:d++[⟨u,j⟩]=(f++[(⟨u,j,cs⟩:fp)]).map fp.sv:=by rw[dA,m];rfl
 rw[e];refine ar (JF _ (λi hi=>?_) M) ?_
 ·by_cases h:i<f.length
  ·rw[yg h];exact n i h
  ·have:i=f.length:=by rw[bo,oV]at hi;omega
   subst this;rw[yR (bj _)];simp only[yn,Bz];rw[l,o]
 ·rw[dA];refine ar (B:=aA (f.map fp.own++[fp.own ⟨u,j,cs⟩])::bz b c w::ao g 32 [ay b]::M) rP (ar (so _ _) (ar (B:=gG u cs::aA (cs.map Ct.own)::aA (f.map fp.own)::bz b c w::ao g 32 [ay b]::M) (qn _ _ _) rP))
theorem O8(c:aJ)(m:Value)(l:List cB)(n:Nat)(M:List aa)(q:c.aW)(P:O1 m)(F:∀s∈l,s.Ok)(V:l.length+15*n<=190)(w:aD)(L:w=((aD.new c).after c l l.length).mG c n)(j:dE 198 c w):
  Fn prog 33 #[.agg (ab.cells c).toArray,m,.int .i64 n] (aK m 29 l::M) λv L'=>∃(x f e:Value) (ss:List aV) (b:List fp),O1 x/\O1 f/\O1 e/\ss.map aV.p=w.sites/\b.length=w.nodes.length/\(∀(i:Nat) (hi:i<b.length),(b[i]'hi).cs.map Ct.gK=(w.node i).list.1)/\
   v=.tuple #[.agg (oc x f w.aO.gg w.fl.length).toArray,e,.int .i64 0]/\L'=cJ f ss::aA (ss.map aV.own)::aK e 67 (b.map fp.sv)::aA (b.map fp.own)::M:=by
 have W:=j.n;have c7:=j.n5;obtain⟨N,r⟩:∃N:Nat,c.n=N:=⟨c.n.toNat,by have:=q.n;omega⟩;have S:ab.cells c=[.int .i64 (N:Int),.int .i64 c.w,.int .i64 c.q,.int .i64 c.h,.int .i64 c.l,.int .i64 c.p]:=by rw[<-r];rfl
 refine fo func33 ntmps33 ?_;refine rn ?_;(repeat(first|intro(g:Nat)|intro h));rename_i o;revert g;intro p;refine ca [2] call86 (OY c m l _ q P F U) ?_;rintro _ _ ⟨a,u,t,rfl,rfl⟩;have y:=bO.after (bO.new q) l l.length (bj _) U;refine rn ?_;(repeat(first|intro(g:Nat)|intro h));revert g;intro d;refine ca [1] call24 (IE (kk:=198) a c ((aD.new c).after c l l.length) n _ (bj _) U (y.He n U)) ?_;rintro _ _ rfl;rw[<-L];have C:w.nodes.length=N:=U;refine rn ?_;intros;rw[r];refine cb (L':=sD a d c w []::ao o 23 (ab.cells c)::ao p 101 (oc (.slice none 0 0) (.slice none 0 0) ki.zero 0)::M) ?_ (ar (JF [] (λi hi=>by cases hi) _) (ar (B:=aA []::bz a c w::ao d 32 [ay a]::ao o 23 (ab.cells c)::ao p 101 (oc (.slice none 0 0) (.slice none 0 0) ki.zero 0)::M) rP (ar (ly _) rP)));refine ca [] call88 (XY 89 [ay d] (sD a d c w) N U _ call89 (λk M hx=>Yw a d c w k M j U)) ?_;rintro e _ ⟨k,I,R,rfl⟩;refine cb (L':=sD a d c w k::aK e 67 k::ao o 23 (ab.cells c)::ao p 101 (oc (.slice none 0 0) (.slice none 0 0) ki.zero 0)::M) ?_ rP;refine OI λb A z=>?_;subst A;rw[bC]at I;refine rn ?_;intros;rw[r];refine ca [] call87 (Yv a N c w u _ j t C) ?_;rintro _ _ ⟨f,ss,Q,H,rfl,rfl⟩;refine rn ?_;intros;refine fr ?_;exact⟨_,rP,u,f,e,ss,b,t,Q,R,H,U,z,rfl,rfl⟩
end
end
section
set_option maxRecDepth 100000 in
theorem Tx:((((aD.new ⟨2,2,2,4,2,2⟩).after ⟨2,2,2,4,2,2⟩ [⟨0,0,⟨1,[99,121],0,[]⟩,0,0,0,0⟩] 1).mG ⟨2,2,2,4,2,2⟩ 2).nodes.length)=2:=by decide+kernel
set_option maxRecDepth 100000 in
theorem SP:((((aD.new ⟨2,2,2,4,2,2⟩).after ⟨2,2,2,4,2,2⟩ [⟨0,0,⟨1,[99,121],0,[]⟩,0,0,0,0⟩] 1).mG ⟨2,2,2,4,2,2⟩ 2).node 1).site.aT=⟨1,0,0,0,0⟩:=by decide+kernel
set_option maxRecDepth 100000 in
theorem VU:((((aD.new ⟨2,2,2,4,2,2⟩).after ⟨2,2,2,4,2,2⟩ [⟨0,0,⟨1,[99,121],0,[]⟩,0,0,0,0⟩] 1).mG ⟨2,2,2,4,2,2⟩ 2).node 1).list.1.map eW.key=[[99,121]]:=by decide+kernel
def cS:aJ:=⟨2,2,2,4,2,2⟩
def sS:cB:=⟨0,0,⟨1,[99,121],0,[]⟩,0,0,0,0⟩
def wS:aD:=((aD.new cS).after cS [sS] [sS].length).mG cS 2
theorem Kj:cS.aW:=by refine⟨?_,?_,?_,?_,?_,?_⟩<;>decide
theorem bO.ox{c:aJ}:∀(n k:Nat) (w:aD),bO k c w->k+15*n<=198->bO (k+15*n) c (w.ox c n)
 |0,k,w,g,h=>g
 |n+1,k,w,g,h=>by
  have d:=g.n;have b:=g.aO.cm.n;have a:bO (k+15) c (w.round c):=(g.gI (3*w.nodes.length) (bj _) U).mono U;show bO _ c (if _ then _ else _);split
  ·exact a.mono U
  ·exact(bO.ox n (k+15) _ a U).mono U
theorem bO.mG{c:aJ}{k:Nat}{w:aD}(g:bO k c w)(n:Nat)(h:k+15*n<=198):bO (k+15*n) c (w.mG c n):=bO.ox n k _ g.re h
theorem W9:dE 198 cS wS:=
 (((bO.after (bO.new Kj) [sS] 1 (by decide) (by decide)).mG 2 (by decide)).mono (by decide)).ok (by decide)
theorem Ug:wS=((aD.new cS).after cS [sS] [sS].length).mG cS 2:=rfl
theorem Ef:wS.nodes.length=2:=Tx
theorem XK:(wS.node 1).site.aT=⟨1,0,0,0,0⟩:=SP
theorem W1:(wS.node 1).list.1.map eW.key=[[99,121]]:=VU
theorem fp.GJ(l:fp)(L:List aa):Sub (gG l.v l.cs::aA (l.cs.map Ct.own)::L) (l.own::L):=vR _ _ _
theorem Vi:∀s∈[sS],s.Ok:=by intro s a;simp at a;subst a;exact⟨by unfold cD;decide,by decide,by decide,by decide⟩
theorem Dr{l:List α}(h:l.length=2):∃a b,l=[a,b]:=by
 match l,h with
 |[a,b],_=>exact⟨a,b,rfl⟩
set_option maxRecDepth 20000 attribute [local irreducible] Ex aM Fn bI bJ bV fin meet ch aX bZ aP aN aI Rd aK Row ao Sub bk bP bS bN bg bR Hid bY
section
attribute [local irreducible] aA bD bL cx cQ bz aV.own fp.own wS
theorem Jv(M:List aa):Fn prog 10 #[] M λv L'=>v=.bool true/\L'=M:=by
 refine fo func10 ntmps10 ?_;refine rn ?_;(repeat(first|intro(g:Nat)|intro h));refine ca [] call32 (VT ⟨0,0,0,0,0,0⟩ (.slice none 0 0) rfl _ (by decide)) ?_;rintro _ _ ⟨rfl,rfl⟩;refine rn ?_;(repeat(first|intro(g:Nat)|intro h));rename_i M;refine pn (a:=sS) J J J J (λg=>?_);refine rn ?_;(repeat(first|intro(g:Nat)|intro h));rename_i F;revert g;intro r;refine ca [] call33 (O8 cS (.slice (some ⟨r,0,none⟩) 1 1) [sS] 2 _ Kj rfl Vi (by decide) wS Ug W9) ?_;rintro _ _ ⟨C,i,l,ss,L,z,A,R,f,q,t,rfl,rfl⟩;rw[Ef]at q;have w:ss.length=2:=by have:=cn List.length f;unfold aD.sites at this;rw[bC,bC,Ef]at this;exact this
 obtain⟨k,e,rfl⟩:=Dr w;obtain⟨d,c,rfl⟩:=Dr q;have s:e.p.aT=⟨1,0,0,0,0⟩:=by obtain⟨P,Q,u⟩:=Dr Ef;have m:=XK;unfold aD.sites at f;unfold aD.node at m;rw[u]at f m;simp only[kq,EF,jH]at f;rw[f.2.1];exact m
 have n:=t 1 (by simp);have n:c.cs.map Ct.gK=(wS.node 1).list.1:=n;have j:=W1;rw[<-n,nE]at j;obtain⟨c1,p⟩:∃c1,c.cs=[c1]:=by have:=cn List.length j;rw[bC]at this;exact List.length_eq_one_iff.1 this
 rw[p]at j;have I:c1.key=[99,121]:=by simpa[Ct.gK]using j
 generalize wS.aO.gg=x;generalize (wS.fl.length:Int)=y;refine cb (L':=cJ i [k,e]::aK l 67 [d.sv,c.sv]::gG c.v [c1]::M) ?_ ?_
 ·have H:(oc C i x y).all Value.oneCell'=true:=by unfold oc;simp only[ta,vo,List.all_nil,z,A,ab.one,qW,pK];rfl
  refine rn ?_;intros;refine cH J J J (zx (a:=e.p.aT) (b:=(⟨1,0,0,0,0⟩:aj)) J J s) ?_;exact fX
 ·refine ar (B:=aA [d.own,c.own]::cJ i [k,e]::aK l 67 [d.sv,c.sv]::M) ?_ rP;refine ar ?_ (ky [d.own,c.own] _);refine ar (B:=c.own::cJ i [k,e]::aK l 67 [d.sv,c.sv]::M) ?_ rP;have o:=fp.GJ c (cJ i [k,e]::aK l 67 [d.sv,c.sv]::M);rw[p]at o;exact ar rP o
end
end
section
instance:pV prog 53 ki:=⟨6,.b::List.replicate 35 (.i .i64),by kernel_rfl,by kernel_rfl,by kernel_rfl,by kernel_rfl,λ_=>rfl,λa b h=>by
 obtain⟨a0,⟨⟨a1,a2,a3,a4,a5⟩,⟨b1,b2,b3,b4,b5⟩,⟨c1,c2,c3,c4,c5⟩,⟨d1,d2,d3,d4,d5⟩,⟨e1,e2,e3,e4,e5⟩,⟨f1,f2,f3,f4,f5⟩,⟨g1,g2,g3,g4,g5⟩⟩⟩:=a;obtain⟨c,⟨⟨d,e,f,g,j⟩,⟨k,l,m,n,o⟩,⟨p,q,r,s,t⟩,⟨u,v,w,x,y⟩,⟨z,A,C,F,H⟩,⟨I,L,M,P,Q⟩,⟨R,S,V,W,c7⟩⟩⟩:=b;simp only[ab.cells,pY,lG,dB,jH,uh,Value.bool.injEq,qy,nV]at h;simp only[ki.mk.injEq,Hs.mk.injEq,aj.mk.injEq];simp only[BH]at h⊢
 exact h⟩
end
section
open Go.ChangeShapes Go.WideShapes Go.ChangeAt Go.RowKit
set_option maxRecDepth 20000
theorem IA{enc:TypeId×Value->H}{w:World}(a:P.underlying t=some .string)(h:lS enc P w t cs):∃l:List UInt8,cs=[.string (S l)]/\l.length<=140737488351232:=by obtain⟨l,e,h⟩:=UD a h;exact⟨l,e,by unfold reachBytes at h;omega⟩
theorem XD{enc:TypeId×Value->H}{w:World}(a:P.underlying t=some (.int .u32))(h:lS enc P w t cs):∃n:Int,cs=[.int .u32 n]/\0<=n/\n<=4294967295:=by obtain⟨n,e,h⟩:=NL a h;have:=bounds_u32 h;exact⟨n,e,U,U⟩
theorem PE{enc:TypeId×Value->H}{w:World}(h:lS enc prog w 26 cs):∃e:Ed,cs=e.cells/\e.key.length<=140737488351232/\e.value.length<=140737488351232:=by
 obtain⟨g,a⟩:=Ej underlying26 h;have g:cs.length=4:=g;obtain⟨k,b,o⟩:=ns rQ (a 0 _ rfl);obtain⟨i,c,m⟩:=IA rQ (a 1 _ rfl);obtain⟨j,d,p⟩:=ns rQ (a 2 _ rfl);obtain⟨l,f,n⟩:=IA rQ (a 3 _ rfl)
 match cs,g with
 |[x0,x1,x2,x3],_=>have b:[x0]=[Value.int .i64 k]:=b;have c:[x1]=[Value.string (S i)]:=c;have d:[x2]=[Value.int .i64 j]:=d;have f:[x3]=[Value.string (S l)]:=f;cases b;cases c;cases d;cases f;exact⟨⟨k,i,j,l⟩,rfl,m,n⟩
structure cB.In(s:cB):Prop where
 bit:cD s.bit
 mask:0<=s.mask/\s.mask<4294967296
 key:s.ed.key.length<=140737488351232
 value:s.ed.value.length<=140737488351232
 r:cD s.r
 at_:cD s.at_
 keep:cD s.keep
theorem Er{enc:TypeId×Value->H}{w:World}(h:lS enc prog w 29 cs):∃s:cB,cs=ab.cells s/\s.In:=by
 obtain⟨n,c⟩:=Ej underlying29 h;have n:cs.length=10:=n;obtain⟨k,e,A⟩:=ns rQ (c 0 _ rfl);obtain⟨r,f,q⟩:=ns rQ (c 1 _ rfl);obtain⟨o,d,t,u⟩:=PE (c 2 _ rfl);obtain⟨a,g,v⟩:=ns rQ (c 3 _ rfl);obtain⟨b,i,x⟩:=ns rQ (c 4 _ rfl);obtain⟨m,j,y,C⟩:=XD rQ (c 5 _ rfl);obtain⟨p,l,z⟩:=ns rQ (c 6 _ rfl)
 match cs,n with
 |[x0,x1,x2,x3,x4,x5,x6,x7,x8,x9],_=>have e:[x0]=[Value.int .i64 k]:=e;have f:[x1]=[Value.int .i64 r]:=f;have d:[x2,x3,x4,x5]=o.cells:=d;have g:[x6]=[Value.int .i64 a]:=g;have i:[x7]=[Value.int .i64 b]:=i;have j:[x8]=[Value.int .u32 m]:=j;have l:[x9]=[Value.int .i64 p]:=l;unfold Ed.cells at d;cases e;cases f;cases d;cases g;cases i;cases j;cases l;exact⟨⟨k,r,o,a,b,m,p⟩,rfl,⟨x,⟨y,by show m<4294967296;omega⟩,t,u,q,v,z⟩⟩
theorem IS{enc:TypeId×Value->H}{w:World}(h:lS enc prog w 24 cs):
  ∃v,∃l:List cB,cs=[v]/\O1 v/\Sl w v 10 l.length (cellsOf l)/\(∀e∈l,e.In)/\l.length<=140737488351232:=by
 obtain⟨v,xs,b,c,d,f,a⟩:=QH (α:=cB) cB.In underlying24 rQ (λi h=>Er h) h;refine⟨v,xs,b,c,d,f,?_⟩;have g:prog.bytesOf 29=96:=by kernel_rfl
 rw[g]at a;simp[reachBytes]at a;omega
theorem NG{enc:TypeId×Value->H}{w:World}(h:lS enc prog w 23 cs):∃c:aJ,cs=ab.cells c/\True:=by
 obtain⟨o,g⟩:=Ej underlying23 h;have o:cs.length=6:=o;obtain⟨a,i,p⟩:=ns rQ (g 0 _ rfl);obtain⟨b,j,q⟩:=ns rQ (g 1 _ rfl);obtain⟨c,k,r⟩:=ns rQ (g 2 _ rfl);obtain⟨d,l,s⟩:=ns rQ (g 3 _ rfl);obtain⟨e,m,t⟩:=ns rQ (g 4 _ rfl);obtain⟨f,n,u⟩:=ns rQ (g 5 _ rfl)
 match cs,o with
 |[x1,x2,x3,x4,x5,x6],_=>have i:[x1]=[Value.int .i64 a]:=i;have j:[x2]=[Value.int .i64 b]:=j;have k:[x3]=[Value.int .i64 c]:=k;have l:[x4]=[Value.int .i64 d]:=l;have m:[x5]=[Value.int .i64 e]:=m;have n:[x6]=[Value.int .i64 f]:=n;cases i;cases j;cases k;cases l;cases m;cases n;exact⟨⟨a,b,c,d,e,f⟩,rfl,trivial⟩
end
end Go.Proofs.YtogcfijlhpaeeaaGreat
