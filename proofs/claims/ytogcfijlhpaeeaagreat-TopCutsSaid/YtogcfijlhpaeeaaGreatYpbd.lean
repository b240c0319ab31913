/- Texts. No condition. -/
import Derived.Test.YtogcfijlhpaeeaaGreatYpbc
open Go.RowKit Go.Proofs.Tryz
set_option linter.all false
set_option maxHeartbeats 32000000
namespace Go.Proofs.YtogcfijlhpaeeaaGreat
variable{k n:Nat}{r:Int}{c:aJ}{L M:List aa}{v vl:Value}{f:Nat->Value}{P:Program}{st:aG}{A:List Ev}{R:Value->List aa->Prop}{up:Bool}{ad:aj}{op:Oper}
section
structure RX where
 vl:Value
 gi:Nat
 vh:Value
 keep:Int
 cl:aj
 held:List Ev
structure RX.Ok(x:RX)(st:aG):Prop where
 l:x.vl.oneCell'=true
 h:x.vh.oneCell'=true
 k:st.bE=true->x.keep=st.keep
 u:st.up=true->x.cl=st.aT/\x.held=st.held
@[reducible] def nf(gn:Nat)(c:aJ)(r:Int)(st:aG)(x:RX)(M:List aa):List aa:=
 fj gn c r st.up x.vl (replay st.aE).2 (ay x.gi) st.bE x.keep::aL x.vl (replay st.aE).1::jg x.gi c.h x.cl x.vh::aL x.vh x.held::M
def bA(gn:Nat)(c:aJ)(r:Int)(st:aG):aa:=λh=>∃x:RX,x.Ok st/\aA (nf gn c r st x []) h
theorem bA.fn{k:FuncId}{args:Array Value}{gn:Nat}
  (b:∀x:RX,x.Ok st->Fn P k args (nf gn c r st x M) R):Fn P k args (bA gn c r st::M) R:=λF w0 w rr ⟨h,⟨x,e,a⟩,d,s⟩=>
 b x e F w0 w rr (ky _ _ w F ⟨h,a,d,s⟩)
theorem bA.cls{gn:Nat}(x:RX)(b:x.Ok st)(M:List aa):Sub (bA gn c r st::M) (nf gn c r st x M):=
 ar (jE (λ_ a=>⟨x,b,a⟩) (bW M)) (mr (nf gn c r st x []) M)
theorem bA.nl{gn gi:Nat}{keep:Int}{a:Bool}(f:st.up=up)(b:st.bE=a)(g:O1 vl)(e:a=true->keep=st.keep)(d:up=true->ad=st.aT/\[]=st.held)(M:List aa):
  Sub (bA gn c r st::M) (fj gn c r up vl (replay st.aE).2 (ay gi) a keep::aL vl (replay st.aE).1::jg gi c.h ad (.slice none 0 0)::M):=by
 subst f;subst b;exact ar (bA.cls ⟨vl,gi,.slice none 0 0,keep,ad,[]⟩ ⟨g,rfl,e,d⟩ M) (bl _ (bl _ (bl _ (cA (α:=Ev) none 80 M))))
theorem bA.dn{gn gi:Nat}{keep:Int}(b:st.up=false)(a:st.bE=false)(d:O1 vl)(M:List aa):
  Sub (bA gn c r st::M) (fj gn c r false vl (replay st.aE).2 (ay gi) false keep::aL vl (replay st.aE).1::jg gi c.h aj.zero (.slice none 0 0)::M):=
 bA.nl b a d (λh=>by cases h) (λh=>by cases h) M
def kA(gn:Nat)(c:aJ)(r:Int)(vl:Value)(sent:Int):aa:=λh=>∃b p a keep,fj gn c r b vl sent p a keep h
theorem kA.val{gn:Nat}{sent:Int}
  (h:∀b p e keep,aP P op f (fj gn c r b vl sent p e keep::M) v):aP P op f (kA gn c r vl sent::M) v:=λF w ⟨x,⟨b,p,d,i,a⟩,g,s⟩=>h b p d i F w ⟨x,a,g,s⟩
theorem kA.pa{gn:Nat}{sent:Int}{p:Value}{b:Bool}{keep:Int}(h:Sub L M):
  bk (kA gn c r vl sent::L) (fj gn c r up vl sent p b keep::M):=gC (jE (λx a=>⟨up,p,b,keep,a⟩) h)
theorem Ci(keep:Int)(h:0<n):n<=jT keep n↔(n:Int)<=keep:=by unfold jT;omega
theorem yd{x:aF}(hx:x.aW)(b:st.bE=true):(st.write x).2=18/\(st.write x).1.up=false/\(st.write x).1.bE=false/\(st.write x).1.aE=if(x.bytes.length:Int)<=st.keep then st.aE++[x]else st.aE:=by
 have a:=(x.lR hx).1;rw[aG.uu b];by_cases h:(x.bytes.length:Int)<=st.keep
 ·rw[an h,an ((Ci st.keep a).2 h)];exact⟨rfl,rfl,rfl,rfl⟩
 ·rw[ai h,ai (λk=>h ((Ci st.keep a).1 k))];exact⟨rfl,rfl,rfl,rfl⟩
set_option maxRecDepth 20000 attribute [local irreducible] Ex aM Fn bI bJ bV fin meet ch aX bZ aP aN aI Rd aK Row ao Sub bk bP bS bN bg bR Hid bY
section
attribute [local irreducible] aA kA
theorem De(x:aF)(v0:Value)(M:List aa)(e:aI M v0 x.l)(b:O1 v0)(a:x.cM):Fn prog 118 #[.agg (bH x v0).toArray] M λr L'=>∃v,O1 v/\r=.tuple #[v,.int .i64 0]/\L'=bB v x.bu::M:=by refine fo func118 ntmps118 ?_;refine rn ?_;intros;refine bc [] J call182 J J (xi x v0 _ rD b a) ?_;rintro _ _ ⟨d,c,rfl,rfl⟩;refine rn ?_;intros;refine fr ?_;exact⟨_,rB,d,c,rfl,rfl⟩
theorem Zb(gn:Nat)(c:aJ)(r:Int)(st:aG)(n:Int)(M:List aa):Fn prog 116 #[ay gn,.int .i64 n] (bA gn c r st::M) λv L'=>L'=bA gn c r (st.cut n)::M:=by refine bA.fn λx a=>?_;refine(XB gn c r st.up x.vl (replay st.aE).2 (ay x.gi) st.bE x.keep n _).dD ?_;rintro v L' rfl;exact⟨_,bA.cls (st:=st.cut n) ⟨x.vl,x.gi,x.vh,n,x.cl,x.held⟩ ⟨a.l,a.h,λ_=>rfl,a.u⟩ M,rfl⟩
theorem Ll(gn:Nat)(c:aJ)(r:Int)(st:aG)(M:List aa):Fn prog 68 #[ay gn] (bA gn c r st::M) λv L'=>L'=bA gn c r st.db::M:=by refine bA.fn λx a=>?_;refine(MO gn c r st.up x.vl (replay st.aE).2 (ay x.gi) st.bE x.keep _).dD ?_;rintro v L' ⟨gi,rfl⟩;exact⟨_,ar (bA.dn (st:=st.db) (gi:=gi) (keep:=x.keep) rfl rfl a.l M) (ar rP (bW _)),rfl⟩
theorem cy.q(g:cy k c r st)(h:k<=80):(replay st.aE).1.length<=4000/\(∀e∈(replay st.aE).1,e.aW)/\(0<=(replay st.aE).2/\(replay st.aE).2<=1048576)/\(st.up=true->(replay st.aE).1=st.log/\(replay st.aE).2=st.sent/\cr (replay st.aE).1=st.aT):=by have d:=g.dK.lN;have f:=g.dK.ia;have b:=(g.ok U).ia;refine⟨U,g.dK.iZ,b,λa=>?_⟩;have:=g.aT a;rw[(g.up a).2];exact⟨rfl,rfl,this.symm⟩
theorem Lj(gn:Nat)(c:aJ)(r:Int)(st:aG)(M:List aa)(g:cy k c r st)(d:k<=80):Fn prog 69 #[ay gn] (bA gn c r st::M) λv L'=>v=.int .i64 (st.start c r).2/\L'=bA gn c r (st.start c r).1::M:=by
 obtain⟨i,f,_,_⟩:=g.q d;refine bA.fn λx b=>?_;cases hu:st.up
 ·have e:st.start c r=({st with up:=true,tail:=[],bE:=false,log:=(replay st.aE).1,sent:=(replay st.aE).2,aT:=cr (replay st.aE).1,held:=[],wait:=ie c.q r (replay st.aE).2 (replay st.aE).1},0):=by unfold aG.start;rw[ai (by rw[hu];simp)]
  rw[e];refine fo func69 ntmps69 ?_;unfold nf;rw[hu];refine rn ?_;(repeat(first|intro(g:Nat)|intro h));refine ji ?_;(repeat(first|intro(g:Nat)|intro h));refine bX J J J ?_;refine bc [] J call76 rE J (yh gn c r true x.vl (replay st.aE).2 (ay x.gi) false x.keep (replay st.aE).1 _ rD U f) ?_;rintro _ _ ⟨rfl,rfl⟩;refine bn ?_;refine br rF ?_;refine mn ?_;(repeat(first|intro(g:Nat)|intro h));refine rn ?_;(repeat(first|intro(g:Nat)|intro h));refine fr ?_;exact⟨_,ar (bA.nl (st:={st with up:=true,tail:=[],bE:=false,log:=(replay st.aE).1,sent:=(replay st.aE).2,aT:=cr (replay st.aE).1,held:=[],wait:=ie c.q r (replay st.aE).2 (replay st.aE).1}) (gi:=g) (keep:=x.keep) rfl rfl b.l (λh=>by cases h) (λ_=>⟨rfl,rfl⟩) M) rP,rfl,rfl⟩
 ·have e:st.start c r=(st,19):=by unfold aG.start;rw[an hu]
  rw[e];have a:=bA.cls (gn:=gn) (c:=c) (r:=r) x b M;unfold nf at a⊢
  rw[hu]at a⊢
  refine fo func69 ntmps69 ?_;refine rn ?_;intros;refine fr ?_;exact⟨_,a,rfl,rfl⟩
theorem Uf(gn:Nat)(c:aJ)(r:Int)(st:aG)(M:List aa)(g:cy k c r st)(q:jW r st)(l:k<=80):Fn prog 50 #[ay gn] (bA gn c r st::M)
  λv L'=>∃u,O1 u/\v=.tuple #[u,.int .i64 (st.push c r).2]/\L'=bB u (eU (st.push c r))::bA gn c r st::M:=by
 obtain⟨m,C,_,o⟩:=g.q l;refine bA.fn λx s=>?_;have a:=bA.cls (gn:=gn) (c:=c) (r:=r) x s M;unfold nf at a⊢
 cases hu:st.up
 ·have e:st.push c r=(aF.zero,18):=by unfold aG.push;rw[an hu]
  rw[e];rw[hu]at a;refine fo func50 ntmps50 ?_;refine rn ?_;(repeat(first|intro(g:Nat)|intro h));refine fr ?_;exact⟨_,ar (gX _) (ar a rB),.slice none 0 0,rfl,rfl,rfl⟩
 ·obtain⟨i,j,y⟩:=o hu;have f:iB r (replay st.aE).2 (replay st.aE).1=st.wait:=by rw[i,j];exact(q hu).symm
  have F:st.wait.length<=4000:=by rw[<-f];exact za (jJ ..) m
  rw[hu]at a;refine fo func50 ntmps50 ?_;refine rn ?_;(repeat(first|intro(g:Nat)|intro h));refine bc [] J call75 rE J (HZ gn c r true x.vl (replay st.aE).2 (ay x.gi) st.bE x.keep (replay st.aE).1 _ rD U) ?_;rintro w _ ⟨p,rfl⟩;rw[f];by_cases b:st.wait=[]
  ·have e:st.push c r=(aF.zero,24):=by unfold aG.push;rw[ai (by rw[hu];simp),an b]
   rw[e,b];refine rn ?_;(repeat(first|intro(g:Nat)|intro h));refine fr ?_;exact⟨_,ar (gX _) (ar a rB),.slice none 0 0,rfl,rfl,rfl⟩
  ·have e:st.push c r=(bw 1 r (st.wait.take (min (max c.w 0) st.wait.length).toNat),0):=by unfold aG.push;rw[ai (by rw[hu];simp),ai b]
   have d:(bw 1 r (st.wait.take (min (max c.w 0) st.wait.length).toNat)).cM:=by have:=wG (g.ok U) (show(st.push c r).2=0 by rw[e]);rwa[e]at this
   have A:0<st.wait.length:=wI.2 b;have z:=g.cm.w;have n:(min (max c.w 0) (st.wait.length:Int)).toNat=(min (st.wait.length:Int) c.w).toNat:=U;rw[n]at e d;rw[e];have H:(bg w 0 (min (st.wait.length:Int) c.w).toNat 12).oneCell'=true:=jB p;refine rn ?_;intros;refine uN ?_;intros;refine bX J J J ?_;refine bc [] J call118 rE J (De (bw 1 r (st.wait.take (min (st.wait.length:Int) c.w).toNat)) _ _ rD rN d) ?_;rintro _ _ ⟨u,t,rfl,rfl⟩;refine mw ?_;intros;refine rn ?_;intros;refine fr ?_;exact⟨_,ar (bl _ a) rP,u,t,rfl,rfl⟩
theorem Zh(gn:Nat)(c:aJ)(r:Int)(st:aG)(M:List aa)(g:cy k c r st)(f:k<=80):Fn prog 51 #[ay gn] (bA gn c r st::M)
  λv L'=>∃u,O1 u/\v=.tuple #[u,.int .i64 (st.tell r 3).2]/\L'=bB u (eU (st.tell r 3))::bA gn c r st::M:=by
 obtain⟨p,i,_,j⟩:=g.q f;refine bA.fn λx l=>?_;have a:=bA.cls (gn:=gn) (c:=c) (r:=r) x l M;unfold nf at a⊢
 cases hu:st.up
 ·have e:st.tell r 3=(aF.zero,18):=by unfold aG.tell;rw[an hu]
  rw[e];rw[hu]at a;refine fo func51 ntmps51 ?_;refine rn ?_;(repeat(first|intro(g:Nat)|intro h));refine fr ?_;exact⟨_,ar (gX _) (ar a rB),.slice none 0 0,rfl,rfl,rfl⟩
 ·obtain⟨n,o,b⟩:=j hu;have e:st.tell r 3=(⟨3,r,0,st.aT,[]⟩,0):=by unfold aG.tell;rw[ai (by rw[hu];simp)]
  have d:(⟨3,r,0,st.aT,[]⟩:aF).cM:=ze (.inl rfl) g.r5 ((g.ok U).cP U hu);rw[e];rw[hu]at a;refine fo func51 ntmps51 ?_;refine rn ?_;intros;refine ji ?_;intros;refine bX J J J ?_;refine bc [] J call76 rE J (yh gn c r true x.vl (replay st.aE).2 (ay x.gi) st.bE x.keep (replay st.aE).1 _ rD U i) ?_;rintro _ _ ⟨rfl,rfl⟩;rw[b];refine mw ?_;intros;refine bX J J J ?_;refine bc [] J call118 rE J (De ⟨3,r,0,st.aT,[]⟩ _ _ rD rN d) ?_;rintro _ _ ⟨u,m,rfl,rfl⟩;refine mw ?_;intros;refine rn ?_;intros;refine fr ?_;exact⟨_,ar (bl _ a) rP,u,m,rfl,rfl⟩
theorem Rz(gn:Nat)(c:aJ)(r:Int)(st:aG)(M:List aa)(g:cy k c r st)(f:k<=80):Fn prog 52 #[ay gn] (bA gn c r st::M)
  λv L'=>∃u,O1 u/\v=.tuple #[u,.int .i64 (st.tell r 5).2]/\L'=bB u (eU (st.tell r 5))::bA gn c r st::M:=by
 obtain⟨p,i,_,j⟩:=g.q f;refine bA.fn λx l=>?_;have a:=bA.cls (gn:=gn) (c:=c) (r:=r) x l M;unfold nf at a⊢
 cases hu:st.up
 ·have e:st.tell r 5=(aF.zero,18):=by unfold aG.tell;rw[an hu]
  rw[e];rw[hu]at a;refine fo func52 ntmps52 ?_;refine rn ?_;(repeat(first|intro(g:Nat)|intro h));refine fr ?_;exact⟨_,ar (gX _) (ar a rB),.slice none 0 0,rfl,rfl,rfl⟩
 ·obtain⟨n,o,b⟩:=j hu;have e:st.tell r 5=(⟨5,r,0,st.aT,[]⟩,0):=by unfold aG.tell;rw[ai (by rw[hu];simp)]
  have d:(⟨5,r,0,st.aT,[]⟩:aF).cM:=ze (.inr rfl) g.r5 ((g.ok U).cP U hu);rw[e];rw[hu]at a;refine fo func52 ntmps52 ?_;refine rn ?_;intros;refine ji ?_;intros;refine bX J J J ?_;refine bc [] J call76 rE J (yh gn c r true x.vl (replay st.aE).2 (ay x.gi) st.bE x.keep (replay st.aE).1 _ rD U i) ?_;rintro _ _ ⟨rfl,rfl⟩;rw[b];refine mw ?_;intros;refine bX J J J ?_;refine bc [] J call118 rE J (De ⟨5,r,0,st.aT,[]⟩ _ _ rD rN d) ?_;rintro _ _ ⟨u,m,rfl,rfl⟩;refine mw ?_;intros;refine rn ?_;intros;refine fr ?_;exact⟨_,ar (bl _ a) rP,u,m,rfl,rfl⟩
end
end
section
theorem BG(a:st.bE=false)(x:aF):(st.write x).2=0/\(st.write x).1={st with aE:=st.aE++[x]}:=by rw[aG.sO a];exact⟨rfl,rfl⟩
theorem bA.put{gn:Nat}(x:RX)(f:x.Ok st){a:Bool}{sent:Int}(e:st.up=up)(b:st.bE=a)(d:replay st.aE=(A,sent))(M:List aa):
  Sub (bA gn c r st::M) (fj gn c r up x.vl sent (ay x.gi) a x.keep::aL x.vl A::jg x.gi c.h x.cl x.vh::aL x.vh x.held::M):=by
 have:=bA.cls (gn:=gn) (c:=c) (r:=r) x f M;unfold nf at this;rwa[e,b,d]at this
theorem bA.sW{gn gi:Nat}{keep:Int}{sent:Int}(d:st.up=false)(a:st.bE=false)(b:replay st.aE=(A,sent))(e:O1 vl)(M:List aa):
  Sub (bA gn c r st::M) (fj gn c r false vl sent (ay gi) false keep::aL vl A::jg gi c.h aj.zero (.slice none 0 0)::M):=by
 have:=bA.dn (gn:=gn) (gi:=gi) (c:=c) (r:=r) (keep:=keep) d a e M;rwa[b]at this
theorem Xp(h:st.up=false)(f:aF×Int):st.dw c r f=(st,18):=by unfold aG.dw;rw[an h]
set_option maxRecDepth 20000 attribute [local irreducible] Ex aM Fn bI bJ bV fin meet ch aX bZ aP aN aI Rd aK Row ao Sub bk bP bS bN bg bR Hid bY
section
attribute [local irreducible] aA kA
theorem Yp(gn:Nat)(c:aJ)(r:Int)(st:aG)(M:List aa)(g:cy k c r st)(w:k<=80):Fn prog 53 #[ay gn] (bA gn c r st::M) λv L'=>v=.int .i64 (st.state r).2/\L'=bA gn c r (st.state r).1::M:=by
 obtain⟨L,y,A,C⟩:=g.q w;refine bA.fn λx b=>?_;have f:=bA.cls (gn:=gn) (c:=c) (r:=r) x b M;unfold nf at f⊢
 cases hu:st.up
 ·have e:st.state r=(st,18):=by unfold aG.state;rw[an hu]
  rw[e];rw[hu]at f;refine fo func53 ntmps53 ?_;refine rn ?_;(repeat(first|intro(g:Nat)|intro h));refine fr ?_;exact⟨_,ar f rB,rfl,rfl⟩
 ·obtain⟨o,u,I⟩:=C hu;have j:(⟨4,r,(replay st.aE).2,aj.zero,(replay st.aE).1⟩:aF).aW:=AI (.inr rfl) g.r5 A U y;obtain⟨a,i⟩:∃a:aF,a=⟨4,r,(replay st.aE).2,aj.zero,(replay st.aE).1⟩:=⟨_,rfl⟩;have e:st.state r=if(st.write a).2≠0 then((st.write a).1,18)else((st.write a).1,0):=by unfold aG.state;rw[ai (by rw[hu];simp),ai (by rw[<-o];omega),i,o,u]
  have q:replay (st.aE++[a])=((replay st.aE).1,(replay st.aE).2):=by rw[iR,i];rfl
  rw[e];rw[hu]at f;have s:=b.l;refine fo func53 ntmps53 ?_;refine rn ?_;intros;refine bU 19 [kA gn c r x.vl (replay st.aE).2] rfl rQ (kA.pa (eI _)) ?_;refine mn ?_;intros;refine fZ J J J (kA.val λt p n keep=>rV) ?_;refine mn ?_;intros;refine fZ J J J (kA.val λt p n keep=>rV) ?_;refine mn ?_;intros;refine fZ J J J (kA.val λt p n keep=>rV) ?_;refine mn ?_;intros;refine bX J J J ?_;refine bc [] J call79 rE J (zK gn c r true x.vl (replay st.aE).2 (ay x.gi) st.bE x.keep ⟨4,r,(replay st.aE).2,aj.zero,(replay st.aE).1⟩ x.vl _ rD s j) ?_;rw[<-i]at j⊢
  rintro _ _ (⟨d,rfl,rfl⟩|⟨d,gi,rfl,rfl⟩)
  ·obtain⟨l,m⟩:=BG d a;rw[l,ai (by simp),m];refine bn ?_;refine br (kA.pa (eI _)) ?_;refine mn ?_;intros;refine rn ?_;intros;refine fr ?_;exact⟨_,ar (bA.put (st:={st with aE:=st.aE++[a]}) x ⟨b.l,b.h,b.k,b.u⟩ hu d q M) rB,rfl,rfl⟩
  ·obtain⟨l,m,F,H⟩:=yd j d;rw[l,an (by simp)];refine bn ?_;refine br (kA.pa (eI _)) ?_;refine mn ?_;intros;refine rn ?_;intros;refine fr ?_;have z:replay (st.write a).1.aE=((replay st.aE).1,(replay st.aE).2):=by
    rw[H];split
    ·exact q
    ·rfl
   exact⟨_,ar (bA.sW (gi:=gi) (keep:=x.keep) m F z s M) rP,rfl,rfl⟩
theorem RU(gn:Nat)(c:aJ)(r:Int)(st:aG)(u:Int)(M:List aa)(g:cy k c r st)(d:k<=80)(a:st.up=true):Fn prog 209 #[ay gn,.int .i64 u] (bA gn c r st::M) λv L'=>v=.int .i64 (st.iD r u).2/\L'=bA gn c r (st.iD r u).1::M:=by
 obtain⟨L,y,P,R⟩:=g.q d;obtain⟨o,p,q⟩:=R a;obtain⟨W,c7,_⟩:=g.wait a;have H:=g.r5;have S:=(g.ok U).cP U a r.toNat U;refine bA.fn λx b=>?_;unfold nf;rw[a,o,p];rw[o]at L y q;rw[p]at P;obtain⟨s,A⟩:∃s,s=max st.sent (min u (st.aT.get r.toNat)):=⟨_,rfl⟩;have t:(⟨3,r,s,aj.zero,[]⟩:aF).aW:=AI (.inl ⟨rfl,rfl⟩) H U (by simp) (by simp);have e:st.iD r u=if s=st.sent then(st,0)else if(st.write ⟨3,r,s,aj.zero,[]⟩).2≠0 then((st.write ⟨3,r,s,aj.zero,[]⟩).1,18)else
   ({(st.write ⟨3,r,s,aj.zero,[]⟩).1 with sent:=fC st.sent st.wait s,wait:=st.wait.drop (fC st.sent st.wait s-st.sent).toNat},0):=by
  unfold aG.iD;simp only;rw[<-A]
 have h:replay st.aE=(st.log,st.sent):=(g.up a).2;have m:replay (st.aE++[⟨3,r,s,aj.zero,[]⟩])=(st.log,s):=by rw[iR,h];rfl
 have V:(⟨3,r,s,aj.zero,[]⟩:aF).l=[]:=rfl;rw[e];have C:=b.l;have I:=st.aT.getD_eq r.toNat;refine fo func209 ntmps209 ?_;refine rn ?_;intros;refine bc [] J call76 rE J (yh gn c r true x.vl st.sent (ay x.gi) st.bE x.keep st.log _ rD U y) ?_;rintro _ _ ⟨rfl,rfl⟩;rw[q];refine rn ?_;intros;refine tR ?_;intros;rw[I,<-A];by_cases z:s=st.sent
 ·rw[an z];refine rn ?_;intros;refine fr ?_;exact⟨_,ar (bA.put x b a rfl h M) rP,rfl,rfl⟩
 rw[ai z];refine rn ?_;intros;refine ca [1] call79 (zK gn c r true x.vl st.sent (ay x.gi) st.bE x.keep ⟨3,r,s,aj.zero,[]⟩ (.slice none 0 0) _ (mC _) rfl t) ?_;rintro _ _ (⟨f,rfl,rfl⟩|⟨f,gi,rfl,rfl⟩)
 ·obtain⟨n,i⟩:=BG f ⟨3,r,s,aj.zero,[]⟩;have Q:fC st.sent st.wait s=s:=by unfold fC;omega
  rw[n,ai (by simp),i,Q];refine rn ?_;intros;refine fr ?_;exact⟨_,ar (bA.put (st:={st with aE:=st.aE++[⟨3,r,s,aj.zero,[]⟩],sent:=s,wait:=st.wait.drop (s-st.sent).toNat}) x ⟨b.l,b.h,b.k,b.u⟩ a f m M) rP,rfl,rfl⟩
 ·obtain⟨n,i,F,j⟩:=yd t f;rw[n,an (by simp)];have w:=b.k f;by_cases d:((⟨3,r,s,aj.zero,[]⟩:aF).bytes.length:Int)<=x.keep
  ·rw[bf d];rw[an (by rw[<-w];exact d)]at j;rw[<-j]at m;refine rn ?_;intros;refine fr ?_;exact⟨_,ar (bA.sW (gi:=gi) (keep:=x.keep) i F m C M) rP,rfl,rfl⟩
  ·rw[bd d];rw[ai (by rw[<-w];exact d)]at j;rw[<-j]at h;refine rn ?_;intros;refine fr ?_;exact⟨_,ar (bA.sW (gi:=gi) (keep:=x.keep) i F h C M) rP,rfl,rfl⟩
theorem OC(gn:Nat)(c:aJ)(r:Int)(st:aG)(v0:Value)(b:List UInt8)(f:aF×Int)(M:List aa)(hr:aI M v0 b)(o0:O1 v0)(hf:cV b=f)(h0:f.2=0\/f.2=4)(g:cy k c r st)(s:k<=80):
  Fn prog 142 #[ay gn,v0] (bA gn c r st::M) λv L'=>v=.int .i64 (st.dw c r f).2/\L'=bA gn c r (st.dw c r f).1::M:=by
 obtain⟨hl,hm,hs,w6⟩:=g.q s;refine bA.fn λx m=>?_;have d:=bA.cls (gn:=gn) (c:=c) (r:=r) x m M;unfold nf at d⊢
 cases hu:st.up
 ·have e:st.dw c r f=(st,18):=Xp hu f;rw[e];rw[hu]at d;refine fo func142 ntmps142 ?_;refine rn ?_;(repeat(first|intro(g:Nat)|intro(v:Value)|intro(o:O1 _)|intro h));refine fr ?_;exact⟨_,ar d rB,rfl,rfl⟩
 obtain⟨h1,h2,h3⟩:=w6 hu;obtain⟨j1,P⟩:=m.u hu;have y:replay st.aE=(st.log,st.sent):=(g.up hu).2;have d:=bA.put (gn:=gn) (c:=c) (r:=r) x m hu rfl y M;rw[y];rw[h1]at hl hm;have ol:=m.l;have oh:=m.h;have h5:=g.r5;refine fo func142 ntmps142 ?_;refine rn ?_;(repeat(first|intro(g:Nat)|intro(v:Value)|intro(o:O1 _)|intro h));refine bc [] J call202 J J (Je v0 b f _ rD o0 hf h0) ?_;rintro _ _ ⟨n,o',rfl,rfl⟩;have j5:=(E5 hf h0).2;obtain⟨a,er⟩:=f;by_cases j4:er=0
 case neg=>
  have e:st.dw c r (a,er)=(st,er):=by unfold aG.dw;rw[ai (by rw[hu];simp),an j4]
  rw[e];refine rn ?_;(repeat(first|intro(g:Nat)|intro(v:Value)|intro(o:O1 _)|intro h));refine fr ?_;exact⟨_,ar d rP,rfl,rfl⟩
 subst j4;have d9:a.cM:=by
  rcases j5 with⟨_,h⟩|⟨h,_,_⟩
  ·cases h
  ·exact h
 clear j5 hf h0;have e:st.dw c r (a,0)=if a.r≠r then(st,23)else if(a.l.any λe=>decide (e.r=r\/c.n<=e.r))=true then(st,23)else if a.kind=2 then st.iD r a.upto else if a.kind=4 then st.jt c r a.l else(st,23):=by unfold aG.dw;rw[ai (by rw[hu];simp),ai (by simp)]
 rw[e];clear e;have B7:=d9.m;by_cases e8:a.r=r
 case neg=>
  rw[an e8];refine rn ?_;(repeat(first|intro(g:Nat)|intro(v:Value)|intro(o:O1 _)|intro h));refine pj ?_;(repeat(first|intro(g:Nat)|intro(v:Value)|intro(o:O1 _)|intro h));refine rn ?_;(repeat(first|intro(g:Nat)|intro(v:Value)|intro(o:O1 _)|intro h));refine fr ?_;exact⟨_,ar d rP,rfl,rfl⟩
 rw[ai (by simpa using e8)];by_cases j6:a.kind=2\/a.kind=4
 case neg=>
  have e:(if(a.l.any λe=>decide (e.r=r\/c.n<=e.r))=true then(st,(23:Int))else if a.kind=2 then st.iD r a.upto else if a.kind=4 then st.jt c r a.l else(st,23))=(st,23):=by
   split
   ·rfl
   ·rw[ai U,ai U]
  rw[e];have Q:¬a.kind=2:=U;have k4:¬a.kind=4:=U;refine rn ?_;(repeat(first|intro(g:Nat)|intro(v:Value)|intro(o:O1 _)|intro h));refine pj ?_;(repeat(first|intro(g:Nat)|intro(v:Value)|intro(o:O1 _)|intro h));refine rn ?_;(repeat(first|intro(g:Nat)|intro(v:Value)|intro(o:O1 _)|intro h));refine fr ?_;exact⟨_,ar d rP,rfl,rfl⟩
 refine aM.vH 2 [0,5] (λvs L'=>∃t,vs=[ay gn,ay t]/\L'=aL n a.l::fj gn c r true x.vl st.sent (ay x.gi) st.bE x.keep::aL x.vl st.log::jg x.gi c.h x.cl x.vh::aL x.vh x.held::ao t 192 (bH a n)::M) ?_ ?_
 rotate_left
 ·intro HC;rcases j6 with k|k
  all_goals
   refine rn ?_;(repeat(first|intro(g:Nat)|intro(v:Value)|intro(o:O1 _)|intro h));refine pj ?_;(repeat(first|intro(g:Nat)|intro(v:Value)|intro(o:O1 _)|intro h));refine rn ?_;(repeat(first|intro(g:Nat)|intro(v:Value)|intro(o:O1 _)|intro h));exact HC _ _ ⟨_,rP,g,av rfl (av rfl rfl),rfl⟩
 rintro vs gk L' ⟨t,rfl,rfl⟩;refine rn ?_;(repeat(first|intro(g:Nat)|intro(v:Value)|intro(o:O1 _)|intro h));refine bm [7] (λq vs L'=>∃i:Nat,i<=a.l.length/\q=a.l.length-i/\(∀j (l:j<a.l.length),j<i->¬((a.l[j]'l).r=r\/c.n<=(a.l[j]'l).r))/\vs=[.int .i64 i]/\L'=aL n a.l::fj gn c r true x.vl st.sent (ay x.gi) st.bE x.keep::aL x.vl st.log::jg x.gi c.h x.cl x.vh::aL x.vh x.held::ao t 192 (bH a n)::M) a.l.length ⟨0,U,rfl,λj _ h=>by omega,rfl,rfl⟩ ?_;rintro q vs g0 L1 ⟨i,hi,rfl,F,rfl,rfl⟩;refine bp [0,5,7] rG (λgk=>?_);by_cases w:i<a.l.length
 ·by_cases u:(a.l[i]'w).r=r\/c.n<=(a.l[i]'w).r
  ·have z:(a.l.any λe=>decide (e.r=r\/c.n<=e.r))=true:=eR.2 ⟨_,bT w,by simpa using u⟩;rw[an z];clear F z;by_cases e9:(a.l[i]'w).r=r
   ·refine rn ?_;(repeat(first|intro(g:Nat)|intro(v:Value)|intro(o:O1 _)|intro h));refine Dg ?_;(repeat(first|intro(g:Nat)|intro(v:Value)|intro(o:O1 _)|intro h));refine rn ?_;(repeat(first|intro(g:Nat)|intro(v:Value)|intro(o:O1 _)|intro h));refine fr ?_;exact⟨_,ar d rP,rfl,rfl⟩
   ·have u5:=u.resolve_left e9;refine rn ?_;(repeat(first|intro(g:Nat)|intro(v:Value)|intro(o:O1 _)|intro h));refine Dg ?_;(repeat(first|intro(g:Nat)|intro(v:Value)|intro(o:O1 _)|intro h));refine rn ?_;(repeat(first|intro(g:Nat)|intro(v:Value)|intro(o:O1 _)|intro h));refine fr ?_;exact⟨_,ar d rP,rfl,rfl⟩
  ·have w5:∀j (l:j<a.l.length),j<i+1->¬((a.l[j]'l).r=r\/c.n<=(a.l[j]'l).r):=λj l B6=>by
    by_cases h:j=i
    ·subst h;exact u
    ·exact F j l U
   have e9:¬(a.l[i]'w).r=r:=λh=>u (.inl h);have u5:¬c.n<=(a.l[i]'w).r:=λh=>u (.inr h);clear F u;refine rn ?_;(repeat(first|intro(g:Nat)|intro(v:Value)|intro(o:O1 _)|intro h));refine Dg ?_;(repeat(first|intro(g:Nat)|intro(v:Value)|intro(o:O1 _)|intro h));refine rn ?_;(repeat(first|intro(g:Nat)|intro(v:Value)|intro(o:O1 _)|intro h));exact aS ⟨a.l.length-(i+1),_,U,rB,i+1,U,rfl,w5,av (aQ U) rfl,rfl⟩
 obtain rfl:i=a.l.length:=U;have z:¬(a.l.any λe=>decide (e.r=r\/c.n<=e.r))=true:=λh=>by obtain⟨e,p,h2⟩:=eR.1 h;obtain⟨j,l,rfl⟩:=zV.1 p;exact F j l l (by simpa using h2)
 rw[ai z];clear F z;by_cases Q:a.kind=2
 ·rw[an Q];refine rn ?_;(repeat(first|intro(g:Nat)|intro(v:Value)|intro(o:O1 _)|intro h));refine cb (L':=bA gn c r st::M) ?_ (ar d rP);refine ca [] call209 (RU gn c r st a.upto _ g s hu) ?_;rintro _ _ ⟨rfl,rfl⟩;refine rn ?_;(repeat(first|intro(g:Nat)|intro(v:Value)|intro(o:O1 _)|intro h));refine fr ?_;exact⟨_,rB,rfl,rfl⟩
 have k4:a.kind=4:=j6.resolve_left Q;rw[ai Q,an k4];obtain⟨A9,u6⟩:=g.held hu;have z8:=g.cm.h;have j8:∀e∈st.held++a.l,e.aW:=λe p=>(ct.1 p).elim (λh=>(u6 e h).1) (d9.l e);obtain⟨m1,m2,S,_,_⟩:=yD st.aT (st.held++a.l);have hI:∀e∈x.held++a.l,cD e.n:=by rw[P];exactλe p=>(j8 e p).I.1
 have j0:=(g.ok U).cI U hu;rw[<-j1]at j0;have j3:drain x.cl (cK x.cl (x.held++a.l))=fJ st.aT (st.held++a.l):=by rw[<-Bt,j1,P]
 rw[bo]at S;unfold aG.jt;obtain⟨⟨D,R,C⟩,hD⟩:∃q,fJ st.aT (st.held++a.l)=q:=⟨_,rfl⟩;rw[hD]at m1 m2 S j3⊢
 simp only at m1 m2 S⊢
 have B0:x.held.length<=20:=by rw[P];omega
 rw[<-P]at S;refine rn ?_;(repeat(first|intro(v:Value)|intro(o:O1 _)|intro h));refine bF (L':=jg x.gi c.h x.cl x.vh::aL x.vh x.held::fj gn c r true x.vl st.sent (ay x.gi) st.bE x.keep::ao t 192 (bH a n)::aL n a.l::aL x.vl st.log::M) ?_ rP;refine bU 11 [fj gn c r true x.vl st.sent (ay x.gi) st.bE x.keep,ao t 192 (bH a n)] rfl rQ (gC (dt 2 rfl (dt 2 rfl (eI _)))) ?_;refine mn ?_;(repeat(first|intro(v:Value)|intro(o:O1 _)|intro h));refine bX J J J ?_;refine bc [] J call210 rE J (T7 x.gi c.h x.cl x.vh n x.held a.l _ rD oh o' U U hI j0) ?_;unfold CB;rw[j3];rintro _ _ (⟨L,rfl,rfl⟩|⟨L,v1,v2,o1,o2,rfl,rfl⟩)
 ·rw[an L];refine bn ?_;refine br (gC (dt 2 rfl (dt 2 rfl (eI _)))) ?_;refine mn ?_;(repeat(first|intro(v:Value)|intro(o:O1 _)|intro h));refine rn ?_;(repeat(first|intro(v:Value)|intro(o:O1 _)|intro h));refine fr ?_;exact⟨_,ar d rP,rfl,rfl⟩
 rw[ai L];simp only at L;refine bn ?_;refine br (gC (dt 3 rfl (dt 3 rfl (eI _)))) ?_;refine mn ?_;(repeat(first|intro(v:Value)|intro(o:O1 _)|intro h));by_cases H:D=[]
 ·rw[an H];have r9:D.length=0:=by rw[H];rfl
  refine rn ?_;(repeat(first|intro(v:Value)|intro(o:O1 _)|intro h));refine fr ?_;exact⟨_,ar (bA.put (st:={st with aT:=C,held:=R}) ⟨x.vl,x.gi,v2,x.keep,C,R⟩ ⟨ol,o2,m.k,λ_=>⟨rfl,rfl⟩⟩ hu rfl y M) rP,rfl,rfl⟩
 rw[ai H];have r9:¬D.length=0:=λh=>H (dZ h);have s9:∀e∈D,e.aW:=λe p=>j8 e (m1 e p);have j9:(bw 2 r D).aW:=pb (.inr (.inl rfl)) h5 U s9;have d6:replay (st.aE++[bw 2 r D])=(st.log++D,st.sent):=by rw[iR,y];rfl
 refine rn ?_;(repeat(first|intro(v:Value)|intro(o:O1 _)|intro h));refine bc [3] J call79 rE J (zK gn c r true x.vl st.sent (ay x.gi) st.bE x.keep (bw 2 r D) v1 _ rD o1 j9) ?_;rintro _ _ (⟨A,rfl,rfl⟩|⟨A,gi,rfl,rfl⟩)
 ·obtain⟨w1,V⟩:=BG A (bw 2 r D);rw[w1,ai (by simp),V];refine rn ?_;(repeat(first|intro(v:Value)|intro(o:O1 _)|intro h));refine fr ?_;exact⟨_,ar (bA.put (st:={st with aE:=st.aE++[bw 2 r D],aT:=C,held:=R,log:=st.log++D}) ⟨v,x.gi,v2,x.keep,C,R⟩ ⟨o,o2,m.k,λ_=>⟨rfl,rfl⟩⟩ hu A d6 M) rP,rfl,rfl⟩
 ·obtain⟨w1,V,w3,W⟩:=yd j9 A;rw[w1,an (by simp)];have j7:=m.k A;by_cases s:((bw 2 r D).bytes.length:Int)<=x.keep
  ·rw[bf s];rw[an (by rw[<-j7];exact s)]at W;rw[<-W]at d6;refine rn ?_;(repeat(first|intro(o:O1 _)|intro h));refine fr ?_;exact⟨_,ar (bA.sW (gi:=gi) (keep:=x.keep) V w3 d6 o M) rP,rfl,rfl⟩
  ·rw[bd s];rw[ai (by rw[<-j7];exact s)]at W;rw[<-W]at y;refine rn ?_;intros;refine fr ?_;exact⟨_,ar (bA.sW (gi:=gi) (keep:=x.keep) V w3 y ol M) rP,rfl,rfl⟩
end
end
end Go.Proofs.YtogcfijlhpaeeaaGreat
