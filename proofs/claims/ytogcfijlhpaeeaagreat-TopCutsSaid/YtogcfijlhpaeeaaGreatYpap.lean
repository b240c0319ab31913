/- Texts. No condition. -/
import Derived.Test.YtogcfijlhpaeeaaGreatYpao
import Derived.Test.YtogcfijlhpaeeaaGreatYpan
open Go.RowKit Go.Proofs.Tryz
set_option linter.all false
set_option maxHeartbeats 32000000
namespace Go.Proofs.YtogcfijlhpaeeaaGreat
variable{k g:Nat}{r:Int}{t e:TypeId}{c:aJ}{x:Operand}{M L1:List aa}{v:Value}{R:Value->List aa->Prop}{ts:Array TypeId}{gs:List Ptr}{ae:String}{dd:Option Nat}{bs:List Bv}
section
abbrev Fk:=Int×List UInt8
def cx(g:Nat)(fl:List Fk):aa:=λh=>∃(v0:Value) (fs:List Fl) (bs:List Bv),v0.oneCell'=true/\fs.map Fl.key=fl/\(∀f∈fs,f.b∈bs)/\aA [mP g v0,dH v0 fs,cE bs] h
variable{fl:List Fk}
theorem cx.fn{P:Program}{k:FuncId}{args:Array Value}
  (h:∀v0 fs bs,O1 v0->fs.map Fl.key=fl->(∀f∈fs,f.b∈bs)->Fn P k args (mP g v0::dH v0 fs::cE bs::M) R):Fn P k args (cx g fl::M) R:=λF w0 w rr ⟨x,⟨v0,fs,bs,o,e,m,a⟩,d,s⟩=>
 h v0 fs bs o e m F w0 w rr (ky [mP g v0,dH v0 fs,cE bs] M w F ⟨x,a,d,s⟩)
theorem cx.cls{v0:Value}{fs:List Fl}(o:O1 v0)(e:fs.map Fl.key=fl)(m:∀f∈fs,f.b∈bs)(M:List aa):Sub (cx g fl::M) (mP g v0::dH v0 fs::cE bs::M):=
 ar (jE (λ_ a=>⟨v0,fs,bs,o,e,m,a⟩) (bW M)) (mr [mP g v0,dH v0 fs,cE bs] M)
def nO(fl:List Fk)(i:Int):Int×List UInt8×Int:=if 0<=i/\i<fl.length then((fl.getD i.toNat (0,[])).1,(fl.getD i.toNat (0,[])).2,0)else(0,[],24)
def dQ{α:Type}(fl:List α)(i:Int):List α:=if 0<=i/\i<fl.length then fl.take i.toNat++fl.drop (i.toNat+1)else fl
theorem BA(fs:List Fl)(i:Int):lF fs i=nO (fs.map Fl.key) i:=by
 unfold nO;by_cases h:0<=i/\i<fs.length
 ·rw[xx h,an (by rw[bC];exact h)];have hi:i.toNat<fs.length:=U;have e:(fs.map Fl.key).getD i.toNat (0,[])=(fs[i.toNat]'hi).key:=by simp[cu,hi]
  rw[e]
 ·rw[yj h,ai (by rw[bC];exact h)]
theorem IQ(fs:List Fl)(i:Int):(lf fs i).map Fl.key=dQ (fs.map Fl.key) i:=by
 unfold lf dQ;rw[bC];split
 ·rw[dA,AE,GN]
 ·rfl
theorem Jq{fs:List Fl}{B:Nat}(e:fs.map Fl.key=fl)(h:∀x∈fl,x.2.length<=B):∀f∈fs,f.b.l.length<=B:=λf a=>h f.key (by rw[<-e];exact rj a)
attribute [local irreducible] aA cE
theorem Xk(M:List aa):Fn prog 56 #[] M λv L'=>∃gl,v=ay gl/\L'=cx gl []::M:=by refine(RO M).dD ?_;rintro v L' ⟨gl,rfl,rfl⟩;exact⟨_,ar (cx.cls (fs:=[]) (bs:=[]) (v0:=.slice none 0 0) rfl rfl (by simp) M) (bl _ (bl _ (cE.nil M))),gl,rfl,rfl⟩
theorem X7(gl:Nat)(fl:List Fk)(M:List aa):Fn prog 85 #[ay gl] (cx gl fl::M) λv L'=>v=.int .i64 fl.length/\L'=cx gl fl::M:=by refine cx.fn λv0 fs bs o e m=>?_;refine(V5 gl v0 fs (cE bs::M)).dD ?_;rintro v L' ⟨rfl,rfl⟩;exact⟨_,cx.cls o e m M,by rw[<-e,bC],rfl⟩
theorem Lk(gl:Nat)(c:Int)(x:Value)(xs:List UInt8)(fl:List Fk)(M:List aa)(hx:aI M x xs)(d:fl.length<=1000000000)(h:xs.length<=140737488355328):
  Fn prog 107 #[ay gl,.int .i64 c,x] (cx gl fl::M) λv L'=>L'=cx gl (fl++[(c,xs)])::M:=by
 refine cx.fn λv0 fs bs o e m=>?_;refine(T1 gl c v0 x fs xs bs M hx (by rw[<-bC (f:=Fl.key),e];exact d) h o).dD ?_;rintro v L' ⟨i,b,o',g,rfl⟩;refine⟨_,cx.cls o' (by rw[dA,e,<-g];rfl) (λf a=>?_) M,rfl⟩;rcases ct.1 a with a|a
 ·exact eu _ (m f a)
 ·rw[mJ.1 a];exact fP ..
theorem TT(gl:Nat)(i:Int)(fl:List Fk)(M:List aa)(a:∀x∈fl,x.2.length<=140737488355328):
  Fn prog 94 #[ay gl,.int .i64 i] (cx gl fl::M)
  λr L'=>∃u:Value,O1 u/\r=.tuple #[.agg [.int .i64 (nO fl i).1,u].toArray,.int .i64 (nO fl i).2.2]/\L'=By u (nO fl i).2.1::cx gl fl::M:=by
 refine cx.fn λv0 fs bs o e m=>?_;refine(Ks gl i v0 fs bs M m (Jq e a)).dD ?_;rw[BA,e];rintro v L' ⟨u,b,rfl,rfl⟩;exact⟨_,bl _ (cx.cls o e m M),u,b,rfl,rfl⟩
theorem ZS(gl:Nat)(i:Int)(fl:List Fk)(M:List aa)(c:∀x∈fl,x.2.length<=140737488355328)(a:fl.length<=1000000000):
  Fn prog 93 #[ay gl,.int .i64 i] (cx gl fl::M)
  λr L'=>∃u:Value,O1 u/\r=.tuple #[.agg [.int .i64 (nO fl i).1,u].toArray,.int .i64 (nO fl i).2.2]/\L'=By u (nO fl i).2.1::cx gl (dQ fl i)::M:=by
 refine cx.fn λv0 fs bs o e m=>?_;refine(Ss gl i v0 fs bs M m (Jq e c) (by rw[<-bC (f:=Fl.key),e];exact a) o).dD ?_;rw[BA,e];rintro v L' ⟨u,h,d,g,rfl,rfl⟩;exact⟨_,bl _ (cx.cls g (by rw[IQ,e]) (λf b=>m f (Kf b)) M),u,d,rfl,rfl⟩
end
section
structure cB where
 kind:Int
 r:Int
 ed:Ed
 at_:Int
 bit:Int
 mask:Int
 keep:Int
deriving DecidableEq
instance:ab cB:=⟨10,λs=>[.int .i64 s.kind,.int .i64 s.r,.int .i64 s.ed.kind,.string (S s.ed.key),.int .i64 s.ed.label,.string (S s.ed.value),.int .i64 s.at_,.int .i64 s.bit,.int .u32 s.mask,.int .i64 s.keep],by decide,λ_=>rfl,λ_=>rfl⟩
instance:hQ prog 29 cB:=⟨⟨0,0,⟨0,[],0,[]⟩,0,0,0,0⟩,by kernel_rfl,by kernel_rfl⟩
end
section
structure aD where
 nodes:List aG
 aO:aY
 fl:List (Int×aF)
def aD.has(w:aD)(r:Int):Prop:=0<=r/\r<w.nodes.length
instance(w:aD)(r:Int):Decidable (w.has r):=by unfold aD.has;infer_instance
def aD.node(w:aD)(r:Int):aG:=w.nodes.getD r.toNat aG.fresh
def aD.aZ(w:aD)(r:Int)(s:aG):aD:={w with nodes:=w.nodes.set r.toNat s}
def aD.send(w:aD)(p:aF×Int):aD×Int:=(if p.2=0 then{w with fl:=w.fl++[(5,p.1)]}else w,p.2)
def aD.eJ(w:aD)(c:aJ)(a:Int)(f:aF×Int):aD×Int:=
 if w.has a then(w.aZ a ((w.node a).dw c a f).1,((w.node a).dw c a f).2)else
 (if(w.aO.take c f).2.2.2=0/\w.has (w.aO.take c f).2.1 then{w with aO:=(w.aO.take c f).1,fl:=w.fl++[((w.aO.take c f).2.1,(w.aO.take c f).2.2.1)]}else{w with aO:=(w.aO.take c f).1},(w.aO.take c f).2.2.2)
def kE(x:aF)(a mask:Int):aF×Int:=if ib x.bu (a%(8*x.bu.length)).toNat mask.toNat=x.bu then(x,0)else(aF.zero,4)
def aD.eC(w:aD)(c:aJ)(s:cB):aD×Int:=
 if 0<=s.at_/\s.at_<w.fl.length then
  let x:=w.fl.getD s.at_.toNat (0,aF.zero);let a:aD:=if s.kind=5 then w else{w with fl:=dQ w.fl s.at_}
  if s.kind=6 then(a,0)else a.eJ c x.1 (if s.kind=7 then kE x.2 s.bit s.mask else(x.2,0))
 else(w,24)
def aD.dj(w:aD)(c:aJ)(s:cB):aD×Int:=
 if w.has s.r then
  (if s.kind=8 then(w.aZ s.r (w.node s.r).db,0)else if s.kind=9 then(w.aZ s.r ((w.node s.r).start c s.r).1,((w.node s.r).start c s.r).2)else(w.aZ s.r ((w.node s.r).cut s.keep),0))
 else if s.r=5 then
  (if s.kind=8 then({w with aO:=w.aO.db},0)else if s.kind=9 then({w with aO:=(w.aO.start c).1},(w.aO.start c).2)else({w with aO:=w.aO.cut s.keep},0))
 else(w,1)
def aD.step(w:aD)(c:aJ)(s:cB):aD×Int:=
 if 4<=s.kind/\s.kind<=7 then w.eC c s else
 if 8<=s.kind/\s.kind<=10 then w.dj c s else
 if¬w.has s.r then(w,1)else
 if s.kind=0 then(w.aZ s.r ((w.node s.r).edit c s.r s.ed).1,((w.node s.r).edit c s.r s.ed).2)else
 if s.kind=1 then w.send ((w.node s.r).push c s.r)else
 if s.kind=2 then w.send ((w.node s.r).tell s.r 3)else
 if s.kind=3 then w.send ((w.node s.r).tell s.r 5)else
 if s.kind=11 then(w.aZ s.r ((w.node s.r).state s.r).1,((w.node s.r).state s.r).2)else(w,1)
def aD.once(w:aD)(c:aJ)(p:aF×Int):aD:=
 if p.2≠0 then w else
 let q:=w.aO.take c (p.1,0);let a:aD:={w with aO:=q.1}
 if q.2.2.2=0/\a.has q.2.1 then a.aZ q.2.1 ((a.node q.2.1).dw c q.2.1 (q.2.2.1,0)).1 else a
def aD.lE(w:aD)(c:aJ)(r:Int)(k:Nat):aF×Int:=if k=0 then(w.node r).push c r else if k=1 then(w.node r).tell r 3 else(w.node r).tell r 5
def aD.gI(w:aD)(c:aJ):Nat->aD
 |0=>w
 |k+1=>(w.gI c k).once c ((w.gI c k).lE c (k/3:Nat) (k%3))
def aD.round(w:aD)(c:aJ):aD:=w.gI c (3*w.nodes.length)
structure dM where
 aT:aj
 sent:Int
 held:Int
 log:Int
deriving DecidableEq
def aG.eo(s:aG):dM:=⟨s.site.aT,s.site.sent,s.site.held.length,s.site.log.length⟩
def aD.new(c:aJ):aD:=⟨(List.range c.n.toNat).map λ(i:Nat)=>(aG.fresh.start c i).1,((aY.fresh c).start c).1,[]⟩
structure dE(k:Nat)(c:aJ)(w:aD):Prop where
 n:(w.nodes.length:Int)=c.n
 nd:∀i (h:i<w.nodes.length),eO k c i (w.nodes[i]'h)
 aO:kY k c w.aO
 fl:w.fl.length<=2*k/\∀x∈w.fl,x.2.cM
def aD.keys(w:aD):List Fk:=w.fl.map λx=>(x.1,x.2.bu)
end
section
instance:Inhabited Ptr:=⟨⟨0⟩⟩
@[reducible] def eZ(v:Value)(gs:List Ptr):aa:=aK v 116 gs
def cQ(c:aJ)(gs:List Ptr)(a:List aG):List aa:=(List.range a.length).map λ(i:Nat)=>bD (gs.getD i ⟨0⟩).g c i (a.getD i aG.fresh)
theorem XC(c:aJ)(gs:List Ptr)(a:List aG)(r:Int)(h:0<=r/\r<a.length):(cQ c gs a)[r.toNat]?=some (bD (gs.getD r.toNat ⟨0⟩).g c r (a.getD r.toNat aG.fresh)):=by unfold cQ;have b:r.toNat<a.length:=U;rw[kz,xX b];have e:((r.toNat:Nat):Int)=r:=U;simp only[oF];rw[e]
theorem Ti(c:aJ)(gs:List Ptr)(a:List aG)(r:Int)(s:aG)(h:0<=r/\r<a.length):cQ c gs (a.set r.toNat s)=(cQ c gs a).set r.toNat (bD (gs.getD r.toNat ⟨0⟩).g c r s):=by
 have f:r.toNat<a.length:=U;have e:((r.toNat:Nat):Int)=r:=U;unfold cQ;rw[iw];refine sV (by simp) λi d j=>?_;have hi:i<a.length:=by simpa using d
 rw[gT,zD,BE];by_cases b:r.toNat=i
 ·subst b;rw[an rfl];have:(a.set r.toNat s).getD r.toNat aG.fresh=s:=by simp[cu,f]
  rw[this,e]
 ·rw[ai b,gT,zD];have:(a.set r.toNat s).getD i aG.fresh=a.getD i aG.fresh:=by simp only[cu,Ac b]
  rw[this]
variable{w:aD}
theorem ZP(h:w.has r)(L:List aa):Sub (bD (gs.getD r.toNat ⟨0⟩).g c r (w.node r)::aA ((cQ c gs w.nodes).eraseIdx r.toNat)::L) (aA (cQ c gs w.nodes)::L):=
 qA L (XC c gs w.nodes r h)
theorem Ab(h:w.has r)(s:aG)(L:List aa):Sub (aA (cQ c gs (w.aZ r s).nodes)::L) (bD (gs.getD r.toNat ⟨0⟩).g c r s::aA ((cQ c gs w.nodes).eraseIdx r.toNat)::L):=by
 have a:r.toNat<(cQ c gs w.nodes).length:=by have:=h.1;have:=h.2;unfold cQ;rw[bC,zd];omega
 have:=aA.qt (As:=cQ c gs w.nodes) (i:=r.toNat) (bD (gs.getD r.toNat ⟨0⟩).g c r s) L a;rw[<-Ti c gs w.nodes r s h]at this;exact this
theorem Gl(h:w.has r)(L:List aa):Sub (aA (cQ c gs w.nodes)::L) (bD (gs.getD r.toNat ⟨0⟩).g c r (w.node r)::aA ((cQ c gs w.nodes).eraseIdx r.toNat)::L):=by have:=Ab (c:=c) (gs:=gs) h (w.node r) L;have e:(w.aZ r (w.node r)).nodes=w.nodes:=tL _ _ _;rwa[e]at this
@[reducible] def eG(a gh gl:Nat)(vs:Value):aa:=ao a 114 [vs,ay gh,ay gl]
@[reducible] def dh(a gh gl:Nat)(vs:Value)(gs:List Ptr)(c:aJ)(w:aD)(M:List aa):List aa:=eG a gh gl vs::eZ vs gs::aA (cQ c gs w.nodes)::bL gh c w.aO::cx gl w.keys::M
def bz(a:Nat)(c:aJ)(w:aD):aa:=λh=>∃(gh gl:Nat) (vs:Value) (gs:List Ptr),vs.oneCell'=true/\gs.length=w.nodes.length/\aA (dh a gh gl vs gs c w []) h
theorem bz.fn{P:Program}{k:FuncId}{args:Array Value}
  (h:∀gh gl vs gs,O1 vs->gs.length=w.nodes.length->Fn P k args (dh g gh gl vs gs c w M) R):Fn P k args (bz g c w::M) R:=λF w0 ww rr ⟨x,⟨gh,gl,vs,gs,o,e,a⟩,d,s⟩=>
 h gh gl vs gs o e F w0 ww rr (ky _ _ ww F ⟨x,a,d,s⟩)
theorem bz.cls{gh gl:Nat}{vs:Value}(o:O1 vs)(e:gs.length=w.nodes.length)(M:List aa):Sub (bz k c w::M) (dh k gh gl vs gs c w M):=
 ar (jE (λ_ a=>⟨gh,gl,vs,gs,o,e,a⟩) (bW M)) (mr (dh k gh gl vs gs c w []) M)
theorem aD.GY(w:aD)(r:Int)(s:aG):(w.aZ r s).nodes.length=w.nodes.length:=iw ..
theorem dE.node{k:Nat}{c:aJ}{w:aD}(b:dE k c w){r:Int}(h:w.has r):eO k c r (w.node r):=by
 have d:=h.1;have f:=h.2;have a:r.toNat<w.nodes.length:=U;have:=b.nd r.toNat a;have e:w.node r=w.nodes[r.toNat]'a:=by unfold aD.node;simp[cu,a]
 rw[e];rwa[show((r.toNat:Nat):Int)=r by omega]at this
theorem pq(h:r.toNat<gs.length):gs.getD r.toNat ⟨0⟩=gs[r.toNat]'h:=by simp[cu,h]
set_option maxRecDepth 20000 attribute [local irreducible] Ex aM Fn bI bJ bV fin meet ch aX bZ aP aN aI Rd aK Row ao Sub bk bP bS bN bg bR Hid bY
section
attribute [local irreducible] aA bD bL cx cQ
theorem sK(a gh gl:Nat)(vs:Value)(gs:List Ptr)(c:aJ)(w:aD)(r:Int)(M:List aa)(f:gs.length=w.nodes.length)(g:w.nodes.length<=5):Fn prog 39 #[ay a,.int .i64 r] (eG a gh gl vs::eZ vs gs::M)
  λv L'=>v=.bool (decide (w.has r))/\L'=eG a gh gl vs::eZ vs gs::M:=by
 have e:decide (w.has r)=decide (0<=r/\r<gs.length):=by unfold aD.has;rw[f]
 rw[e];refine fo func39 ntmps39 ?_;by_cases b:0<=r
 ·by_cases d:r<gs.length
  ·rw[bf (⟨b,d⟩:0<=r/\r<gs.length)];exact fX
  ·rw[bd (λh:0<=r/\r<gs.length=>d h.2)];exact fX
 ·rw[bd (λh:0<=r/\r<gs.length=>b h.1)];exact fX
end
end
section
variable{w:aD}
theorem dE.n5(a:dE k c w):w.nodes.length<=5/\1<=w.nodes.length:=by have b:=a.n;have d:=a.aO.cm.n;omega
@[reducible] def qD(c:aJ)(gs:List Ptr)(w:aD)(r:Int):aa:=aA ((cQ c gs w.nodes).eraseIdx r.toNat)
@[reducible] def jk(a gh gl:Nat)(vs:Value)(gs:List Ptr)(c:aJ)(w:aD)(r:Int)(M:List aa):List aa:=eG a gh gl vs::eZ vs gs::qD c gs w r::bL gh c w.aO::cx gl w.keys::M
theorem lh{gh gl:Nat}{vs:Value}(a:w.has r)(M:List aa):Sub (bD (gs.getD r.toNat ⟨0⟩).g c r (w.node r)::jk k gh gl vs gs c w r M) (dh k gh gl vs gs c w M):=
 ar (B:=bD (gs.getD r.toNat ⟨0⟩).g c r (w.node r)::qD c gs w r::eG k gh gl vs::eZ vs gs::bL gh c w.aO::cx gl w.keys::M) rP (ar (ZP a _) rP)
theorem vX{gh gl:Nat}{vs:Value}(b:w.has r)(s:aG)(d:O1 vs)(a:gs.length=w.nodes.length)(M:List aa):Sub (bz k c (w.aZ r s)::M) (bD (gs.getD r.toNat ⟨0⟩).g c r s::jk k gh gl vs gs c w r M):=
 ar (bz.cls d (by rw[aD.GY];exact a) M) (ar (B:=aA (cQ c gs (w.aZ r s).nodes)::eG k gh gl vs::eZ vs gs::bL gh c w.aO::cx gl w.keys::M) rP (ar (Ab b s _) rP))
theorem Ar{gh gl:Nat}{vs:Value}(b:w.has r)(d:O1 vs)(a:gs.length=w.nodes.length)(M:List aa):Sub (bz k c w::M) (bD (gs.getD r.toNat ⟨0⟩).g c r (w.node r)::jk k gh gl vs gs c w r M):=
 ar (bz.cls d a M) (ar (B:=aA (cQ c gs w.nodes)::eG k gh gl vs::eZ vs gs::bL gh c w.aO::cx gl w.keys::M) rP (ar (Gl b _) rP))
set_option maxRecDepth 20000 attribute [local irreducible] Ex aM Fn bI bJ bV fin meet ch aX bZ aP aN aI Rd aK Row ao Sub bk bP bS bN bg bR Hid bY
section
attribute [local irreducible] aA bD bL cx cQ
theorem GU(a:Nat)(c:aJ)(w:aD)(r:Int)(M:List aa)(j:dE k c w)(p:k<=198)(b:w.has r):Fn prog 22 #[ay a,.int .i64 r] (bz a c w::M)
  λv L'=>∃(d e:Value),O1 d/\O1 e/\v=.agg (mB (w.node r).site d e).toArray/\L'=je d (w.node r).site.held::je e (w.node r).site.log::bz a c w::M:=by
 refine bz.fn λgh gl vs gs o i=>?_;have q:=b.1;have s:=b.2;have t:r<gs.length:=U;have l:=j.n5;refine fo func22 ntmps22 ?_;refine rn ?_;(repeat(first|intro(g:Nat)|intro h));refine ca [2,2] call39 (sK a gh gl vs gs c w r _ i l.1) ?_;rw[bf b];rintro _ _ ⟨rfl,rfl⟩;refine rn ?_;(repeat(first|intro(g:Nat)|intro h));rw[<-pq U];revert g;intro f;refine cb (L':=bD (gs.getD r.toNat ⟨0⟩).g c r (w.node r)::jk a gh gl vs gs c w r (ao f 65 (mB jG.zero (.slice none 0 0) (.slice none 0 0))::M)) ?_ (ar (lh b _) rP);refine ca [] call58 (NP (k:=k) _ c r (w.node r) _ (j.node b) U) ?_;rintro _ _ ⟨d,e,m,n,rfl,rfl⟩;refine cb (L':=ao f 65 (mB jG.zero (.slice none 0 0) (.slice none 0 0))::je d (w.node r).site.held::je e (w.node r).site.log::bD (gs.getD r.toNat ⟨0⟩).g c r (w.node r)::jk a gh gl vs gs c w r M) ?_ rP;generalize (w.node r).site=u;refine rn ?_;intros;refine fr ?_;exact⟨_,ar (bl _ (bl _ (Ar b o i M))) rP,d,e,m,n,rfl,rfl⟩
theorem Uq(b:Nat)(c:aJ)(w:aD)(r:Int)(M:List aa)(f:dE k c w)(m:k<=198)(a:w.has r):Fn prog 23 #[ay b,.int .i64 r] (bz b c w::M)
  λv L'=>∃(u:Value) (cs:List Ct),O1 u/\cs.map Ct.gK=(w.node r).list.1/\v=.tuple #[u,.int .i64 (w.node r).list.2]/\L'=gG u cs::aA (cs.map Ct.own)::bz b c w::M:=by
 refine bz.fn λgh gl vs gs l e=>?_;have n:=a.1;have o:=a.2;have p:r<gs.length:=U;have i:=f.n5;refine fo func23 ntmps23 ?_;refine rn ?_;(repeat(first|intro(cs:List Value)|intro(d:_=List.set _ _ _)|intro h));refine ca [] call39 (sK b gh gl vs gs c w r _ e i.1) ?_;rw[bf a];rintro _ _ ⟨rfl,rfl⟩;refine rn ?_;(repeat(first|intro(cs:List Value)|intro(d:_=List.set _ _ _)|intro h));rw[<-pq U];refine cb (L':=bD (gs.getD r.toNat ⟨0⟩).g c r (w.node r)::jk b gh gl vs gs c w r M) ?_ (lh a _);refine ca [] call59 (Pq (k:=k) _ c r (w.node r) _ (f.node a) U) ?_;rintro _ _ ⟨u,cs,j,d,rfl,rfl⟩;refine rn ?_;(repeat(first|intro(cs:List Value)|intro(d:_=List.set _ _ _)|intro h));refine fr ?_;exact⟨_,bl _ (bl _ (Ar a l e M)),u,cs,j,d,rfl,rfl⟩
theorem xC(a:Nat)(c:aJ)(w:aD)(M:List aa)(d:dE k c w)(f:k<=198):Fn prog 15 #[ay a] (bz a c w::M)
  λv L'=>v=.agg (ab.cells w.aO.gg).toArray/\L'=bz a c w::M:=by
 refine bz.fn λgh gl vs gs e b=>?_;refine fo func15 ntmps15 ?_;unfold ay;refine rn ?_;intros;refine ca [4] call36 (Ji (k:=k) gh c w.aO _ d.aO U) ?_;rintro _ _ ⟨rfl,rfl⟩;generalize w.aO.gg=g;refine rn ?_;intros;refine fr ?_;exact⟨_,ar (bz.cls e b M) rP,rfl,rfl⟩
theorem QJ(a:Nat)(c:aJ)(w:aD)(M:List aa):Fn prog 30 #[ay a] (bz a c w::M)
  λv L'=>v=.int .i64 w.fl.length/\L'=bz a c w::M:=by
 refine bz.fn λgh gl vs gs d b=>?_;refine fo func30 ntmps30 ?_;unfold ay;refine rn ?_;intros;refine ca [4] call85 (X7 gl w.keys _) ?_;rintro _ _ ⟨rfl,rfl⟩;have e:w.keys.length=w.fl.length:=bC ..;rw[e];refine rn ?_;intros;refine fr ?_;exact⟨_,ar (bz.cls d b M) rP,rfl,rfl⟩
end
section
theorem xc{st:aY}(n:kY k c st)(w:k<=198){f:aF×Int}(v:f.2=0->f.1.cM)(a:(st.take c f).2.2.2=0)(b:0<=(st.take c f).2.1):(st.take c f).2.2.1.cM:=by
 unfold aY.take at a b⊢
 by_cases d:st.up=false
 ·rw[an d]at a;cases a
 rw[ai d]at a b⊢
 have d:st.up=true:=by cases h:st.up with
  |true=>rfl
  |false=>exact absurd h d
 have j:=n.post;rw[(n.up d).2]at j;by_cases e:f.2≠0
 ·rw[an e]at a;exact absurd a e
 rw[ai e]at a b⊢
 have o:=v (by simpa using e);have m:=o.r;have x:=o.m;by_cases p:c.n<=f.1.r
 ·rw[an p]at a;cases a
 rw[ai p]at a b⊢
 by_cases q:f.1.kind=1
 ·rw[an q]at a b⊢
  have i:=CN j c.w f.1.r f.1.l;unfold aY.push at a b⊢
  split at a
  ·rename_i h;exact absurd a h
  ·rename_i h;rw[ai h]at b⊢
   split at a
   ·rename_i g;rw[an g];exact vU m U
   ·rename_i g;rw[ai g]at b⊢
    split at a
    ·cases a
    ·rename_i u;rw[ai u];exact vU m U
 rw[ai q]at a b⊢
 by_cases s:f.1.kind=3
 ·rw[an s]at a b⊢
  have i:=Dc j n.cm f.1.r f.1.c;unfold aY.dP at a b⊢
  split at a
  ·rename_i h;exact absurd a h
  ·rename_i h;simp only[ai h];exact Gh m i.1 i.2
 rw[ai s]at a b⊢
 by_cases t:f.1.kind=5
 ·rw[an t]at b;exact absurd b (by simp)
 ·rw[ai t]at a;cases a
attribute [local irreducible] aA bD bL cx cQ
theorem DM(F:FuncId)(p:aF×Int)(b gh gl gn:Nat)(c:aJ)(r:Int)(st:aG)(vs:Value)(fl:List Fk)(M:List aa)(g:∀(xs:Array Value) (w:World),(callFunc F xs).run prog w=.ok (.enter F xs) w)
  (d:∀M,Fn prog F #[ay gn] (bD gn c r st::M) λv L'=>∃u,O1 u/\v=.tuple #[u,.int .i64 p.2]/\L'=bB u (eU p)::bD gn c r st::M)
  (i:fl.length<=1000000)(e:p.2=0->p.1.bu.length<=1000000):
  Fn prog 41 #[ay b,.func (.func F) #[ay gn] #[]] (bD gn c r st::eG b gh gl vs::cx gl fl::M)
   λv L'=>v=.int .i64 p.2/\L'=bD gn c r st::eG b gh gl vs::cx gl (if p.2=0 then fl++[(5,p.1.bu)]else fl)::M:=by
 refine fo func41 ntmps41 ?_;refine rn ?_;intros;refine rq [] (xs:=[]) (fs:=[ay gn]) (vs:=[]) J J g rE J (d _) ?_;rintro _ _ ⟨u,j,rfl,rfl⟩;by_cases a:p.2=0
 ·have f:eU p=p.1.bu:=by unfold eU;rw[an a]
  have h:=e a;rw[an a,a,f];refine rn ?_;intros;refine bc [3] J call107 rE J (Lk gl 5 u p.1.bu fl _ rD U U) ?_;rintro _ _ rfl;exact fX
 ·rw[ai a];exact fX
theorem CC(i gh gl:Nat)(vs:Value)(gs:List Ptr)(c:aJ)(w:aD)(a:Int)(u:Value)(b:List UInt8)(M:List aa)(o:dE k c w)(t:k<=198)(p:O1 vs)(m:gs.length=w.nodes.length)
  (F:aI M u b)(H:O1 u)(y:b.length<=1000000):
  Fn prog 96 #[ay i,.agg [.int .i64 a,u].toArray] (dh i gh gl vs gs c w M)
   λv L'=>v=.int .i64 (w.eJ c a (cV b)).2/\L'=bz i c (w.eJ c a (cV b)).1::M:=by
 have A:=o.n5;refine fo func96 ntmps96 ?_;refine rn ?_;(repeat(first|intro(g:Nat)|intro h));revert g;intro s;refine ca [2,2] call39 (sK i gh gl vs gs c w a _ m A.1) ?_;rintro _ _ ⟨rfl,rfl⟩;by_cases d:w.has a
 ·have e:w.eJ c a (cV b)=(w.aZ a ((w.node a).dw c a (cV b)).1,((w.node a).dw c a (cV b)).2):=by unfold aD.eJ;rw[an d]
  rw[e,bf d];have c7:=d.1;have c8:=d.2;have c9:a<gs.length:=U;refine rn ?_;intros;refine bF (L':=bD (gs.getD a.toNat ⟨0⟩).g c a (w.node a)::eG i gh gl vs::eZ vs gs::ao s 47 [.int .i64 a,u]::qD c gs w a::bL gh c w.aO::cx gl w.keys::M) ?_ (ar (B:=bD (gs.getD a.toNat ⟨0⟩).g c a (w.node a)::jk i gh gl vs gs c w a (ao s 47 [.int .i64 a,u]::M)) rP (ar (lh d _) rP));refine bU 11 (_::_::_::_::_::_::M) rfl rQ rF ?_;refine mn ?_;intros;rw[<-pq U]
  (repeat' (first|(refine m1 ?_;intros)|(refine cG J J J (λh=>?_) (λh=>?_)<;>try(exfalso;omega))))
  refine ma [] call67 (MU (k:=k) _ c a (w.node a) u b _ (o.node d) t (F.sub rP) H y) ?_;rintro _ _ ⟨rfl,rfl⟩;refine mw ?_;intros;refine rn ?_;intros;refine fr ?_;exact⟨_,ar (vX d _ p m M) rP,rfl,rfl⟩
 ·rw[bd d];refine rn ?_;intros;refine bF (L':=bL gh c w.aO::eG i gh gl vs::ao s 47 [.int .i64 a,u]::eZ vs gs::aA (cQ c gs w.nodes)::cx gl w.keys::M) ?_ rP;refine bU 13 (_::_::_::_::_::M) rfl rQ rF ?_;refine mn ?_;intros;refine ma [] call66 (J8 (k:=k) gh c w.aO u b _ o.aO t (F.sub rP) H y) ?_;rintro _ _ ⟨R,d6,rfl,rfl⟩;refine mw ?_;intros
  (repeat' (first|(refine m1 ?_;intros)|(refine cG J J J (λh=>?_) (λh=>?_)<;>try(exfalso;omega))))
  have W:w.keys.length=w.fl.length:=bC ..;have V:=o.fl.1;have x:=xc o.aO t (f:=cV b) (λh=>(xv h).1);obtain⟨⟨l,t2,j,r⟩,C⟩:∃q,w.aO.take c (cV b)=q:=⟨_,rfl⟩;have e:w.eJ c a (cV b)=(if r=0/\w.has t2 then{w with aO:=l,fl:=w.fl++[(t2,j)]}else{w with aO:=l},r):=by unfold aD.eJ;rw[ai d,C]
  rw[e];rw[C]at x⊢
  simp only at x⊢
  by_cases z:r=0
  ·subst z;refine rn ?_;intros;refine ca [3,4] call39 (sK i gh gl vs gs c w t2 _ m A.1) ?_;rintro _ _ ⟨rfl,rfl⟩;by_cases n:w.has t2
   ·have Q:=n.1;have L:=x rfl Q;have S:=j.pH L;have I:lV (t2,(j,0))=j.bu:=by unfold lV;rw[ai (by simp only;omega)];rfl
    rw[bf n,an ⟨rfl,n⟩,I];refine rn ?_;intros;refine bc [6] J call107 rE J (Lk gl t2 R j.bu w.keys _ rD U U) ?_;rintro _ _ rfl;have P:w.keys++[(t2,j.bu)]=({w with aO:=l,fl:=w.fl++[(t2,j)]}:aD).keys:=by unfold aD.keys;rw[dA];rfl
    rw[P];refine rn ?_;intros;refine fr ?_;exact⟨_,ar (bz.cls (w:={w with aO:=l,fl:=w.fl++[(t2,j)]}) (gh:=gh) (gl:=gl) p m M) rP,rfl,rfl⟩
   ·rw[bd n,ai (λh=>n h.2)];refine rn ?_;intros;refine fr ?_;exact⟨_,ar (bz.cls (w:={w with aO:=l}) (gh:=gh) (gl:=gl) p m M) rP,rfl,rfl⟩
  ·rw[ai (λh=>z h.1)];refine rn ?_;intros;refine fr ?_;exact⟨_,ar (bz.cls (w:={w with aO:=l}) (gh:=gh) (gl:=gl) p m M) rP,rfl,rfl⟩
end
end
section
section
variable{P:Program}{n:Nat}{ops:Array Oper}{Q:bx}{f:Nat->Value}{L:List aa}{rest:List Oper}{d:Nat}{ty:TypeId}{pos:String}{af:Array Edge}{gd:Option (Nat×Bool)}
theorem Ls(hx:aH f x=v)(a:P.underlying t=some (.pointer e)):aP P ⟨some d,.makeInterface t x,ty,pos,af,gd⟩ f L (.iface t v):=λF w s=>by subst hx;simp[execOp,Instr.makeInterface,cX a]
theorem wy(g:List Nat){xs:List Operand}{vs:List Value}{fn:FuncId}(hd:fv n dd=true)(hx:aH f x=.iface t v)
  (m:∀w:World,(callMethod (.iface t v) ae vs.toArray).run P w=.ok (.enter fn (v::vs).toArray) w)(l:oe g L=L1)(k:xs.map (aH f)=vs)(b:Fn P fn (v::vs).toArray L1 R)(h:∀v L',R v L'->aM P n ops rest Q (cg f dd v) L'):
  aM P n ops (⟨dd,.call ⟨.invoke x ae,xs.toArray,ts⟩,ty,pos,af,none⟩::rest) Q f L:=by
 have b:=b.sub (L:=L) (by subst l;exact iT g L);intro D F w0 f0 ws a w H c;refine wpList_plain rfl λy i=>?_;have u:(execOp a.eval ⟨dd,.call ⟨.invoke x ae,xs.toArray,ts⟩,ty,pos,af,none⟩).run P w=.ok (.enter fn (v::vs).toArray) w:=by rw[H.2.1.eval];subst k;have e:List.take xs.length (xs.map (aH f))=xs.map (aH f):=ic (by simp);unfold execOp;simpa[resolve,invoke,hx,e]using m w
 unfold Oper.wp;rw[u];show Calls P fn _ w _;refine(b F w0 w H.1 H.2.2.1).mono ?_;rintro e w' ⟨v,L',rfl,q,r,j⟩;have p:gB D n F w0 f0 ws (a.put dd v) w' (cg f dd v) L':=by have:=ti (w':=w) H (gO w) H.2.2.1 hd (λt s=>c t (rh (o:=⟨dd,.call ⟨.invoke x ae,xs.toArray,ts⟩,ty,pos,af,none⟩) (t:=0) s)) v;exact⟨q,this.2.1,r,this.2.2.2⟩
 exact i _ _ (h v L' j D F w0 f0 ws _ _ p λd hd=>c d (qN hd))
end
theorem VC(v:Value)(w:World):(callMethod (.iface 116 v) "Crash" #[]).run prog w=.ok (.enter 60 #[v]) w:=by kernel_rfl
theorem Rf(v:Value)(w:World):(callMethod (.iface 116 v) "Start" #[]).run prog w=.ok (.enter 61 #[v]) w:=by kernel_rfl
theorem OX(v u:Value)(w:World):(callMethod (.iface 116 v) "Cut" #[u]).run prog w=.ok (.enter 370 #[v,u]) w:=by kernel_rfl
theorem UM(v:Value)(w:World):(callMethod (.iface 111 v) "Crash" #[]).run prog w=.ok (.enter 62 #[v]) w:=by kernel_rfl
theorem RI(v:Value)(w:World):(callMethod (.iface 111 v) "Start" #[]).run prog w=.ok (.enter 63 #[v]) w:=by kernel_rfl
theorem WN(v u:Value)(w:World):(callMethod (.iface 111 v) "Cut" #[u]).run prog w=.ok (.enter 368 #[v,u]) w:=by kernel_rfl
end
def oL:=@bz.cls
def nG:=@aD.GY
end Go.Proofs.YtogcfijlhpaeeaaGreat
