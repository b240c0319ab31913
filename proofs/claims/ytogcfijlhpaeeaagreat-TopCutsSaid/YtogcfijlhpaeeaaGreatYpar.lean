/- Texts. No condition. -/
import Derived.Test.YtogcfijlhpaeeaaGreatYpaq
open Go.RowKit
set_option linter.all false
set_option maxHeartbeats 32000000
namespace Go.Proofs.YtogcfijlhpaeeaaGreat
variable{k:Nat}{L':List aa}{w':World}{F:aU}{R:Value->List aa->Prop}{up:Bool}{ah:List Oper}{o':Obj}
section
theorem aN.Az{w:World}{l:Nat}{o:Obj}{L:List aa}(s:aN w (Pt l o::L) F):w.heap[l]?=some o/\aN (w.putObj l o') (Pt l o'::L) F:=by
 obtain⟨h,rfl,d,s⟩:=s;have b:=ue s l o (nz l o);have c:=(gR.1 b).1;refine⟨b,aU.one l o',rfl,λn=>?_,?_⟩
 ·rcases d n with x|x
  ·left;by_cases a:n=l
   ·subst a;rw[nz]at x;cases x
   ·exact wL o' a
  ·exact .inr x
 ·refine aN.swap (h:=aU.one l o) (h':=aU.one l o') (λn a=>?_) (λn x a hx=>?_) (λn x hx=>?_) d s
  ·by_cases e:n=l
   ·subst e;rw[nz]at a;cases a
   ·exact wL o' e
  ·by_cases e:n=l
   ·subst e;rw[nz]at a;cases a
   ·exact(World.putObj_heap_other U).trans hx
  ·by_cases e:n=l
   ·subst e;rw[nz]at hx;cases hx;exact World.putObj_heap_same c
   ·rw[wL o' e]at hx;cases hx
theorem Rest.putObj{a b:World}(h:Rest a b)(l:Nat)(o:Obj):Rest a (b.putObj l o):=h
@[reducible] def dO(st:LoopState)(fn:FuncId)(a:Array Value)(p:Nat)(A B:Code)(D:Nat):Obj:=.loop {state:=st,pending:=none,fn:=fn,tmps:=a,params:=#[p],assign:=A,body:=B,defers:=D}
def rk(l:Nat)(o:Obj)(a:List aa->Prop):bx
 | .normal,_,L=>∃M,Sub (Pt l o::M) L/\a M
 |_,_,_=>False
def uQ(l:Nat)(P:Program)(c:Nat)(d a:Obj)(B:Code)(b:List aa->Prop):bx
 | .normal,f,L=>∃M,Sub (Pt l d::M) L/\ei l P c B (rk l a b) f (Pt l a::M)
 |_,_,_=>False
theorem PI{P:Program}{l:Nat}{R:Ending->World->Prop}{a:Act}{w:World}(h:∃v w',(Instr.endRound l none).run P w=.ok v w'/\R (.returned v) w'):roundPost P l R .normal a w:=h
section
variable{P:Program}{n:Nat}{Q:bx}{f:Nat->Value}{L:List aa}
theorem fV.yield{ops:Array Oper}{i:Option Nat}{x y:Operand}{r:Array TypeId}{ty:TypeId}{pos:String}{af:Array Edge}{rest:List Oper}{l:Nat}{v:Value}{fn:FuncId}{b:Array Value}{p k c:Nat}{A B:Code}{j:Nat->Value}{M:List aa}{u:List aa->Prop}
  (hd:fv n i=true)(hx:aH f x=.func (.yield l) #[] #[])(hy:aH f y=v)(L:b.size=k)(hp:p<k)(d7:∀t,b.getD t undef=j t)
  (hA:ei l P k A (uQ l P k (dO .ready fn b p A B c) (dO .busy fn b p A B c) B u) (aZ j p v) (Pt l (dO .ready fn b p A B c)::M))
  (h:∀z,u z->fV P n ops rest Q (cg f i (.bool true)) (Pt l (dO .ready fn b p A B c)::z)):
  fV P n ops (⟨i,.call ⟨.value x,#[y],r⟩,ty,pos,af,none⟩::rest) Q f (Pt l (dO .ready fn b p A B c)::M):=λD F w0 f0 ws a w H I=>by
 have hL:=(aN.Az (o':=dO .ready fn b p A B c) H.2.2.1).1;have e9:(execOp a.eval ⟨i,.call ⟨.value x,#[y],r⟩,ty,pos,af,none⟩).run P w=.ok (.round l fn (b.setIfInBounds p v) A B) w:=by rw[H.2.1.eval];have:=run_yield (P:=P) (args:=#[v]) hL rfl;simpa[execOp,resolve,Deferred.ofValue,hx,hy,invoke]using this
 show(if Region.wanted _ (yielded ops a.tmps)then _ else _);rw[an J];refine⟨λf _=>trivial,?_⟩;rw[show(Fence.wide.round:Option Nat)=none from rfl,Oper.semAt_none,e9];refine⟨(λe=>by cases e),?_⟩;refine roundIn_of_wpIn trivial ?_;have W:gz [] k {tmps:=b.setIfInBounds p v,defers:=[]} (aZ j p v):=by
  refine⟨rfl,by simpa using L,λt=>?_⟩;by_cases g:t=p
  ·subst g;rw[qc];simp[Array.getD,L,hp]
  ·rw[nC _ _ g,<-d7 t];simp only[uV,Ay (ur g)]
 refine wpIn_mono (hA [] F w0 (aZ j p v) (λ_=>true) _ w ⟨H.1,W,H.2.2.1,λt g=>by cases g⟩ (λ_ _=>rfl)) ?_;rintro e V w1 ⟨f1,L1,m,q⟩;cases e with
 |normal=>
  obtain⟨M1,j0,hB⟩:=q;have s1:=j0 w1 F m.2.2.1;obtain⟨d8,s2⟩:=aN.Az (o':=dO .busy fn b p A B c) s1;refine⟨_,run_beginRound d8 rfl,?_⟩;refine wpIn_mono (hB [] F w0 (aZ j p v) (λ_=>true) V _ ⟨m.1,m.2.1,s2,λt g=>by cases g⟩ (λ_ _=>rfl)) ?_;rintro e a2 R ⟨f2,L2,s,q⟩;cases e with
  |normal=>
   obtain⟨C,j1,hK⟩:=q;have s3:=j1 R F s.2.2.1;obtain⟨d9,s4⟩:=aN.Az (o':=dO .ready fn b p A B c) s3;refine PI ⟨_,_,run_endRound none d9,?_⟩;have S:gB D n F w0 f0 ws (a.put i (.bool true)) (R.putObj l (dO .ready fn b p A B c)) (cg f i (.bool true)) (Pt l (dO .ready fn b p A B c)::C):=by have:=ti (w':=w) H (gO w) H.2.2.1 hd (λt g=>I t (rh (o:=⟨i,.call ⟨.value x,#[y],r⟩,ty,pos,af,none⟩) (t:=0) g)) (.bool true);exact⟨s.1,this.2.1,s4,this.2.2.2⟩
   exact h C hK D F w0 f0 ws _ _ S λd hd=>I d (qN (t:=d) hd)
  |_=>exact q.elim
 |_=>exact q.elim
def E2(a:List Nat):List Deferred:=a.map λk=>{target:=.collected k,args:=#[]}
def BZ(n:Nat)(F:aU)(w0:World)(f0:Nat->Value)(ws:Nat->Bool)(a:Act)(w:World)(f:Nat->Value)(L:List aa):Prop:=
 ∃(c:List Nat) (b:aU),c.Nodup/\b.iN F/\(∀k∈c,b k=some (.deferred (some [])))/\gB (E2 c) n (b.add F) w0 f0 ws a w f L
def LiftM(n:Nat)(F:aU)(w0:World)(f0:Nat->Value)(ws:Nat->Bool)(Q:bx):Exit->Act->World->Prop:=
 λe a w=>∃f L,BZ n F w0 f0 ws a w f L/\Q e f L
def ff(P:Program)(n:Nat)(c:Code)(Q:bx)(f:Nat->Value)(L:List aa):Prop:=
 ∀F w0 f0 ws a w,BZ n F w0 f0 ws a w f L->Cn c ws->c.wp P (LiftM n F w0 f0 ws Q) a w
def yu(P:Program)(n:Nat)(c:Code)(Q:bx):bx
 | .normal,f,L=>ff P n c Q f L
 |e,f,L=>Q e f L
theorem mE{c:Code}(h:ff P n c Q f L):yu P n c Q .normal f L:=h
theorem R9{c:Code}(h:Q .ret f L):yu P n c Q .ret f L:=h
theorem Tv{c:Code}(h:Q (.exit k) f L):yu P n c Q (.exit k) f L:=h
theorem ff.of{c:Code}(h:Ex P n c Q f L):ff P n c Q f L:=λF w0 f0 ws a w ⟨d,b,i,hd,g,H⟩ hc=>
 jo (h (E2 d) (b.add F) w0 f0 ws a w H hc) λe a w ⟨f,L,H,q⟩=>⟨f,L,⟨d,b,i,hd,g,H⟩,q⟩
theorem ff.sub{c:Code}(h:ff P n c Q f L')(i:Sub L' L):ff P n c Q f L:=λF w0 f0 ws a w ⟨j,b,g,hd,e,r,d,s,k⟩ hc=>
 h F w0 f0 ws a w ⟨j,b,g,hd,e,r,d,i w _ s,k⟩ hc
theorem ff.seq{x y:Code}(h:ff P n x (yu P n y Q) f L):ff P n (.seq x y) Q f L:=λF w0 f0 ws a w H b=>
 wp_seq (jo (h F w0 f0 ws a w H λd hd=>b d (lk _ hd)) λe a w ⟨f,L,H,q⟩=>by
  cases e with
  |normal=>exact q F w0 f0 ws a w H λd hd=>b d (mT _ hd)
  |_=>exact⟨f,L,H,q⟩)
theorem ff.block{d:Nat}{c:Code}(h:ff P n c (bJ d Q) f L):ff P n (.block d c) Q f L:=λF w0 f0 ws a w H g=>
 wp_block (jo (h F w0 f0 ws a w H g) λe a w ⟨f,L,H,q⟩=>by
  cases e with
  |exit k=>
   simp only[Exit.inBlock];by_cases b:k=d
   ·rw[an b];subst b;refine⟨f,L,H,?_⟩;simp only[Go.Proofs.YtogcfijlhpaeeaaGreat.bJ]at q;rw[show Nat.beq k k=true by simp]at q;exact q
   ·rw[ai b];refine⟨f,L,H,?_⟩;simp only[Go.Proofs.YtogcfijlhpaeeaaGreat.bJ]at q;cases hb:Nat.beq k d with
    |true=>exact absurd (mj hb) b
    |false=>rw[hb]at q;exact q
  |_=>exact⟨f,L,H,q⟩)
theorem ff.loop{c:Code}(ss:List Nat)(I:Nat->List Value->List aa->Prop)(M:Nat)(V:I M (ss.map f) L)
  (round:∀(m:Nat) (vs:List Value) (g:Nat->Value) (L':List aa),I m vs L'->ff P n c (bV I m ss Q) (lA (nv f g (writes c)) ss vs) L'):ff P n (.loop c) Q f L:=λF w0 f0 ws a w H hc=>by
 let u:Act->World->Nat->Prop:=λa w m=>∃b L',BZ n F w0 f (λt=>(writes c).any (Nat.beq t)) a w b L'/\I m (ss.map b) L';obtain⟨ms,R,hn,hd,W,r,x,s,d9⟩:=H;refine jo (Q:=LiftM n F w0 f (λt=>(writes c).any (Nat.beq t)) Q) ?_ ?_
 ·refine wp_loop (λa w=>∃m,u a w m) (λa w=>leastOf (u a w)) ⟨M,f,L,⟨ms,R,hn,hd,W,r,x,s,λ_ _=>rfl⟩,V⟩ ?_;rintro a w ⟨m,hJ⟩;have hl:=(Bb hJ).1;obtain⟨b,L',H,hI⟩:=hl;have hf:∀t,(writes c).any (Nat.beq t)=false->b t=f t:=by obtain⟨_,_,_,_,_,H⟩:=H;exact H.2.2.2
  have e:b=lA (nv f b (writes c)) ss (ss.map b):=by
   have:nv f b (writes c)=b:=by
    funext t;unfold nv;cases hb:(writes c).any (Nat.beq t)with
    |true=>simp only[hb]
    |false=>simp only[hb];exact(hf t hb).symm
   rw[this,oW]
  have z:=round _ _ b L' hI;rw[<-e]at z;refine jo (z F w0 f _ a w H (λd hd=>by simp only[eR];exact⟨d,hd,by simp⟩)) ?_;rintro e a w ⟨i,v,⟨p,h,o,l,j,H⟩,q⟩;cases e with
  |normal=>
   obtain⟨C,S,e9,j1,c8⟩:=q;have A:u a w C:=⟨i,S,⟨p,h,o,l,j,H.1,H.2.1,j1 w _ H.2.2.1,H.2.2.2⟩,c8⟩;exact⟨⟨C,A⟩,Ea (Bb A).2 e9⟩
  |_=>exact⟨i,v,⟨p,h,o,l,j,H⟩,q⟩
 ·rintro e a w ⟨i,v,⟨p,h,o,l,j,r,x,s,k⟩,q⟩;refine⟨i,v,⟨p,h,o,l,j,r,x,s,λt y=>?_⟩,q⟩;rw[<-d9 t y];refine k t ?_;cases hb:(writes c).any (Nat.beq t)with
  |false=>exact hb
  |true=>simp only[eR]at hb;obtain⟨d,hd,d7⟩:=hb;have:=mj d7;subst this;rw[hc t hd]at y;cases y
end
end
section
theorem Vz{a b c:aU}:(a.add b).add c=a.add (b.add c):=by funext n;unfold aU.add;cases a n<;>rfl
section
variable{P:Program}{n:Nat}{Q:bx}{f:Nat->Value}{L:List aa}
theorem ff.rangeFunc{x:Operand}{p:Nat}{A B:Code}{i:Array Value}{d:FuncId}(y:List aa->Prop)(hx:aH f x=.func (.func d) #[] i)(d6:∀(xs:Array Value) (w:World),(callFunc d xs).run P w=.ok (.enter d xs) w)
  (S:∀(l j:Nat) (q:Array Value) (fn:FuncId),q.size=n->(∀t,q.getD t undef=f t)->
   Fn P d (#[.func (.yield l) #[] #[]]++i) (Pt l (dO .ready fn q p A B j)::Pt j (.deferred (some []))::L) λv L'=>∃c,L'=Pt l (dO .ready fn q p A B j)::Pt j (.deferred (some []))::c/\y c)
  (h:∀c,y c->Q .normal f c):ff P n (.rangeFunc x #[p] A B) Q f L:=λF w0 f0 ws a w ⟨I,g,hn,hd,z,H⟩ hc=>by
 refine(wpIn_wide (n:=1)).1 (wpIn_rangeFunc ?_);intro fn _;rw[show(Fence.wide.round:Option Nat)=none from rfl];have sz:(w.alloc (.deferred (some []))).heap.size=w.heap.size+1:=kh ..;refine⟨w.heap.size+1,[{target:=.collected w.heap.size,args:=#[]}],(w.alloc (.deferred (some []))).alloc (dO .ready fn a.tmps p A B w.heap.size),{target:=.fn (.func d) i,args:=#[.func (.yield (w.heap.size+1)) #[] #[]]},(w.alloc (.deferred (some []))).alloc (dO .ready fn a.tmps p A B w.heap.size),d,
  #[.func (.yield (w.heap.size+1)) #[] #[]]++i,(w.alloc (.deferred (some []))).alloc (dO .ready fn a.tmps p A B w.heap.size),run_enterLoop_outer _ _ _ _ _,?_,λf' _=>trivial,?_,(λe=>by cases e),?_⟩
 ·have d8:a.eval x=.func (.func d) #[] i:=by rw[H.2.1.eval];exact hx
  simp only[resolve,d8];simp[go_sem]
 ·simp[invoke,go_sem,d6]
 ·have s1:=qx (A:=Pt w.heap.size (.deferred (some []))) (.deferred (some [])) H.2.2.1 rfl;have s2:=qx (A:=Pt (w.heap.size+1) (dO .ready fn a.tmps p A B w.heap.size)) (dO .ready fn a.tmps p A B w.heap.size) s1 (by rw[sz];rfl);refine callsIn_wide.2 ((S (w.heap.size+1) w.heap.size a.tmps fn H.2.1.2.1 H.2.1.2.2 (g.add F) w0 _ (yJ (yJ H.1 _) _) s2).mono ?_);rintro e w3 ⟨v,L',rfl,hr,hs,c,rfl,R⟩;obtain⟨V,s3⟩:=aN.Az (o':=.loop {state:=.exhausted,pending:=none,fn:=fn,tmps:=a.tmps,params:=#[p],assign:=A,body:=B,defers:=w.heap.size}) hs;refine⟨none,_,run_endLoop V (by simp),?_⟩;have s4:aN _ (Pt w.heap.size (.deferred (some []))::c) (g.add F):=(iC _ (bW _)) _ _ s3;obtain⟨hh,rfl,r,s5⟩:=s4;have C:w.heap.size∉I:=λW=>by
   have s:=z _ W;have b:=r w.heap.size;rw[nz]at b;rcases b with b|b
   ·cases b
   ·unfold aU.add at b;rw[s]at b;cases b
  have j3:(aU.one w.heap.size (.deferred (some []))).iN g:=λk=>by
   rcases r k with b|b
   ·exact .inl b
   ·right;unfold aU.add at b;cases hg:g k with
    |none=>rfl
    |some o=>rw[hg]at b;cases b
  have M:(aU.one w.heap.size (.deferred (some []))).iN F:=λk=>by
   rcases r k with b|b
   ·exact .inl b
   ·right;unfold aU.add at b;cases hg:g k with
    |none=>rw[hg]at b;exact b
    |some o=>rw[hg]at b;cases b
  refine⟨f,c,⟨w.heap.size::I,(aU.one w.heap.size (.deferred (some []))).add g,sd.2 ⟨C,hn⟩,?_,?_,hr,?_,?_,H.2.2.2⟩,h c R⟩
  ·intro k;rcases M k with b|b
   ·rcases hd k with u|u
    ·left;unfold aU.add;rw[b];exact u
    ·exact .inr u
   ·exact .inr b
  ·intro k m;rcases gA.1 m with rfl|m
   ·unfold aU.add;rw[nz]
   ·have s:=z k m;have c8:k≠w.heap.size:=λe=>C (e▸m);unfold aU.add;rw[wL _ c8];exact s
  ·refine⟨?_,H.2.1.2⟩;show _++a.defers=_;rw[H.2.1.1];rfl
  ·rw[Vz];exact s5
theorem Ze{w:World}{L:List aa}{a:aU}(s:aN w L (a.add F))(hd:a.iN F)(b:∀(k:Nat) (o:Obj),a k=none->w.heap[k]?=some o->w'.heap[k]?=some o):aN w' L F:=by
 have:=aN.swap (h:=a) (h':=λ_=>none) (λ_ _=>rfl) b (λk o e=>by cases e) hd s;have e:aU.add (λ_=>none) F=F:=by funext k;rfl
 rwa[e]at this
theorem MY{fn:Func}{c:Array Value}{R:Ending->World->Prop}:∀(b:List Nat) (w:World),b.Nodup->(∀k∈b,w.heap[k]?=some (.deferred (some [])))->
  (∀w':World,(∀(k:Nat) (o:Obj),k∉b->w.heap[k]?=some o->w'.heap[k]?=some o)->Rest w w'->∃v,(results fn c).run P w'=.ok v w'/\R (.returned v) w')->
  LeavesInM Fence.wide 0 P fn c R (E2 b) .returning w
 |[],w,_,_,h=>h w (λk o _ e=>e) (gO w)
 |m::b,w,hn,hm,h=>by
  obtain⟨i,j⟩:=sd.1 hn;have g:=hm m (fP ..);refine⟨by simp,.inl ⟨m,_,rfl,run_takeDeferred g,?_⟩⟩;refine MY b _ j (λk a=>?_) (λw' d f=>h w' (λk o a n=>?_) (Bl (Rest.putObj (gO w) m _) f))
  ·have l:k≠m:=λe=>i (e▸a);exact(World.putObj_heap_other U).trans (hm k (eu _ a))
  ·rw[gA,not_or]at a;have l:=a.1;exact d k o a.2 ((World.putObj_heap_other U).trans n)
theorem Fn.Uh{k:FuncId}{fn:Func}{c:Code}{args:Array Value}(I:P.funcs[k]?=some fn)(C:fn.body=some c)(Q:fn.ntmps=n)(g:Nat.ble args.size n=true)
  (h:ff P n c (fin P fn R) (jP args) L):Fn P k args L R:=by
 subst Q;have g:=cT g;intro F w0 w r s;refine(callsIn_wide (n:=0)).1 (callsIn_of_wp_marks I C trivial ?_ rfl);have u:gz [] fn.ntmps {tmps:=args++Array.replicate (fn.ntmps-args.size) undef,defers:=[]} (jP args):=by
  refine⟨rfl,by simp;omega,λt=>?_⟩;simp only[jP,uV,cu,ua];by_cases i:t<args.size
  ·rw[tD i]
  ·rw[wC U,Ax,oM (show args.size<=t by omega)];split<;>rfl
 have x:aU.add (λ_=>none) F=F:=by funext k;rfl
 refine wpIn_wide.2 (jo (h F w0 (jP args) (λ_=>true) _ w ⟨[],λ_=>none,EU,λ_=>.inl rfl,by simp,r,u,by rw[x];exact s,λt i=>by cases i⟩ (λ_ _=>rfl)) ?_);have l:∀(a:Act) (w':World) (f:Nat->Value) (L':List aa),BZ fn.ntmps F w0 (jP args) (λ_=>true) a w' f L'->(∃v b,bP P fn f L' v/\Sub b L'/\R v b)->
   LeavesInM Fence.wide 0 P fn a.tmps (λe w'=>∃v L',e=.returned v/\Rest w0 w'/\aN w' L' F/\R v L') a.defers .returning w':=λa w' f L' ⟨ms,c8,g,hd,m,H⟩ ⟨v,b,W,V,A⟩=>by
  rw[H.2.1.1];refine MY ms w' g (λk d=>ue H.2.2.1 k _ (m k d)) (λj y z=>?_);have p:aN j L' F:=Ze H.2.2.1 hd (λk o d S=>y k o (λM=>by rw[m k M]at d;cases d) S);exact⟨v,W F j a.tmps H.2.1.2.2 p,v,b,rfl,Bl H.1 z,V j F p,A⟩
 rintro e a w' ⟨f,L',H,q⟩;cases e with
 |normal=>exact l a w' f L' H q
 |ret=>exact l a w' f L' H q
 |_=>exact q.elim
end
end
section
section
variable{P:Program}{n:Nat}{ops:Array Oper}{Q:bx}{f:Nat->Value}{L:List aa}{rest:List Oper}{o:Oper}
theorem fV.at(m:Nat)(hd:(ops.toList.take m).all tP=true)(h:aM P n ops (ops.toList.take m) (uz P n ops (ops.toList.drop m) Q) f L):fV P n ops ops.toList Q f L:=by have:=fV.app _ _ hd h;rwa[mi]at this
theorem Dy(h:fV P n ops ah Q f L):uz P n ops ah Q .normal f L:=h
theorem fV.tj{j s:Nat}(g:o.guard=some (j,up))(i:(ops[j]?).bind (·.dst)=some s)(k:Nat.blt s n=true)(d:f s=.bool up)
  (h:fV P n ops ({o with guard:=none}::rest) Q f L):fV P n ops (o::rest) Q f L:=by
 intro D F w0 f0 ws a w H e;have hy:=GV (ops:=ops) H i k d;have l:Region.wanted o (yielded ops a.tmps)=true:=by simp only[Region.wanted,g,hy];simp
 have b:=h D F w0 f0 ws a w H (by simpa[jc]using e);have c:wpListIn Fence.wide 0 P ops (eN D n F w0 f0 ws Q) ({o with guard:=none}::rest) a w=(if Region.wanted {o with guard:=none} (yielded ops a.tmps)then({o with guard:=none}:Oper).wpIn Fence.wide 0 P a w (wpListIn Fence.wide 0 P ops (eN D n F w0 f0 ws Q) rest) (eN D n F w0 f0 ws Q)else _):=rfl;rw[c,an (oY rfl)]at b;show(if Region.wanted o (yielded ops a.tmps)then o.wpIn Fence.wide 0 P a w (wpListIn Fence.wide 0 P ops (eN D n F w0 f0 ws Q) rest) (eN D n F w0 f0 ws Q)else _);rw[an l];exact b
theorem Calm.fin{fn:Func}{R:Value->List aa->Prop}:Calm (fin P fn R):=λe f L q=>by
 cases e with
 |normal=>exact⟨(λc h=>by cases h),(λh=>by cases h)⟩
 |ret=>exact⟨(λc h=>by cases h),(λh=>by cases h)⟩
 |_=>exact q.elim
theorem Calm.bI{c:Code}(h:Calm Q):Calm (bI P n c Q):=λe f L q=>by
 cases e with
 |normal=>exact⟨(λc h=>by cases h),(λh=>by cases h)⟩
 |_=>exact h _ _ _ q
theorem Calm.bV{I:Nat->List Value->List aa->Prop}{m:Nat}{ss:List Nat}(h:Calm Q):Calm (bV I m ss Q):=λe f L q=>by
 cases e with
 |normal=>exact⟨(λc h=>by cases h),(λh=>by cases h)⟩
 |_=>exact h _ _ _ q
theorem Calm.rk{l:Nat}{o:Obj}{a:List aa->Prop}:Calm (rk l o a):=λe f L q=>by
 cases e with
 |normal=>exact⟨(λc h=>by cases h),(λh=>by cases h)⟩
 |_=>exact q.elim
theorem Calm.uQ{l b:Nat}{d g:Obj}{B:Code}{a:List aa->Prop}:Calm (uQ l P b d g B a):=λe f L q=>by
 cases e with
 |normal=>exact⟨(λc h=>by cases h),(λh=>by cases h)⟩
 |_=>exact q.elim
end
end
def ml:=@ff.of
def nn:=@ff.seq
def qS:=@Calm.bI
def vK:=@Calm.bV
end Go.Proofs.YtogcfijlhpaeeaaGreat
