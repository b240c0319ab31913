/- Texts. No condition. -/
import Derived.Test.YtogcfijlhpaeeaaGreatYpat
open Go.RowKit Go.Proofs.Tryz
set_option linter.all false
set_option maxHeartbeats 32000000
namespace Go.Proofs.YtogcfijlhpaeeaaGreat
variable{k n:Nat}{r b:Int}{c:aJ}{α:Type}{st:aG}{q:List UInt8}{aq:List aF}
section
theorem DC(us:List α)(z a:α){j:Nat}(b:us.length=j)(h:j<n):(us++List.replicate (n-j) z).set j a=(us++[a])++List.replicate (n-(j+1)) z:=by have e:n-j=(n-(j+1))+1:=U;subst b;rw[e,BV _ _ (bj _),yn,CT,pc,dB];rfl
instance:hQ prog 57 Int:=⟨0,by kernel_rfl,by kernel_rfl⟩
instance:hQ prog 67 Sv:=⟨⟨.slice none 0 0,rfl⟩,by kernel_rfl,by kernel_rfl⟩
set_option maxRecDepth 20000 attribute [local irreducible] Ex aM Fn bI bJ bV fin meet ch aX bZ aP aN aI Rd aK Row ao Sub bk bP bS bN bg bR Hid bY
section
attribute [local irreducible] aA bD bL cx cQ bz aV.own
theorem SC(F:FuncId)(fs:List Value)(b:List Int->aa)(n:Nat)(t:n<=1000)(M:List aa)(l:∀(xs:Array Value) (w:World),(callFunc F xs).run prog w=.ok (.enter F xs) w)
  (g:∀(xs:List Int) (M:List aa),xs.length<n->Fn prog F (([]:List Value)++[Value.int .i64 (xs.length:Nat)]++fs).toArray (b xs::M) λv L'=>∃a:Int,v=.int .i64 a/\L'=b (xs++[a])::M):
  Fn prog 153 #[.int .i64 n,.func (.func F) #[] fs.toArray] (b []::M) λv L'=>∃xs:List Int,xs.length=n/\O1 v/\L'=aK v 57 xs::b xs::M:=by
 refine fo func153 ntmps153 ?_;refine rn ?_;(repeat(first|intro(v:Value)|intro(o:O1 _)|intro h));refine bm [11] (λz vs L'=>∃(j:Nat) (xs:List Int),j<=n/\xs.length=j/\z=n-j/\vs=[.int .i64 j]/\L'=aK v 57 (xs++List.replicate (n-j) (0:Int))::b xs::M) n ⟨0,[],U,rfl,rfl,rfl,rfl⟩ ?_;rintro z vs p m ⟨j,xs,r,hx,rfl,rfl,rfl⟩;refine bp [1,5,10,11] rG (λq=>?_);have i:(xs++List.replicate (n-j) (0:Int)).length=n:=by rw[bo,ju];omega
 have s:([]++List.replicate n (0:Int):List Int).length=n:=by simp
 by_cases k:j<n
 ·have d:=λM=>g xs M U;rw[hx]at d;have f:=λa:Int=>DC xs (0:Int) a hx k;obtain⟨c,e⟩:∃c,c=xs++List.replicate (n-j) (0:Int):=⟨_,rfl⟩;rw[<-e]at f i;rw[<-e];refine rn ?_;(repeat(first|intro(v:Value)|intro(o:O1 _)|intro h));refine iL [1] (xs:=[.tmp 17]) (fs:=[]) (us:=fs) (vs:=[.int .i64 j]) J J l rE J (d _) ?_;rintro _ _ ⟨a,rfl,rfl⟩;refine cb (L':=aK v 57 c::b (xs++[a])::M) ?_ rP
  (repeat' (first|(refine r1 ?_;(repeat(first|intro(v:Value)|intro(o:O1 _)|intro h)))|(refine fx J (λh=>?_) (λh=>?_)<;>try(exfalso;omega))|(apply fw;refine fH J J J (λh=>?_) (λh=>?_)<;>try(exfalso;omega))))
  refine FB 0 (a:=a) J J J J J J (show j<c.length by omega) (by decide) J J ?_;refine rn ?_;(repeat(first|intro(v:Value)|intro(o:O1 _)|intro h));refine aS ⟨n-(j+1),aK v 57 ((xs++[a])++List.replicate (n-(j+1)) (0:Int))::b (xs++[a])::M,U,?_,j+1,xs++[a],U,by rw[bo,hx];rfl,rfl,av (aQ U) rfl,rfl⟩;rw[<-f];exact rP
 ·obtain rfl:j=n:=U;rw[yn,CS,ck];refine rn ?_;(repeat(first|intro(o:O1 _)|intro h));refine fr ?_;exact⟨_,rP,xs,hx,o,rfl⟩
theorem XY(F:FuncId)(fs:List Value)(b:List Sv->aa)(n:Nat)(t:n<=1000)(M:List aa)(l:∀(xs:Array Value) (w:World),(callFunc F xs).run prog w=.ok (.enter F xs) w)
  (g:∀(xs:List Sv) (M:List aa),xs.length<n->Fn prog F (([]:List Value)++[Value.int .i64 (xs.length:Nat)]++fs).toArray (b xs::M) λv L'=>∃a:Sv,v=a.v/\L'=b (xs++[a])::M):
  Fn prog 88 #[.int .i64 n,.func (.func F) #[] fs.toArray] (b []::M) λv L'=>∃xs:List Sv,xs.length=n/\O1 v/\L'=aK v 67 xs::b xs::M:=by
 refine fo func88 ntmps88 ?_;refine rn ?_;(repeat(first|intro(v:Value)|intro(o:O1 _)|intro h));refine bm [11] (λz vs L'=>∃(j:Nat) (xs:List Sv),j<=n/\xs.length=j/\z=n-j/\vs=[.int .i64 j]/\L'=aK v 67 (xs++List.replicate (n-j) (⟨.slice none 0 0,rfl⟩:Sv))::b xs::M) n ⟨0,[],U,rfl,rfl,rfl,rfl⟩ ?_;rintro z vs p m ⟨j,xs,r,hx,rfl,rfl,rfl⟩;refine bp [1,5,10,11] rG (λq=>?_);have i:(xs++List.replicate (n-j) (⟨.slice none 0 0,rfl⟩:Sv)).length=n:=by rw[bo,ju];omega
 have s:([]++List.replicate n (⟨.slice none 0 0,rfl⟩:Sv):List Sv).length=n:=by simp
 by_cases k:j<n
 ·have d:=λM=>g xs M U;rw[hx]at d;have f:=λa:Sv=>DC xs (⟨.slice none 0 0,rfl⟩:Sv) a hx k;obtain⟨c,e⟩:∃c,c=xs++List.replicate (n-j) (⟨.slice none 0 0,rfl⟩:Sv):=⟨_,rfl⟩;rw[<-e]at f i;rw[<-e];refine rn ?_;(repeat(first|intro(v:Value)|intro(o:O1 _)|intro h));refine iL [1] (xs:=[.tmp 17]) (fs:=[]) (us:=fs) (vs:=[.int .i64 j]) J J l rE J (d _) ?_;rintro _ _ ⟨a,rfl,rfl⟩;refine cb (L':=aK v 67 c::b (xs++[a])::M) ?_ rP
  (repeat' (first|(refine r1 ?_;(repeat(first|intro(v:Value)|intro(o:O1 _)|intro h)))|(refine fx J (λh=>?_) (λh=>?_)<;>try(exfalso;omega))|(apply fw;refine fH J J J (λh=>?_) (λh=>?_)<;>try(exfalso;omega))))
  refine FB 0 (a:=a) J J a.one J J J (show j<c.length by omega) (by decide) J J ?_;refine rn ?_;(repeat(first|intro(v:Value)|intro(o:O1 _)|intro h));refine aS ⟨n-(j+1),aK v 67 ((xs++[a])++List.replicate (n-(j+1)) (⟨.slice none 0 0,rfl⟩:Sv))::b (xs++[a])::M,U,?_,j+1,xs++[a],U,by rw[bo,hx];rfl,rfl,av (aQ U) rfl,rfl⟩;rw[<-f];exact rP
 ·obtain rfl:j=n:=U;rw[yn,CS,ck];refine rn ?_;(repeat(first|intro(o:O1 _)|intro h));refine fr ?_;exact⟨_,rP,xs,hx,o,rfl⟩
theorem Rp(F:FuncId)(fs:List Value)(b:List aV->aa)(n:Nat)(t:n<=1000)(M:List aa)(l:∀(xs:Array Value) (w:World),(callFunc F xs).run prog w=.ok (.enter F xs) w)
  (g:∀(xs:List aV) (M:List aa),xs.length<n->Fn prog F (fs++[Value.int .i64 (xs.length:Nat)]).toArray (b xs::M) λv L'=>∃a:aV,v=.agg (mB a.p a.u1 a.u2).toArray/\L'=b (xs++[a])::M):
  Fn prog 155 #[.int .i64 n,.func (.func F) fs.toArray #[]] (b []::M) λv L'=>∃xs:List aV,xs.length=n/\O1 v/\L'=aK v 65 xs::b xs::M:=by
 refine fo func155 ntmps155 ?_;refine rn ?_;(repeat(first|intro(v:Value)|intro(o:O1 _)|intro h));refine bm [11] (λz vs L'=>∃(j:Nat) (xs:List aV),j<=n/\xs.length=j/\z=n-j/\vs=[.int .i64 j]/\L'=aK v 65 (xs++List.replicate (n-j) (⟨jG.zero,.slice none 0 0,.slice none 0 0,rfl,rfl⟩:aV))::b xs::M) n ⟨0,[],U,rfl,rfl,rfl,rfl⟩ ?_;rintro z vs p m ⟨j,xs,r,hx,rfl,rfl,rfl⟩;refine bp [1,5,10,11] rG (λq=>?_);have i:(xs++List.replicate (n-j) (⟨jG.zero,.slice none 0 0,.slice none 0 0,rfl,rfl⟩:aV)).length=n:=by rw[bo,ju];omega
 have s:([]++List.replicate n (⟨jG.zero,.slice none 0 0,.slice none 0 0,rfl,rfl⟩:aV):List aV).length=n:=by simp
 by_cases k:j<n
 ·have d:=λM=>g xs M U;rw[hx]at d;have f:=λa:aV=>DC xs (⟨jG.zero,.slice none 0 0,.slice none 0 0,rfl,rfl⟩:aV) a hx k;obtain⟨c,e⟩:∃c,c=xs++List.replicate (n-j) (⟨jG.zero,.slice none 0 0,.slice none 0 0,rfl,rfl⟩:aV):=⟨_,rfl⟩;rw[<-e]at f i;rw[<-e];refine rn ?_;(repeat(first|intro(v:Value)|intro(o:O1 _)|intro h));refine rq [1] (xs:=[.tmp 17]) (fs:=fs) (vs:=[.int .i64 j]) J J l rE J (d _) ?_;rintro _ _ ⟨a,rfl,rfl⟩;refine cb (L':=aK v 65 c::b (xs++[a])::M) ?_ rP
  (repeat' (first|(refine r1 ?_;(repeat(first|intro(v:Value)|intro(o:O1 _)|intro h)))|(refine fx J (λh=>?_) (λh=>?_)<;>try(exfalso;omega))|(apply fw;refine fH J J J (λh=>?_) (λh=>?_)<;>try(exfalso;omega))))
  refine zU 0 (a:=a) J J J J J (show j<c.length by omega) J ?_;refine rn ?_;(repeat(first|intro(v:Value)|intro(o:O1 _)|intro h));refine aS ⟨n-(j+1),aK v 65 ((xs++[a])++List.replicate (n-(j+1)) (⟨jG.zero,.slice none 0 0,.slice none 0 0,rfl,rfl⟩:aV))::b (xs++[a])::M,U,?_,j+1,xs++[a],U,by rw[bo,hx];rfl,rfl,av (aQ U) rfl,rfl⟩;rw[<-f];exact rP
 ·obtain rfl:j=n:=U;rw[yn,CS,ck];refine rn ?_;(repeat(first|intro(o:O1 _)|intro h));refine fr ?_;exact⟨_,rP,xs,hx,o,rfl⟩
end
end
section
theorem Bq(c:aj)(i j:Nat)(v:Int)(hi:i<5):(c.set i v).get j=if i=j then v else c.get j:=by
 match i,hi with
 |0,_=>match j with|0|1|2|3|4=>rfl|j+5=>rfl
 |1,_=>match j with|0|1|2|3|4=>rfl|j+5=>rfl
 |2,_=>match j with|0|1|2|3|4=>rfl|j+5=>rfl
 |3,_=>match j with|0|1|2|3|4=>rfl|j+5=>rfl
 |4,_=>match j with|0|1|2|3|4=>rfl|j+5=>rfl
def oq:aj->List Ev->Prop
 |_,[]=>True
 |c,e::l=>e.n=c.get e.r.toNat+1/\oq (gM c e) l
theorem J7:∀(a b:List Ev) (c:aj),oq c (a++b)↔oq c a/\oq (a.foldl gM c) b
 |[],b,c=>⟨λh=>⟨trivial,h⟩,λh=>h.2⟩
 |e::a,b,c=>by show _/\oq _ (a++b)↔(_/\oq _ a)/\oq _ b;rw[J7 a b,BH];rfl
def lH(a:List Ev):Prop:=oq aj.zero a
theorem lH.app{a b:List Ev}:lH (a++b)↔lH a/\oq (cr a) b:=J7 a b _
theorem Wi(a b:List Ev):cr (a++b)=b.foldl gM (cr a):=by unfold cr;rw[js]
theorem wq(c:aj)(e:Ev)(h:0<=e.r/\e.r<5)(j:Nat):(gM c e).get j=if e.r.toNat=j then c.get j+1 else c.get j:=by
 unfold gM;rw[Bq _ _ _ _ U];split
 ·rename_i h;rw[h]
 ·rfl
theorem LI{c:aj}{e:Ev}(h:e.n=c.get e.r.toNat+1):gM c e=c.set e.r.toNat e.n:=by unfold gM;rw[h]
theorem KS(i:Nat):∀(l:List Ev) (c:aj),(∀e∈l,0<=e.r/\e.r<5)->(∀e∈l,e.r.toNat≠i)->(l.foldl gM c).get i=c.get i
 |[],c,_,_=>rfl
 |e::l,c,h,hn=>by rw[qa,KS i l _ (λx hx=>h x (eu _ hx)) (λx hx=>hn x (eu _ hx)),wq c e (h e (fP ..)),ai (hn e (fP ..))]
theorem NJ(c:aj)(l:List Ev):fG l->oq c (drain c l).1/\(drain c l).2.2=(drain c l).1.foldl gM c:=by
 refine xu (motive:=λc l=>fG l->oq c (drain c l).1/\(drain c l).2.2=(drain c l).1.foldl gM c) (λc l h _=>?_) (λc l i hi h g hd=>?_) c l
 ·rw[oZ h];exact⟨trivial,rfl⟩
 ·rw[qL hd hi h];have f:=h.2.1;have e:(l[i]'hi).n=c.get (l[i]'hi).r.toNat+1:=by have:=f.2.2.2.1;omega
  have d:=LI e;obtain⟨a,b⟩:=g (hd.erase i);rw[<-d]at a b;rw[<-d];exact⟨⟨e,a⟩,b⟩
theorem oK{motive:List Ev->Prop}(h0:motive [])(hs:∀l e,motive l->motive (l++[e]))(l:List Ev):motive l:=by
 have a:∀m:List Ev,motive m.reverse:=by
  intro m
  induction m with
  |nil=>exact h0
  |cons e m ih=>rw[List.reverse_cons];exact hs _ _ ih
 have:=a l.reverse;rwa[List.reverse_reverse]at this
theorem GC(q r sent:Int)(v:0<=r/\r<5)(hs:0<=sent):∀(a:List Ev),lH a->(∀e∈a,0<=e.r/\e.r<5)->(cr a).get r.toNat-sent<=q->0<=q->
  ((ie q r sent a).length:Int)=max 0 ((cr a).get r.toNat-sent)/\∀e∈ie q r sent a,e∈a/\e.r=r:=by
 intro a
 induction a using oK with
 |h0=>
  intro _ _ _ _;refine⟨?_,λe k=>by simp[ie]at k⟩;have:(cr []).get r.toNat=0:=nT _;rw[this];simp[ie];omega
 |hs l e ih=>
  intro n g c t;obtain⟨o,p⟩:=lH.app.1 n;have s:e.n=(cr l).get e.r.toNat+1:=p.1;have m:=g e (by simp);have j:=wq (cr l) e m r.toNat;rw[qv]at c⊢
  rw[j]at c⊢
  have h0:=(Bg l (λx hx=>g x (by simp[hx])) r.toNat U).1;obtain⟨u,b⟩:=ih o (λx hx=>g x (by simp[hx])) (by split at c<;>omega) t;rw[DX];unfold mK;by_cases d:e.r=r
  ·have f:e.r.toNat=r.toNat:=by rw[d]
   rw[an f]at c⊢
   rw[f]at s;by_cases i:sent<e.n
   ·rw[an ⟨d,i⟩];unfold gP;rw[ai U,an U];simp only[bo,oV];refine⟨U,λx hx=>?_⟩;rcases ct.1 hx with hx|hx
    ·exact⟨by simp[(b x hx).1],(b x hx).2⟩
    ·simp at hx;subst hx;exact⟨by simp,d⟩
   ·rw[ai (λh=>i h.2)];exact⟨U,λx hx=>⟨by simp[(b x hx).1],(b x hx).2⟩⟩
  ·have f:¬e.r.toNat=r.toNat:=U;rw[ai f]at c⊢
   rw[ai (λh=>d h.1)];exact⟨u,λx hx=>⟨by simp[(b x hx).1],(b x hx).2⟩⟩
structure lz(k:Nat)(c:aJ)(r:Int)(aE:List aF)(tail:List UInt8):Prop where
 rm:∀x∈aE,x.aW
 tl:iS tail=none
 size:(cO aE).length+tail.length<=500000*k
 lN:(replay aE).1.length<=50*k
 iZ:∀e∈(replay aE).1,e.aW
 num:lH (replay aE).1
 ia:0<=(replay aE).2/\(replay aE).2<=(cr (replay aE).1).get r.toNat/\(cr (replay aE).1).get r.toNat-(replay aE).2<=c.q
structure cy(k:Nat)(c:aJ)(r:Int)(st:aG):Prop where
 cm:c.aW
 rg:0<=r/\r<c.n
 dK:lz k c r st.aE st.tail
 up:st.up=true->st.tail=[]/\replay st.aE=(st.log,st.sent)
 aT:st.up=true->st.aT=cr st.log
 held:st.up=true->(st.held.length:Int)<=c.h/\∀e∈st.held,e.aW/\e.r≠r/\e.r<c.n
 wait:st.up=true->iV st.sent st.wait/\(st.wait.length:Int)=st.aT.get r.toNat-st.sent/\∀e∈st.wait,e.aW/\e.r=r
theorem Ev.aW.r5{l:List Ev}(h:∀e∈l,e.aW):∀e∈l,0<=e.r/\e.r<5:=λe a=>(h e a).r
theorem cy.r5(g:cy k c r st):0<=r/\r<5:=by have a:=g.rg;have b:=g.cm.n;omega
theorem cy.ok(g:cy k c r st)(n:k<=200):eO k c r st:=by
 have m:=g.r5;have hd:=g.dK;have b:=Bg (replay st.aE).1 (Ev.aW.r5 hd.iZ);have o:=b r.toNat U;have d:=hd.lN;refine⟨g.cm,g.rg,hd.rm,hd.tl,hd.size,hd.lN,hd.iZ,⟨hd.ia.1,by have:=hd.ia.2.1;omega⟩,g.up,λa i hi=>?_,λa=>⟨(g.held a).1,λe l=>((g.held a).2 e l).1⟩,λa=>?_⟩
 ·have:=b i hi;rw[(g.up a).2]at this d;simp only at this d;rw[g.aT a];omega
 ·obtain⟨f,h,j⟩:=g.wait a;refine⟨f,?_,j⟩;have:=hd.ia.2.2;rw[(g.up a).2]at this;simp only at this;rw[g.aT a]at h;omega
theorem lz.mono{k':Nat}(d:lz k c r aq q)(h:k<=k'):lz k' c r aq q:=
 ⟨d.rm,d.tl,by have:=d.size;omega,by have:=d.lN;omega,d.iZ,d.num,d.ia⟩
theorem cy.mono{k k':Nat}{c:aJ}{r:Int}{st:aG}(g:cy k c r st)(h:k<=k'):cy k' c r st:=⟨g.cm,g.rg,g.dK.mono h,g.up,g.aT,g.held,g.wait⟩
theorem cy.down(b:c.aW)(e:0<=r/\r<c.n)(d:lz k c r st.aE st.tail)(h:st.up=false):cy k c r st:=
 ⟨b,e,d,(λa=>by rw[h]at a;cases a),(λa=>by rw[h]at a;cases a),(λa=>by rw[h]at a;cases a),(λa=>by rw[h]at a;cases a)⟩
theorem cy.db{k:Nat}{c:aJ}{r:Int}{st:aG}(g:cy k c r st):cy k c r st.db:=cy.down (st:=st.db) g.cm g.rg g.dK rfl
theorem cy.cut{k:Nat}{c:aJ}{r:Int}{st:aG}(g:cy k c r st)(keep:Int):cy k c r (st.cut keep):=⟨g.cm,g.rg,g.dK,g.up,g.aT,g.held,g.wait⟩
theorem cy.start{k:Nat}{c:aJ}{r:Int}{st:aG}(g:cy k c r st):cy k c r (st.start c r).1:=by
 unfold aG.start;split
 ·exact g
 ·have d:=g.r5;have hd:=g.dK;have h:=hd.size;have f:=g.cm.q;obtain⟨i,b⟩:=GC c.q r (replay st.aE).2 d hd.ia.1 _ hd.num (Ev.aW.r5 hd.iZ) hd.ia.2.2 U;refine⟨g.cm,g.rg,⟨hd.rm,JS,by simp only[jx];omega,hd.lN,hd.iZ,hd.num,hd.ia⟩,λ_=>⟨rfl,rfl⟩,λ_=>rfl,λ_=>⟨by have:=g.cm.h;simp only[jx];omega,λe a=>by cases a⟩,λ_=>⟨(HN ..).1,?_,λe a=>⟨hd.iZ e (b e a).1,(b e a).2⟩⟩⟩;have:=hd.ia.2.1;simp only;omega
theorem lz.app{x:aF}(d:lz k c r aq q)(hx:x.aW)(b:(iM (replay aq) x).1.length<=50*(k+1))(a:∀e∈(iM (replay aq) x).1,e.aW)(f:lH (iM (replay aq) x).1)
  (g:0<=(iM (replay aq) x).2/\(iM (replay aq) x).2<=(cr (iM (replay aq) x).1).get r.toNat/\(cr (iM (replay aq) x).1).get r.toNat-(iM (replay aq) x).2<=c.q):lz (k+1) c r (aq++[x]) []:=by
 have h:=(x.lR hx).2;have i:=hx.m;have j:=d.size;refine⟨λy hy=>?_,JS,?_,by rw[iR];exact b,by rw[iR];exact a,by rw[iR];exact f,by rw[iR];exact g⟩
 ·rcases ct.1 hy with hy|hy
  ·exact d.rm y hy
  ·simp at hy;subst hy;exact hx
 ·rw[sh,bo];have:(cO [x]).length=x.bytes.length:=by simp[cO]
  simp only[jx];omega
theorem lz.EI{x:aF}(d:lz k c r aq q)(hx:x.aW){m:Nat}(e:m<x.bytes.length):lz (k+1) c r aq (x.bytes.take m):=by
 have a:=(x.lR hx).2;have f:=hx.m;have g:=d.size;have b:(x.bytes.take m).length=m:=by rw[dy];omega
 refine⟨d.rm,Kd x hx _ (x.bytes.drop m) (mi ..).symm ?_,U,by have:=d.lN;omega,d.iZ,d.num,d.ia⟩;intro h;have:=cn List.length h;rw[ew]at this;simp at this;omega
theorem cy.write{k:Nat}{c:aJ}{r:Int}{st:aG}(g:cy k c r st)(x:aF)(hx:x.aW)(a:lz (k+1) c r (st.aE++[x]) []):
  lz (k+1) c r (st.write x).1.aE (st.write x).1.tail/\((st.write x).2≠0->cy (k+1) c r (st.write x).1):=by
 cases hcut:st.bE with
 |false=>
  rw[aG.sO hcut];refine⟨⟨a.rm,g.dK.tl,?_,a.lN,a.iZ,a.num,a.ia⟩,λh=>absurd rfl h⟩;have d:=(x.lR hx).2;have f:=hx.m;have i:=g.dK.size;show(cO (st.aE++[x])).length+st.tail.length<=_;rw[sh,bo];have:(cO [x]).length=x.bytes.length:=by simp[cO]
  omega
 |true=>
  rw[aG.uu hcut];simp only;split
  ·exact⟨a,λ_=>cy.down (st:={st with up:=false,bE:=false,aE:=st.aE++[x],tail:=[]}) g.cm g.rg a rfl⟩
  ·rename_i e;have b:=g.dK.EI hx (m:=jT st.keep x.bytes.length) U;exact⟨b,λ_=>cy.down (st:={st with up:=false,bE:=false,tail:=x.bytes.take (jT st.keep x.bytes.length)}) g.cm g.rg b rfl⟩
theorem mZ{x:aF}(h:(st.write x).2=0):(st.write x).1={st with aE:=st.aE++[x]}:=(st.mq x).1 h
theorem cy.edit{k:Nat}{c:aJ}{r:Int}{st:aG}(g:cy k c r st)(S:k<=198)(e:Ed):cy (k+1) c r (st.edit c r e).1:=by
 unfold aG.edit;by_cases b:st.dg c r e≠0
 ·rw[an b];exact g.mono U
 rw[ai b];have b:st.dg c r e=0:=by simpa using b
 have R:=g.ok U;have A:=g.r5;unfold aG.dg at b;split at b
 ·cases b
 rename_i M;have d:st.up=true:=by cases h:st.up with
  |true=>rfl
  |false=>exact absurd h M
 split at b
 ·rename_i h;exact absurd b h
 rename_i j;have j:kb c.l c.p (iv (cf st.log)) e=0:=by simpa using j
 split at b
 ·cases b
 rename_i V;split at b
 ·cases b
 rename_i W;have L:st.aT.get r.toNat<1048576:=U;have I:lq st.log st.aT<=16777216:=U;have i:=aG.Aj R U d (Ce j) L I;obtain⟨a,m⟩:∃a,a=st.dm r e:=⟨_,rfl⟩;have n:a.r=r:=by rw[m];rfl
 have F:a.n=st.aT.get r.toNat+1:=by rw[m];rfl
 rw[<-m]at i⊢
 have hx:(bw 1 r [a]).aW:=pb (.inl ⟨rfl,rfl⟩) A (by simp) (by intro y hy;simp at hy;subst hy;exact i);have v:=(g.up d).2;have l:=g.aT d;have w:iM (replay st.aE) (bw 1 r [a])=(st.log++[a],st.sent):=by rw[v];rfl
 have hd:=g.dK;have u:=hd.lN;have p:=hd.iZ;have o:=hd.num;have q:=hd.ia;rw[v]at u p o q;simp only at u p o q;have t:cr (st.log++[a])=st.aT.set r.toNat (st.aT.get r.toNat+1):=by rw[qv,<-l];unfold gM;rw[n]
 have H:(cr (st.log++[a])).get r.toNat=st.aT.get r.toNat+1:=by rw[t,Bq _ _ _ _ U,an rfl]
 obtain⟨P,c7,Q⟩:=g.wait d;rw[<-l]at q;have x:lz (k+1) c r (st.aE++[bw 1 r [a]]) []:=by
  refine hd.app hx ?_ ?_ ?_ ?_<;>rw[w]<;>simp only
  ·rw[bo,oV];omega
  ·intro y hy;rcases ct.1 hy with hy|hy
   ·exact p y hy
   ·simp at hy;subst hy;exact i
  ·refine lH.app.2 ⟨o,?_,trivial⟩;rw[<-l,n];exact F
  ·rw[H];omega
 obtain⟨s,z⟩:=g.write _ hx x;by_cases f:(st.write (bw 1 r [a])).2≠0
 ·rw[an f];exact z f
 rw[ai f];have f:(st.write (bw 1 r [a])).2=0:=by simpa using f
 rw[mZ f]at s⊢
 have C:(gP c.q st.sent st.wait a).2=st.wait++[a]:=by unfold gP;rw[ai U,an U]
 refine⟨g.cm,g.rg,s,λ_=>⟨(g.up d).1,by show replay (st.aE++[bw 1 r [a]])=_;rw[iR,w]⟩,λ_=>t.symm,λ_=>g.held d,λ_=>?_⟩;show iV st.sent (gP c.q st.sent st.wait a).2/\((gP c.q st.sent st.wait a).2.length:Int)=(st.aT.set r.toNat (st.aT.get r.toNat+1)).get r.toNat-st.sent/\∀e∈(gP c.q st.sent st.wait a).2,e.aW/\e.r=r;rw[C,Bq _ _ _ _ U,an rfl,bo,oV];refine⟨P.snoc U,U,λy hy=>?_⟩;rcases ct.1 hy with hy|hy
 ·exact Q y hy
 ·simp at hy;subst hy;exact⟨i,n⟩
theorem AI{s:Int}{l:List Ev}(a:b=3/\l=[]\/b=4)(f:0<=r/\r<5)(g:0<=s/\s<=1048576)(c:l.length<=4096)(d:∀e∈l,e.aW):(⟨b,r,s,aj.zero,l⟩:aF).aW:=by
 refine⟨by show 1<=b/\b<=6;omega,f,g,c,λi hi=>?_,λh=>?_,λ_=>rfl,λh=>?_,d,λh=>?_⟩
 ·show 0<=aj.zero.get i/\aj.zero.get i<=1048576;rw[nT];omega
 ·exfalso;apply h;show b=3\/b=4;omega
 ·rcases a with⟨_,rfl⟩|a
  ·rfl
  ·exfalso;apply h;show b=1\/b=2\/b=5\/b=4;omega
 ·have:b=1:=h;omega
theorem cy.state{k:Nat}{c:aJ}{r:Int}{st:aG}(g:cy k c r st)(v:k<=198):cy (k+1) c r (st.state r).1:=by
 unfold aG.state;split
 ·exact g.mono U
 rename_i s;have f:st.up=true:=by cases h:st.up with
  |true=>rfl
  |false=>exact absurd h s
 split
 ·exact g.mono U
 rename_i u;have t:=g.ok U;have o:=g.r5;have q:=t.sent f;have p:=(g.up f).2;have hd:=g.dK;have j:=hd.lN;have b:=hd.iZ;have d:=hd.num;have e:=hd.ia;rw[p]at j b d e;simp only at j b d e;have hx:(⟨4,r,st.sent,aj.zero,st.log⟩:aF).aW:=AI (.inr rfl) o q U b;have l:iM (replay st.aE) ⟨4,r,st.sent,aj.zero,st.log⟩=(st.log,st.sent):=rfl;have m:lz (k+1) c r (st.aE++[⟨4,r,st.sent,aj.zero,st.log⟩]) []:=by
  refine hd.app hx ?_ ?_ ?_ ?_<;>rw[l]<;>simp only
  ·omega
  ·exact b
  ·exact d
  ·exact e
 obtain⟨i,n⟩:=g.write _ hx m;by_cases a:(st.write ⟨4,r,st.sent,aj.zero,st.log⟩).2≠0
 ·rw[an a];exact n a
 rw[ai a];have a:(st.write ⟨4,r,st.sent,aj.zero,st.log⟩).2=0:=by simpa using a
 simp only;rw[mZ a]at i⊢
 exact⟨g.cm,g.rg,i,λ_=>⟨(g.up f).1,by show replay (st.aE++[_])=_;rw[iR,l]⟩,g.aT,g.held,g.wait⟩
theorem cy.iD{k:Nat}{c:aJ}{r:Int}{st:aG}(g:cy k c r st)(H:k<=198)(a:st.up=true)(u:Int):cy (k+1) c r (st.iD r u).1:=by
 unfold aG.iD;simp only;obtain⟨s,z⟩:∃s,s=max st.sent (min u (st.aT.get r.toNat)):=⟨_,rfl⟩;rw[<-z];by_cases o:s=st.sent
 ·rw[an o];exact g.mono U
 rw[ai o];have t:=g.ok U;have x:=g.r5;have I:=t.sent a;have F:=t.cP U a r.toNat U;have n:=(g.up a).2;have j:=g.aT a;have hd:=g.dK;have m:=hd.lN;have f:=hd.iZ;have d:=hd.num;have h:=hd.ia;rw[n]at m f d h;simp only at m f d h;rw[<-j]at h;obtain⟨A,L,C⟩:=g.wait a;have hx:(⟨3,r,s,aj.zero,[]⟩:aF).aW:=AI (.inl ⟨rfl,rfl⟩) x U (by simp) (by simp);have q:iM (replay st.aE) ⟨3,r,s,aj.zero,[]⟩=(st.log,s):=by rw[n];rfl
 have v:lz (k+1) c r (st.aE++[⟨3,r,s,aj.zero,[]⟩]) []:=by
  refine hd.app hx ?_ ?_ ?_ ?_<;>rw[q]<;>simp only
  ·omega
  ·exact f
  ·exact d
  ·rw[<-j];omega
 obtain⟨i,w⟩:=g.write _ hx v;by_cases b:(st.write ⟨3,r,s,aj.zero,[]⟩).2≠0
 ·rw[an b];exact w b
 rw[ai b];have b:(st.write ⟨3,r,s,aj.zero,[]⟩).2=0:=by simpa using b
 simp only;rw[mZ b]at i⊢
 have p:fC st.sent st.wait s=s:=by unfold fC;omega
 refine⟨g.cm,g.rg,i,λ_=>⟨(g.up a).1,?_⟩,g.aT,g.held,λ_=>?_⟩
 ·show replay (st.aE++[_])=(st.log,fC st.sent st.wait s);rw[iR,q,p]
 ·show iV (fC st.sent st.wait s) (st.wait.drop (fC st.sent st.wait s-st.sent).toNat)/\((st.wait.drop (fC st.sent st.wait s-st.sent).toNat).length:Int)=st.aT.get r.toNat-fC st.sent st.wait s/\∀e∈st.wait.drop (fC st.sent st.wait s-st.sent).toNat,e.aW/\e.r=r;rw[p];have l:=A.drop (s-st.sent).toNat U;rw[show st.sent+(((s-st.sent).toNat:Nat):Int)=s by omega]at l;exact⟨l,by rw[ew];omega,λe y=>C e (py y)⟩
theorem yD(c:aj)(a:List Ev):(∀e∈(fJ c a).1,e∈a)/\(∀e∈(fJ c a).2.1,e∈a)/\(fJ c a).1.length+(fJ c a).2.1.length<=a.length/\oq c (fJ c a).1/\(fJ c a).2.2=(fJ c a).1.foldl gM c:=by rw[Bt];have hd:fG (cK c a):=qE c _ [] List.Pairwise.nil;have d:=BD c _ hd;have f:=rT c a;exact⟨λe b=>xN c a e (II c _ hd e b),λe b=>xN c a e ((QX c _ hd).subset b),U,(NJ c _ hd).1,(NJ c _ hd).2⟩
theorem cy.events(g:cy k c r st)(hk:k<=198)(d:st.up=true){l:List Ev}(d8:l.length<=20)(c7:∀e∈l,e.aW/\e.r≠r/\e.r<c.n):cy (k+1) c r (st.jt c r l).1:=by
 unfold aG.jt;obtain⟨m1,t,u,v,f⟩:=yD st.aT (st.held++l);obtain⟨d6,W⟩:=g.held d;have m:∀e∈st.held++l,e.aW/\e.r≠r/\e.r<c.n:=λe a=>(ct.1 a).elim (W e) (c7 e);have c9:=g.cm.h;rw[bo]at u;obtain⟨⟨D,R,C⟩,V⟩:∃q,fJ st.aT (st.held++l)=q:=⟨_,rfl⟩;rw[V]at m1 t u v f⊢
 simp only at m1 t u v f⊢
 by_cases i:c.h<R.length
 ·rw[an i];exact g.mono U
 rw[ai i];have A:(R.length:Int)<=c.h/\∀e∈R,e.aW/\e.r≠r/\e.r<c.n:=⟨U,λe a=>m e (t e a)⟩;have j:∀e∈D,e.aW:=λe a=>(m e (m1 e a)).1;have x:=Ev.aW.r5 j;have Q:=g.r5;have n:=g.aT d;have hw:=g.wait d;have I:=(g.up d).2;have hd:=g.dK;have F:=hd.lN;have p:=hd.iZ;have o:=hd.num;have s:=hd.ia;rw[I]at F p o s;simp only at F p o s;have H:C.get r.toNat=st.aT.get r.toNat:=by rw[f];refine KS _ _ _ x (λe a=>?_);have i:=(m e (m1 e a)).2.1;have h:=x e a;omega
 by_cases h:D=[]
 ·rw[an h];subst h;have S:C=st.aT:=f;subst S;exact⟨g.cm,g.rg,g.dK.mono U,g.up,g.aT,λ_=>A,g.wait⟩
 rw[ai h];have hx:(bw 2 r D).aW:=pb (.inr (.inl rfl)) Q U j;have L:iM (replay st.aE) (bw 2 r D)=(st.log++D,st.sent):=by rw[I];rfl
 have z:cr (st.log++D)=C:=by rw[Wi,<-n,f]
 have M:lz (k+1) c r (st.aE++[bw 2 r D]) []:=by
  refine hd.app hx ?_ ?_ ?_ ?_<;>rw[L]<;>simp only
  ·rw[bo];omega
  ·intro y hy;rcases ct.1 hy with hy|hy
   ·exact p y hy
   ·exact j y hy
  ·exact lH.app.2 ⟨o,by rw[<-n];exact v⟩
  ·rw[z,H,n];exact s
 obtain⟨w,P⟩:=g.write _ hx M;by_cases b:(st.write (bw 2 r D)).2≠0
 ·rw[an b];exact P b
 rw[ai b];have b:(st.write (bw 2 r D)).2=0:=by simpa using b
 simp only;rw[mZ b]at w⊢
 refine⟨g.cm,g.rg,w,λ_=>⟨(g.up d).1,by show replay (st.aE++[_])=_;rw[iR,L]⟩,λ_=>z.symm,λ_=>A,λ_=>?_⟩;show iV st.sent st.wait/\(st.wait.length:Int)=C.get r.toNat-st.sent/\_;rw[H];exact hw
theorem cy.take(g:cy k c r st)(b:k<=198){f:aF×Int}(m:f.2=0->f.1.cM):cy (k+1) c r (st.dw c r f).1:=by
 unfold aG.dw;split
 ·exact g.mono U
 rename_i o;have i:st.up=true:=by cases h:st.up with
  |true=>rfl
  |false=>exact absurd h o
 split
 ·exact g.mono U
 rename_i j;have d:=m (by simpa using j);split
 ·exact g.mono U
 split
 ·exact g.mono U
 rename_i l;split
 ·exact g.iD b i _
 split
 ·refine g.events b i d.m λe a=>?_;have n:¬(e.r=r\/c.n<=e.r):=λh=>l (eR.2 ⟨e,a,by simpa using h⟩);exact⟨d.l e a,λh=>n (.inl h),U⟩
 ·exact g.mono U
theorem cy.fresh{c:aJ}{r:Int}(a:c.aW)(d:0<=r/\r<c.n):cy 0 c r aG.fresh:=by have f:(cr (replay aG.fresh.aE).1).get r.toNat=0:=nT _;have g:=a.q;refine cy.down (st:=aG.fresh) a d ⟨(λx hx=>by cases hx),rfl,bj _,bj _,(λe b=>by cases b),trivial,?_⟩ rfl;rw[f];refine⟨eH _,eH _,?_⟩;show(0:Int)-0<=c.q;omega
end
def sC:=@lH.app
def Ah:=@Ev.aW.r5
end Go.Proofs.YtogcfijlhpaeeaaGreat
