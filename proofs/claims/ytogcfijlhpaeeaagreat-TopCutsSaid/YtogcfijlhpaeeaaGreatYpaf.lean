/- Texts. No condition. -/
import Derived.Ground.GgzProg
import Derived.Ground.SlgmProg
import Derived.Laws.LoneSync
import Derived.Laws.NewBlocks
import Derived.Laws.Pointers
import Derived.RegionCalls
import Derived.RegionTactic
import Derived.Shelf.SlIter.Nil
import Derived.Shelf.SortM.Plain
import Derived.Shelf.SortM.SortNone
import Derived.Sort.OwnSorted
import Derived.Tactics
import Derived.Tactics2
import Derived.Test.YtogcfijlhpaeeaaGreatYpae
open Go.RowKit Go.Proofs.Tryz
set_option linter.all false
set_option maxHeartbeats 32000000
namespace Go.Proofs.YtogcfijlhpaeeaaGreat
variable{k g i sz o:Nat}{t e:TypeId}{x y:Operand}{M L':List aa}{u:Value}{w' w0:World}{β:Type}{F:aU}{R R':Value->List aa->Prop}{A0:aa}{aB:List (List UInt8)}
section
set_option maxRecDepth 20000 attribute [local irreducible] Ex aM Fn bI bJ bV fin meet ch aX bZ aP aN aI Rd aK Row ao Sub bk bP bS bN bg bR Hid bY
section
theorem SJ(k r:UInt8)(b q:List UInt8)(n u:Nat)(a:iQ b=.ok (n,u))(hd:b.drop u=k::r::q):mF b=if 1<=(k.toNat:Int)/\(k.toNat:Int)<=5 then
    match (if dR k.toNat then si q else some [])with
    |none=>none
    |some l=>match (if eE k.toNat then iy q else some (0,q))with
     |none=>none
     |some (u,_)=>match (if eg k.toNat then gH 5 q else some (aj.zero,q))with
      |none=>none
      |some (c,_)=>some ⟨k.toNat,r.toNat,u,c,l⟩
   else none:=by
 unfold mF;rw[a];simp only;rw[hd];rfl
def SD(b q:List UInt8)(k r:UInt8)(e:Value)(M:List aa)(d c:Bool)(y:aF)(u f:Value)(a:List aa):Prop:=
 (d=false/\mF b=none/\u=.slice none 0 0/\a=M)\/
 (d=true/\c=false/\mF b=some y/\a=aL u y.l::M)\/
 (d=true/\c=true/\y=⟨k.toNat,r.toNat,0,aj.zero,[]⟩/\u=.slice none 0 0/\f=e/\a=M/\mF b=match gH 5 q with|none=>none|some (c,_)=>some ⟨k.toNat,r.toNat,0,c,[]⟩)
theorem UC(v0:Value)(b:List UInt8)(M:List aa)(hr:aI M v0 b)(o0:O1 v0)(hb:b.length<=1000000000):Fn prog 195 #[v0] M λr L'=>Hj r (mF b) M L':=by
 refine fo func195 ntmps195 ?_;refine rn ?_;(repeat(first|intro(g:Nat)|intro(v:Value)|intro(o:O1 _)|intro(cs:List Value)|intro(j:_=List.set _ _ _)|intro(zs:List _)|intro h));refine bc [] J call247 J J (wX _ b _ rD hb) ?_;rintro _ _ ⟨rfl,rfl⟩;have W:=th b 0 0;cases hv:iQ b with
 |error e=>
  have d8:vT 0 0 b=.error e:=hv;rw[d8]at W;have he:e=2\/e=3:=W;have m:mF b=none:=by unfold mF;rw[hv]
  rw[m];unfold oB;simp only;refine rn ?_;(repeat(first|intro(g:Nat)|intro(v:Value)|intro(o:O1 _)|intro(cs:List Value)|intro(j:_=List.set _ _ _)|intro(zs:List _)|intro h));refine fr ?_;exact⟨_,rB,.inl ⟨rfl,⟨⟨0,0,0,aj.zero,[]⟩,rfl⟩,rfl⟩⟩
 |ok nk=>
  obtain⟨n,w⟩:=nk;have d8:vT 0 0 b=.ok (n,w):=hv;rw[d8]at W;have u7:0<w/\w<=0+b.length:=W;unfold oB;simp only;have C:(b.drop w).length=b.length-w:=ew;by_cases h2:b.length-w<2
  ·have m:mF b=none:=by
    unfold mF;rw[hv];simp only;rcases p:b.drop w with _|⟨a,_|⟨c,q⟩⟩
    ·rfl
    ·rfl
    ·rw[p]at C;simp only[dL]at C;omega
   rw[m];refine rn ?_;(repeat(first|intro(g:Nat)|intro(v:Value)|intro(o:O1 _)|intro(cs:List Value)|intro(j:_=List.set _ _ _)|intro(zs:List _)|intro h));refine fr ?_;exact⟨_,rB,.inl ⟨rfl,⟨⟨0,0,0,aj.zero,[]⟩,rfl⟩,rfl⟩⟩
  obtain⟨k,r,q,p⟩:∃k r q,b.drop w=k::r::q:=by
   rcases p:b.drop w with _|⟨a,_|⟨c,q⟩⟩
   ·rw[p]at C;simp only[jx]at C;omega
   ·rw[p]at C;simp only[dL,jx]at C;omega
   ·exact⟨a,c,q,rfl⟩
  have m8:∀h:w<b.length,b[w]'h=k:=λh=>by have:=cn (λl=>l[0]?) p;simpa[gV h]using this
  have q9:∀h:w+1<b.length,b[w+1]'h=r:=λh=>by have:=cn (λl=>l[1]?) p;simpa[gV h]using this
  have f:=SJ k r b q n w hv p;have u6:q.length+2=b.length-w:=by rw[<-C,p];rfl
  refine rn ?_;(repeat(first|intro(g:Nat)|intro(v:Value)|intro(o:O1 _)|intro(cs:List Value)|intro(j:_=List.set _ _ _)|intro(zs:List _)|intro h));refine tR ?_;(repeat(first|intro(g:Nat)|intro(v:Value)|intro(o:O1 _)|intro(cs:List Value)|intro(j:_=List.set _ _ _)|intro(zs:List _)|intro h));refine rn ?_;(repeat(first|intro(g:Nat)|intro(v:Value)|intro(o:O1 _)|intro(cs:List Value)|intro(j:_=List.set _ _ _)|intro(zs:List _)|intro h));rename_i P;revert g;intro Q;rw[m8 U,q9 U];obtain⟨t,d7⟩:∃t,t=bg v0 ((w:Int)+2).toNat b.length 1:=⟨_,rfl⟩;have j7:t.oneCell'=true:=by rw[d7];exact jB o0
  have hq:aI M t q:=by
   have:aI M t (b.drop (w+2)):=by rw[d7,show((w:Int)+2).toNat=w+2 by omega];exact ni hr U rfl J
   rwa[<-mO,p]at this
  rw[<-d7];refine ca [] call177 (Gz k.toNat _) ?_;rintro _ _ ⟨rfl,rfl⟩;unfold tQ;refine aM.vH 2 [0,2,7,8,9] (λvs L'=>∃(ok c:Bool) (e u:Bool) (L:Nat) (y:aF) (F u0:Value) (I:List aa),SD b q k r t M ok c y F u0 I/\F.oneCell'=true/\vs=[u0,.pointer (some ⟨P,0,none⟩),.pointer (some ⟨Q,0,none⟩),.pointer (some ⟨L,0,none⟩),.bool ok]/\L'=ao L 278 (lI e u c)::ao Q 192 (bH y F)::ao P 192 (bH ⟨0,0,0,aj.zero,[]⟩ (.slice none 0 0))::I) ?_ ?_
  ·rintro vs gk L' ⟨ok,c,e,u,L,y,F,u0,I,(⟨rfl,m,rfl,rfl⟩|⟨rfl,rfl,m,rfl⟩|⟨rfl,rfl,rfl,rfl,rfl,rfl,m⟩),s9,rfl,rfl⟩
   ·refine rn ?_;(repeat(first|intro(j:_=List.set _ _ _)|intro h));refine bm [9,72] (λz vs L'=>∃i:Nat,i<=5/\z=5-i/\vs=[.bool false,.int .i64 i]/\L'=ao L 278 (lI e u c)::ao Q 192 (bH y (.slice none 0 0))::ao P 192 (bH ⟨0,0,0,aj.zero,[]⟩ (.slice none 0 0))::I) 5 ⟨0,U,rfl,rfl,rfl⟩ ?_;rintro z vs g0 L1 ⟨i,hi,rfl,rfl,rfl⟩;refine bp [2,7,8,9,72] rG (λgk=>?_);by_cases V:i<5
    ·refine rn ?_;(repeat(first|intro(j:_=List.set _ _ _)|intro h));exact aS ⟨5-(i+1),_,U,rB,i+1,U,rfl,av rfl (av (aQ U) rfl),rfl⟩
    ·refine rn ?_;(repeat(first|intro(j:_=List.set _ _ _)|intro h));refine fr ?_;exact⟨_,rB,.inl ⟨m,⟨y,rfl⟩,rfl⟩⟩
   ·refine rn ?_;(repeat(first|intro(j:_=List.set _ _ _)|intro h));refine bm [9,72] (λz vs L'=>∃i:Nat,i<=5/\z=5-i/\vs=[.bool true,.int .i64 i]/\L'=ao L 278 (lI e u false)::ao Q 192 (bH y F)::ao P 192 (bH ⟨0,0,0,aj.zero,[]⟩ (.slice none 0 0))::aL F y.l::M) 5 ⟨0,U,rfl,rfl,rfl⟩ ?_;rintro z vs g0 L1 ⟨i,hi,rfl,rfl,rfl⟩;refine bp [2,7,8,9,72] rG (λgk=>?_);by_cases V:i<5
    ·refine rn ?_;(repeat(first|intro(j:_=List.set _ _ _)|intro h));exact aS ⟨5-(i+1),_,U,rB,i+1,U,rfl,av rfl (av (aQ U) rfl),rfl⟩
    ·refine rn ?_;(repeat(first|intro(j:_=List.set _ _ _)|intro h));refine fr ?_;exact⟨_,rB,.inr ⟨y,F,m,s9,rfl,rfl⟩⟩
   ·refine rn ?_;(repeat(first|intro(j:_=List.set _ _ _)|intro h));refine bm [0,9,72] (λz vs L'=>∃(i:Nat) (d:aj) (ok:Bool) (R:Value),i<=5/\z=5-i/\R.oneCell'=true/\(∃s:List UInt8,s.length<=q.length/\aI I R s/\((ok=true/\gH i q=some (d,s))\/(ok=false/\gH 5 q=none)))/\vs=[R,.bool ok,.int .i64 i]/\L'=ao L 278 (lI e u true)::ao Q 192 (bH ⟨k.toNat,r.toNat,0,d,[]⟩ (.slice none 0 0))::ao P 192 (bH ⟨0,0,0,aj.zero,[]⟩ (.slice none 0 0))::I) 5 ⟨0,aj.zero,true,_,U,rfl,j7,⟨q,bj _,hq,.inl ⟨rfl,rfl⟩⟩,rfl,rfl⟩ ?_;rintro z vs g0 L1 ⟨i,d,ok,R,hi,rfl,e8,⟨s,j5,c7,j4⟩,rfl,rfl⟩;refine bp [0,2,7,8,9,72] rG (λgk=>?_);by_cases V:i<5
    ·rcases j4 with⟨rfl,x⟩|⟨rfl,x⟩
     ·refine rn ?_;(repeat(first|intro(j:_=List.set _ _ _)|intro h));refine ca [] call251 (LV _ s _ (c7.sub rB) U) ?_;rintro _ _ (⟨A,rfl,rfl⟩|⟨n2,w2,A,j6,m9,n8,rfl,rfl⟩)
      ·have n9:gH 5 q=none:=by
        have h1:gH (i+1) q=none:=by rw[gH,x];simp only;rw[A]
        have:=Gc (i+1) (5-(i+1)) q h1;rwa[show i+1+(5-(i+1))=5 by omega]at this
       refine rn ?_;(repeat(first|intro(j:_=List.set _ _ _)|intro h));rw[AQ _ _ i _ V _ (by show 3+(i:Int).toNat*1=3+i;omega)]at j;subst j;exact aS ⟨5-(i+1),_,U,rB,i+1,_,false,_,U,rfl,jB e8,⟨s,j5,ni c7 (eM _) rfl J,.inr ⟨rfl,n9⟩⟩,av rfl (av rfl (av (aQ U) rfl)),rfl⟩
      ·have m6:gH (i+1) q=some (d.set i n2,s.drop w2):=by rw[gH,x];simp only;rw[A]
       refine rn ?_;(repeat(first|intro(j:_=List.set _ _ _)|intro h));rw[AQ _ _ i _ V _ (by show 3+(i:Int).toNat*1=3+i;omega)]at j;subst j;exact aS ⟨5-(i+1),_,U,rB,i+1,_,true,_,U,rfl,jB e8,⟨s.drop w2,by rw[ew];omega,ni c7 j6 rfl J,.inl ⟨rfl,m6⟩⟩,av rfl (av rfl (av (aQ U) rfl)),rfl⟩
     ·refine rn ?_;intros;exact aS ⟨5-(i+1),_,U,rB,i+1,d,false,R,U,rfl,e8,⟨s,j5,c7,.inr ⟨rfl,x⟩⟩,av rfl (av rfl (av (aQ U) rfl)),rfl⟩
    ·have h5:i=5:=U;subst h5;rcases j4 with⟨rfl,x⟩|⟨rfl,x⟩
     ·rw[x]at m;refine rn ?_;intros;refine fr ?_;exact⟨_,ar (cA (α:=Ev) none 80 _) rB,.inr ⟨⟨k.toNat,r.toNat,0,d,[]⟩,_,m,rfl,rfl,rfl⟩⟩
     ·rw[x]at m;refine rn ?_;intros;refine fr ?_;exact⟨_,rB,.inl ⟨m,⟨_,rfl⟩,rfl⟩⟩
  intro H;by_cases S:1<=(k.toNat:Int)/\(k.toNat:Int)<=5
  rotate_left
  ·rw[ai S]at f;rw[bd S];refine rn ?_;intros;exact H _ _ ⟨_,rB,false,_,_,_,_,⟨k.toNat,r.toNat,0,aj.zero,[]⟩,_,_,M,.inl ⟨rfl,f,rfl,rfl⟩,rfl,av rfl (av rfl (av rfl (av rfl (av rfl rfl)))),rfl⟩
  rw[an S]at f;rw[bf S];by_cases e:dR k.toNat
  ·have u:¬eE k.toNat:=by unfold eE;unfold dR at e;omega
   have c:¬eg k.toNat:=by unfold eg;unfold dR at e;omega
   rw[bf e,bd u,bd c];simp only[an e,ai u,ai c]at f;refine rn ?_;intros;refine ca [] call250 (YO _ q _ (hq.sub rB) j7 U) ?_;rintro _ _ (⟨hL,rfl,rfl⟩|⟨xl,ul,hL,r9,rfl,rfl⟩)
   ·rw[hL]at f;simp only at f;refine rn ?_;intros;exact H _ _ ⟨_,rB,false,_,_,_,_,⟨k.toNat,r.toNat,0,aj.zero,[]⟩,_,_,M,.inl ⟨rfl,f,rfl,rfl⟩,rfl,av rfl (av rfl (av rfl (av rfl (av rfl rfl)))),rfl⟩
   ·rw[hL]at f;simp only at f;refine rn ?_;intros;refine H _ _ ⟨_,?_,true,false,true,false,_,⟨k.toNat,r.toNat,0,aj.zero,xl⟩,ul,t,aL ul xl::M,.inr (.inl ⟨rfl,rfl,f,rfl⟩),r9,av rfl (av rfl (av rfl (av rfl (av rfl rfl)))),rfl⟩;exact cW [3,3,3] rE rB
  ·rw[bd e];simp only[ai e]at f;by_cases u:eE k.toNat
   ·have c:¬eg k.toNat:=by unfold eg;unfold eE at u;omega
    rw[bf u,bd c];simp only[an u,ai c]at f;refine rn ?_;intros;refine ca [] call251 (LV _ q _ (hq.sub rB) U) ?_;rintro _ _ (⟨A,rfl,rfl⟩|⟨n2,w2,A,j6,m9,n8,rfl,rfl⟩)
    ·rw[A]at f;simp only at f;refine rn ?_;intros;exact H _ _ ⟨_,rB,false,_,_,_,_,⟨k.toNat,r.toNat,0,aj.zero,[]⟩,_,_,M,.inl ⟨rfl,f,rfl,rfl⟩,rfl,av rfl (av rfl (av rfl (av rfl (av rfl rfl)))),rfl⟩
    ·rw[A]at f;simp only at f;refine rn ?_;intros;refine H _ _ ⟨_,?_,true,false,false,true,_,⟨k.toNat,r.toNat,n2,aj.zero,[]⟩,.slice none 0 0,t,aL (.slice none 0 0) []::M,.inr (.inl ⟨rfl,rfl,f,rfl⟩),rfl,av rfl (av rfl (av rfl (av rfl (av rfl rfl)))),rfl⟩;exact ar (bl _ (bl _ (bl _ (cA (α:=Ev) none 80 M)))) rB
   ·have c:eg k.toNat:=by unfold eg;unfold dR at e;unfold eE at u;omega
    rw[bd u,bf c];simp only[ai u,an c]at f;refine rn ?_;intros;exact H _ _ ⟨_,rB,true,true,false,false,_,⟨k.toNat,r.toNat,0,aj.zero,[]⟩,_,t,M,.inr (.inr ⟨rfl,rfl,rfl,rfl,rfl,rfl,f⟩),rfl,av rfl (av rfl (av rfl (av rfl (av rfl rfl)))),rfl⟩
end
section
theorem WX{b:List UInt8}{l:List Ev}(h:si b=some l):l.length<=255/\∀e∈l,e.ed.key.length<=8/\e.ed.value.length<=12:=by
 rcases b with _|⟨c,q⟩
 ·cases h
 ·have h:(gF c.toNat q).map Prod.fst=some l:=h;cases hr:gF c.toNat q with
  |none=>rw[hr]at h;cases h
  |some p=>obtain⟨f,g⟩:=p;rw[hr]at h;simp only[oF,iE]at h;subst h;obtain⟨d,a⟩:=E4 _ _ _ _ hr;have:=c.toNat_lt;exact⟨U,a⟩
theorem Wg{b:List UInt8}{x:aF}(h:mF b=some x):x.l.length<=255/\∀e∈x.l,e.ed.key.length<=8/\e.ed.value.length<=12:=by
 unfold mF at h;split at h
 ·cases h
 ·split at h
  ·split at h
   ·split at h
    ·cases h
    ·rename_i a;split at h
     ·cases h
     ·split at h
      ·cases h
      ·simp only[iE]at h;subst h;split at a
       ·exact WX a
       ·simp only[iE]at a;subst a;exact⟨eM _,λe c=>by cases c⟩
   ·cases h
  ·cases h
theorem LG(v0:Value)(b:List UInt8)(M:List aa)(o:aI M v0 b)(q:O1 v0)(w:b.length<=1000000000):Fn prog 135 #[v0] M
  λr L'=>((cV b).2≠0/\(∃y,r=.tuple #[.agg (bH y (.slice none 0 0)).toArray,.int .i64 (cV b).2])/\L'=M)\/((cV b).2=0/\∃u,O1 u/\r=.tuple #[.agg (bH (cV b).1 u).toArray,.int .i64 0]/\L'=aL u (cV b).1.l::M):=by
 refine fo func135 ntmps135 ?_;by_cases d:2048<b.length
 ·have a:cV b=(aF.zero,5):=by unfold cV;rw[an d]
  rw[a];refine rn ?_;intros;refine fr ?_;exact⟨_,rB,.inl ⟨by decide,⟨⟨0,0,0,aj.zero,[]⟩,rfl⟩,rfl⟩⟩
 refine rn ?_;intros;refine bc [] J call194 J J (Kn _ b _ rD U) ?_;rintro _ _ (⟨c,rfl,rfl⟩|⟨m,u,c,t,rfl,rfl⟩)
 ·have a:cV b=(aF.zero,4):=by unfold cV;rw[ai d,c]
  rw[a];refine rn ?_;intros;refine fr ?_;exact⟨_,rB,.inl ⟨by decide,⟨⟨0,0,0,aj.zero,[]⟩,rfl⟩,rfl⟩⟩
 have z:=G4 c;refine rn ?_;intros;refine bc [] J call195 J J (UC _ m _ rD t U) ?_;rintro _ _ (⟨f,⟨y,rfl⟩,rfl⟩|⟨x,k,f,j,rfl,rfl⟩)
 ·have a:cV b=(aF.zero,3):=by unfold cV;rw[ai d,c];simp only;rw[f]
  rw[a];refine rn ?_;intros;refine fr ?_;exact⟨_,rB,.inl ⟨by decide,⟨⟨0,0,0,aj.zero,[]⟩,rfl⟩,rfl⟩⟩
 obtain⟨C,p⟩:=Wg f;refine rn ?_;intros;refine bc [] J call109 J J (zy x k _ rD j U (λe n=>by have:=p e n;omega)) ?_;rintro _ _ (⟨i,rfl,rfl⟩|⟨i,v,s,rfl,rfl⟩)
 ·have a:cV b=(aF.zero,3):=by unfold cV;rw[ai d,c];simp only;rw[f];simp only;rw[ai (λh=>i h.1)]
  rw[a];refine rn ?_;intros;refine fr ?_;exact⟨_,rB,.inl ⟨by decide,⟨⟨0,0,0,aj.zero,[]⟩,rfl⟩,rfl⟩⟩
 have A:=x.pH i;refine rn ?_;intros;refine bc [] J call196 J J (LF v v0 x.bu b _ rD (o.sub rB) s q U U) ?_;rintro _ _ ⟨rfl,rfl⟩;by_cases g:x.bu=b
 ·have a:cV b=(x,0):=by unfold cV;rw[ai d,c];simp only;rw[f];simp only;rw[an ⟨i,g⟩]
  rw[a,bf g];refine rn ?_;intros;refine fr ?_;exact⟨_,rB,.inr ⟨rfl,k,j,rfl,rfl⟩⟩
 ·have a:cV b=(aF.zero,3):=by unfold cV;rw[ai d,c];simp only;rw[f];simp only;rw[ai (λh=>g h.2)]
  rw[a,bd g];refine rn ?_;intros;refine fr ?_;exact⟨_,rB,.inl ⟨by decide,⟨⟨0,0,0,aj.zero,[]⟩,rfl⟩,rfl⟩⟩
end
end
section
theorem disable(w:World):(callFunc 338 #[]).run prog w=.ok (.value (.tuple #[])) w:=run_call_mark0 func338 rQ rQ rQ .disable rQ w
theorem enable(w:World):(callFunc 340 #[]).run prog w=.ok (.value (.tuple #[])) w:=run_call_mark0 func340 rQ rQ rQ .enable rQ w
theorem acquire(a:Addr)(w:World):(callFunc 341 #[.pointer (some a)]).run prog w=.ok (.value (.tuple #[])) w:=run_call_marked func341 rQ rQ rQ .acquire rQ a w
theorem releaseMerge(a:Addr)(w:World):(callFunc 343 #[.pointer (some a)]).run prog w=.ok (.value (.tuple #[])) w:=run_call_marked func343 rQ rQ rQ .releaseMerge rQ a w
set_option maxRecDepth 100000 in
theorem Rl(a:Addr)(x:Value)(u:FrameMode)(w:World)(f:w.cell? a=some x)(h:w.frozen? a=false):
  CallsD prog 316 #[.pointer (some a),.bool true] u w λe d w'=>d=u/\(e=.returned (.tuple #[])/\w'=w.drew.setCell a (.int .u32 1)):=by
 have b:w.drew.cell? a=some x:=by go_simp
 have c:w.drew.frozen? a=false:=by go_simp
 have g:=run_call_store (P:=prog) func335 rQ rQ rQ rQ (k:=.u32) (y:=1) b c
 go_enter_d func316,ntmps316
 go_wp2
 go_region_calls
 all_goals(go_end0;exact⟨rfl,rfl⟩)
set_option maxRecDepth 100000 in
theorem QC(a:Addr)(u:FrameMode)(w:World)(b:w.cell? a=some (.int .i32 1))(c:w.frozen? a=false):
  CallsD prog 315 #[.pointer (some a)] u w λe d w'=>d=u/\(e=.returned (.tuple #[])/\w'=w.setCell a (.int .i32 0)):=by
 have hd:=disable;have h:=enable;have i:=releaseMerge;have f:=run_call_add (P:=prog) func344 rQ rQ rQ .i32 rQ (y:=-1) (s:=0) b c (by simp[go_sem];rfl);have g:=run_convert_to_unsafe (P:=prog) (src:=409) (dst:=413) underlying409 underlying413 rQ b
 go_enter_d func315,ntmps315
 go_wp2
 go_end0
 go_wp2
 first|(go_end0;exact⟨rfl,rfl⟩)|exact⟨rfl,rfl⟩|skip
set_option maxRecDepth 100000 in
theorem ZH(a:Addr)(w:World)(b:w.cell? a=some (.int .i32 0))(d:w.frozen? a=false):
  Calls prog 314 #[.pointer (some a)] w λe w'=>e=.returned (.tuple #[])/\w'=w.setCell a (.int .i32 1):=by
 have hd:=disable;have i:=enable;have f:=acquire;have g:=run_call_cas_hit (P:=prog) func339 rQ rQ rQ .i32 rQ (y:=1) b d;have c:(w.setCell a (.int .i32 1)).cell? a=some (.int .i32 1):=World.cell?_setCell_same w a _ b;have h:=run_convert_to_unsafe (P:=prog) (src:=409) (dst:=413) underlying409 underlying413 rQ c
 go_enter func314,ntmps314
 go_wp2
 first|go_end0|(simp only[Exit.inBlock,Exit.then];refine bodyPost_ret (results_none rfl _ _ _) rfl ?_)|refine bodyPost_ret (results_none rfl _ _ _) rfl ?_
 go_wp2
 first|(go_end0;exact⟨rfl,rfl⟩)|exact⟨rfl,rfl⟩|skip
set_option maxRecDepth 100000 in
theorem QD(b off:Nat)(c:Addr)(p:¬b=c.block)(j:Value)(w:World)(o:w.cell? c=some (.pointer (some ⟨b,off,none⟩)))
  (g:w.cell? ⟨b,off,none⟩=some (.int .u32 0))(l:w.cell? ⟨b,off+1,none⟩=some (.int .i32 0))(m:w.cell? ⟨b,off+3,none⟩=some j)
  (f0:w.frozen? ⟨b,off,none⟩=false)(k:w.frozen? ⟨b,off+1,none⟩=false)(s:w.frozen? ⟨b,off+3,none⟩=false):
  Calls prog 276 #[.pointer (some ⟨b,off,none⟩),.func (.func 238) #[] #[.pointer (some c)]] w λe w'=>e=.returned (.tuple #[])/\
   w'=((((w.setCell ⟨b,off+1,none⟩ (.int .i32 1)).setCell ⟨b,off+3,none⟩ (.map (some w.heap.size))).alloc (.map #[] 0)).drew.setCell ⟨b,off,none⟩ (.int .u32 1)).setCell ⟨b,off+1,none⟩ (.int .i32 0):=by
 have v:=run_call_load (P:=prog) func313 rQ rQ rQ .u32 rQ (w:=w.setCell ⟨b,off+1,none⟩ (.int .i32 1)) (a:=⟨b,off,none⟩) (x:=0) ((sZ _ ⟨b,off+1,none⟩ ⟨b,off,none⟩ _ (by simp)).trans g);have A:(w.setCell ⟨b,off+1,none⟩ (.int .i32 1)).cell? c=some (.pointer (some ⟨b,off,none⟩)):=(sZ _ ⟨b,off+1,none⟩ c _ (λh=>p (by rw[<-h]))).trans o;have n:(w.setCell ⟨b,off+1,none⟩ (.int .i32 1)).cell? ⟨b,off+3,none⟩=some j:=(sZ _ ⟨b,off+1,none⟩ ⟨b,off+3,none⟩ _ (by simp)).trans m;have z:∀(x:Bool) (w:World),(Op.unary .not (.bool x)).run prog w=.ok (.bool (!x)) w:=λ_ _=>rfl;have i:b<w.heap.size:=by
  rcases mY b w.heap.size with h|h
  ·exact h
  ·simp[World.cell?,oM h]at g
 have y:∀w:World,(Instr.makeMap 253 none).run prog w=.ok (.map (some w.heap.size)) (w.alloc (.map #[] 0)):=λw=>by simp[Instr.makeMap]
 have u:((w.setCell ⟨b,off+1,none⟩ (.int .i32 1)).alloc (.map #[] 0)).cell? ⟨b,off+3,none⟩=some j:=(World.cell?_alloc_past _ _ _ (by simpa using i)).trans n;have t:((w.setCell ⟨b,off+1,none⟩ (.int .i32 1)).alloc (.map #[] 0)).frozen? ⟨b,off+3,none⟩=false:=(World.frozen?_alloc_past _ _ _ (by simpa using i)).trans (by go_simp)
 go_enter_defers func276,ntmps276
 go_wp2_with (go_at_call 314;refine(ZH ⟨b,off+1,none⟩ _ (by go_simp) (by go_simp)).mono ?_;rintro e w' ⟨rfl,rfl⟩)
 go_wp2
 have d:b<((w.setCell ⟨b,off+1,none⟩ (.int .i32 1)).setCell ⟨b,off+3,none⟩ (.map (some w.heap.size))).heap.size:=by simpa using i
 refine leaves_cons (f:=316) (args:=#[.pointer (some ⟨b,off,none⟩),.bool true]) (by simp) (by simp[go_sem]) ?_;refine(Rl ⟨b,off,none⟩ (.int .u32 0) .returning _ ?_ ?_).mono ?_
 ·exact(World.cell?_alloc_past _ _ _ d).trans ((sZ _ ⟨b,off+3,none⟩ ⟨b,off,none⟩ _ (by simp)).trans ((sZ _ ⟨b,off+1,none⟩ ⟨b,off,none⟩ _ (by simp)).trans g))
 ·exact(World.frozen?_alloc_past _ _ _ d).trans (by simp[f0])
 rintro e q r ⟨rfl,rfl,rfl⟩;refine leaves_cons (f:=315) (args:=#[.pointer (some ⟨b,off+1,none⟩)]) (by simp[settle]) (by simp[go_sem]) ?_;refine(QC ⟨b,off+1,none⟩ _ _ ?_ ?_).mono ?_
 ·refine(sZ _ ⟨b,off,none⟩ ⟨b,off+1,none⟩ _ (by simp)).trans ?_;rw[World.cell?_drew];exact(World.cell?_alloc_past _ _ _ d).trans ((sZ _ ⟨b,off+3,none⟩ ⟨b,off+1,none⟩ _ (by simp)).trans (World.cell?_setCell_same w _ _ l))
 ·have:(((w.setCell ⟨b,off+1,none⟩ (.int .i32 1)).setCell ⟨b,off+3,none⟩ (.map (some w.heap.size))).alloc (.map #[] 0)).frozen? ⟨b,off+1,none⟩=false:=(World.frozen?_alloc_past _ _ _ d).trans (by simp[k]);simpa using this
 rintro e q r ⟨rfl,rfl,rfl⟩;simp[Leaves,settle,results,results276]
set_option maxRecDepth 100000 in
theorem QZ(b off:Nat)(a:Addr)(k:¬b=a.block)(d:Value)(w:World)(j:w.cell? a=some (.pointer (some ⟨b,off,none⟩)))
  (c:w.cell? ⟨b,off,none⟩=some (.int .u32 0))(h:w.cell? ⟨b,off+1,none⟩=some (.int .i32 0))(i:w.cell? ⟨b,off+3,none⟩=some d)
  (f0:w.frozen? ⟨b,off,none⟩=false)(f:w.frozen? ⟨b,off+1,none⟩=false)(g:w.frozen? ⟨b,off+3,none⟩=false):
  Calls prog 237 #[.pointer (some ⟨b,off,none⟩),.func (.func 238) #[] #[.pointer (some a)]] w λe w'=>e=.returned (.tuple #[])/\
   w'=((((w.setCell ⟨b,off+1,none⟩ (.int .i32 1)).setCell ⟨b,off+3,none⟩ (.map (some w.heap.size))).alloc (.map #[] 0)).drew.setCell ⟨b,off,none⟩ (.int .u32 1)).setCell ⟨b,off+1,none⟩ (.int .i32 0):=by
 have l:=run_call_load (P:=prog) func313 rQ rQ rQ .u32 rQ c;have m:∀(x:Bool) (w:World),(Op.unary .not (.bool x)).run prog w=.ok (.bool (!x)) w:=λ_ _=>rfl
 go_enter func237,ntmps237
 go_wp2_with (first|(go_at_call 276;refine(QD b off a k d _ j c h i f0 f g).mono ?_;rintro e w' ⟨rfl,rfl⟩)|(go_at_call 275;go_in))
 first|(go_end0;exact⟨rfl,rfl⟩)|exact⟨rfl,rfl⟩|skip
theorem O9(a:Addr)(d:Int)(hd:¬d=0)(b:Value)(w:World)(c:w.cell? a=some (.int .u32 d)):
  Calls prog 237 #[.pointer (some a),b] w λe w'=>e=.returned (.tuple #[])/\w'=w:=by
 have g:=run_call_load (P:=prog) func313 rQ rQ rQ .u32 rQ c;have h:∀(x:Bool) (w:World),(Op.unary .not (.bool x)).run prog w=.ok (.bool (!x)) w:=λ_ _=>rfl;have f:(d != 0)=true:=by simp[hd]
 go_enter func237,ntmps237
 go_wp2
 first|(go_end0;exact⟨rfl,rfl⟩)|exact⟨rfl,rfl⟩|skip
end
section
theorem Wr(a:Addr)(x y:Int)(w:World)(b:w.cell? a=some (.int .i64 x))(d:w.frozen? a=false)(c:IntKind.i64.wrap (x+y)=x+y):
  Calls prog 240 #[.pointer (some a),.int .i64 y] w λe w'=>e=.returned (.int .i64 (x+y))/\w'=w.setCell a (.int .i64 (x+y)):=by
 have f:=run_call_add (P:=prog) func283 rQ rQ rQ .i64 rQ (y:=y) (s:=x+y) b d (by simp[go_sem,c])
 go_enter func240,ntmps240
 go_wp2
 go_returns
 exact⟨rfl,rfl⟩
theorem Sd(g o:Nat)(t:TypeId)(cs a:List Value)(x y:Int)(M:List aa)(b:cs[o]?=some (.int .i64 x))(f:IntKind.i64.wrap (x+y)=x+y)(d:cs.set o (.int .i64 (x+y))=a):
  Fn prog 240 #[.pointer (some ⟨g,o,none⟩),.int .i64 y] (ao g t cs::M) λr L'=>L'=ao g t a::M:=λF w0 w r s=>by
 have c:o<cs.length:=(iA.1 b).1;refine(Wr ⟨g,o,none⟩ x y w (jz (i:=0) rfl b s) (wN (i:=0) rfl c s) f).mono ?_;rintro e w' ⟨rfl,rfl⟩;refine⟨_,_,rfl,Rest.setCell r _ _,?_,rfl⟩;have:=tU (i:=0) (.int .i64 (x+y)) rfl c s;rw[d]at this;exact this
@[reducible] def kS(d:Int)(s:Value)(kv:Value)(z:Int):List Value:=[.int .u32 d,.int .i32 0,s,kv,.int .i64 z]
theorem XS(g:Nat)(a s kv:Value)(z:Int)(M:List aa):Fn prog 237 #[.pointer (some ⟨g,0,none⟩),a] (ao g 269 (kS 1 s kv z)::M) λr L'=>L'=ao g 269 (kS 1 s kv z)::M:=λF w0 w r s=>by refine(O9 ⟨g,0,none⟩ 1 (by decide) a w (jz (i:=0) rfl rfl s)).mono ?_;rintro e w' ⟨rfl,rfl⟩;exact⟨_,_,rfl,r,s,rfl⟩
theorem Qw(g p:Nat)(s kv:Value)(z:Int)(t:TypeId)(M:List aa):Fn prog 237 #[.pointer (some ⟨g,0,none⟩),.func (.func 238) #[] #[.pointer (some ⟨p,0,none⟩)]] (ao p t [.pointer (some ⟨g,0,none⟩)]::ao g 269 (kS 0 s kv z)::M)
  λr L'=>∃a,L'=eX iG a []::ao p t [.pointer (some ⟨g,0,none⟩)]::ao g 269 (kS 1 s (.map (some a)) z)::M:=λF w0 w r st=>by
 have c:=jz (i:=0) (o:=0) rfl rfl st;have b:=jz (i:=1) (o:=0) rfl rfl st;have d:=jz (i:=1) (o:=1) rfl rfl st;have f:=jz (i:=1) (o:=3) rfl rfl st;have h:¬g=p:=λe=>by subst e;have:=c.symm.trans b;cases this
 refine(QZ g 0 ⟨p,0,none⟩ h kv w c b d f (wN (i:=1) rfl (by simp) st) (wN (i:=1) rfl (by simp) st) (wN (i:=1) rfl (by simp) st)).mono ?_;rintro e w' ⟨rfl,rfl⟩;have j:=tU (i:=1) (o:=1) (.int .i32 1) rfl (by simp) st;have k:=tU (i:=1) (o:=3) (.map (some w.heap.size)) rfl (by simp) j;have l:=qx (.map #[] 0) k (A:=eX iG w.heap.size ([]:List (List UInt8×Value))) (by
  have e:((w.setCell ⟨g,1,none⟩ (.int .i32 1)).setCell ⟨g,3,none⟩ (.map (some w.heap.size))).heap.size=w.heap.size:=by simp
  exact⟨#[],0,by rw[e],rfl,MapKept.stamped_empty 0⟩)
 have m:=tU (i:=2) (o:=0) (.int .u32 1) rfl (by simp) (xw l);have n:=tU (i:=2) (o:=1) (.int .i32 0) rfl (by simp) m;exact⟨_,_,rfl,r,n,w.heap.size,rfl⟩
end
section
def Ev.dq(a e:Ev):Bool:=e.c.has a.r a.n
def lP(l:List Ev)(e:Ev):Bool:=l.any λa=>decide (a.ed.kind=1)&&a.dq e
def jy(l:List Ev)(e:Ev)(k:Int)(q:Ev->Bool):List Ev:=l.filter λa=>!(decide (a.ed.kind=k)&&q a&&a.dq e)
def tY(l:List Ev):List Ev:=l.filter λa=>decide (a.ed.kind=1)||lP l a
def pd(_:Ev):Bool:=true
def wP(e a:Ev):Bool:=decide (a.ed.label=e.ed.label)
def mu(e a:Ev):Bool:=decide (a.ed.label=e.ed.label)&&decide (a.ed.value=e.ed.value)
def ga(l:List Ev)(e:Ev):List Ev:=
 if e.ed.kind=1 then l++[e]else
 if e.ed.kind=2 then tY (jy l e 1 pd)else
 if e.ed.kind=3 then(if lP l e=true then jy l e 3 (wP e)++[e]else l)else
 if e.ed.kind=5 then jy l e 4 (mu e)else
 if lP l e=true then jy l e 4 (mu e)++[e]else l
theorem um(l:List Ev)(e:Ev)(k:Int)(q:Ev->Bool):(jy l e k q).length<=l.length:=jJ ..
theorem Sg(l:List Ev):(tY l).length<=l.length:=jJ ..
theorem Kk(l:List Ev)(e:Ev):(ga l e).length<=l.length+1:=by
 have a:=um l e 1 pd;have b:=Sg (jy l e 1 pd);have c:=um l e 3 (wP e);have d:=um l e 4 (mu e);unfold ga;split
 ·simp
 ·split
  ·omega
  ·split
   ·split
    ·simp;omega
    ·omega
   ·split
    ·omega
    ·split
     ·simp;omega
     ·omega
end
section
set_option maxRecDepth 20000 attribute [local irreducible] Ex aM Fn bI bJ bV fin meet ch aX bZ aP aN aI Rd aK Row ao Sub bk bP bS bN bg bR Hid bY
section
def nq(fn:FuncId)(us:List Value)(q:Ev->Bool)(A:aa):Prop:=∀(a:Ev) (M:List aa),Fn prog fn (([]:List Value)++[Value.agg (ab.cells a).toArray]++us).toArray (A::M) λr L'=>r=.bool (q a)/\L'=A::M
theorem Pj(p:Nat)(e:Ev):nq 317 [.pointer (some ⟨p,0,none⟩)] (λa=>decide (a.ed.kind=1)&&a.dq e) (ao p 80 (ab.cells e)):=λa M=>by
 refine fo func317 ntmps317 ?_;by_cases b:a.ed.kind=1
 ·refine rn ?_;intros;refine ca [] call308 (Bm a e _) ?_;rintro _ _ ⟨rfl,rfl⟩;refine rn ?_;intros;refine fr ?_;exact⟨_,rB,by simp only[b,uH,pK];rfl,rfl⟩
 ·refine rn ?_;intros;refine fr ?_;exact⟨_,rB,by simp[b],rfl⟩
theorem YT(p:Nat)(e:Ev):nq 279 [] pd (ao p 80 (ab.cells e)):=λa M=>by refine fo func279 ntmps279 ?_;exact bh
theorem Zj(p:Nat)(e:Ev):nq 281 [.pointer (some ⟨p,0,none⟩)] (wP e) (ao p 80 (ab.cells e)):=λa M=>by refine fo func281 ntmps281 ?_;refine rn ?_;intros;refine fr ?_;exact⟨_,rB,by unfold wP;rfl,rfl⟩
theorem NH(p:Nat)(e:Ev):nq 282 [.pointer (some ⟨p,0,none⟩)] (mu e) (ao p 80 (ab.cells e)):=λa M=>by
 refine fo func282 ntmps282 ?_;by_cases b:a.ed.label=e.ed.label
 ·by_cases c:a.ed.value=e.ed.value
  ·refine rn ?_;intros;refine fr ?_;exact⟨_,rB,by unfold mu;simp[b,c],rfl⟩
  ·refine rn ?_;intros;refine fr ?_;exact⟨_,rB,by unfold mu;simp[b,c],rfl⟩
 ·refine rn ?_;intros;refine fr ?_;exact⟨_,rB,by unfold mu;simp[b],rfl⟩
theorem YE(fn:FuncId)(us:List Value)(q:Ev->Bool)(A:aa)(e:nq fn us q A)(f:∀(xs:Array Value) (w:World),(callFunc fn xs).run prog w=.ok (.enter fn xs) w)(v0:Value)(l:List Ev)(M:List aa)(p:aI (A::M) v0 l)(o:l.length<=1000000000):
  Fn prog 332 #[v0,.func (.func fn) #[] us.toArray] (A::M) λr L'=>(∃i:Int,(0<=i↔l.any q=true)/\r=.int .i64 i)/\L'=A::M:=by
 refine fo func332 ntmps332 ?_;refine rn ?_;intros;refine bm [8] (λz vs L'=>∃i:Nat,i<=l.length/\z=l.length-i/\(∀j (a:j<l.length),j<i->q (l[j]'a)=false)/\vs=[.int .i64 i]/\L'=A::M) l.length ⟨0,U,rfl,λj _ a=>by omega,rfl,rfl⟩ ?_;rintro z vs k g ⟨i,hi,rfl,c,rfl,rfl⟩;refine bp [0,1,7,8] rG (λm=>?_);by_cases b:i<l.length
 ·refine rn ?_;intros;refine iL [] (xs:=[.tmp 15]) (fs:=[]) (us:=us) (vs:=[.agg (ab.cells (l[i]'b)).toArray]) J J f rE J (e (l[i]'b) _) ?_;rintro _ _ ⟨rfl,rfl⟩;cases hqi:q (l[i]'b)with
  |true=>
   refine rn ?_;intros;refine fr ?_;exact⟨_,rB,⟨i,⟨λ_=>eR.2 ⟨_,bT b,hqi⟩,λ_=>by omega⟩,rfl⟩,rfl⟩
  |false=>
   refine rn ?_;intros;exact aS ⟨l.length-(i+1),_,U,rB,i+1,U,rfl,λj a n=>by
    rcases mY j i with h|h
    ·exact c j a h
    ·have:j=i:=U;subst this;exact hqi,av (aQ U) rfl,rfl⟩
 ·refine rn ?_;intros;refine fr ?_;refine⟨_,rB,⟨-1,⟨λh=>by omega,λh=>?_⟩,rfl⟩,rfl⟩;obtain⟨x,hx,d⟩:=eR.1 h;obtain⟨j,a,rfl⟩:=la hx;rw[c j a U]at d;cases d
theorem Ec(fn:FuncId)(us:List Value)(q:Ev->Bool)(A:aa)(b:nq fn us q A)(d:∀(xs:Array Value) (w:World),(callFunc fn xs).run prog w=.ok (.enter fn xs) w)(v0:Value)(l:List Ev)(M:List aa)(c:aI (A::M) v0 l)(a:l.length<=1000000000):
  Fn prog 306 #[v0,.func (.func fn) #[] us.toArray] (A::M) λr L'=>r=.bool (l.any q)/\L'=A::M:=by
 refine fo func306 ntmps306 ?_;refine rn ?_;intros;refine ca [] call332 (YE fn us q A b d v0 l M c a) ?_;rintro _ _ ⟨⟨i,hi,rfl⟩,rfl⟩;refine rn ?_;intros;refine fr ?_;refine⟨_,rB,?_,rfl⟩;by_cases h:l.any q=true
 ·rw[h,bf (hi.2 h)]
 ·rw[bd (λk=>h (hi.1 k))];simp only[Bool.not_eq_true]at h;rw[h]
theorem GG(v0:Value)(l:List Ev)(e:Ev)(M:List aa)(b:aI M v0 l)(a:l.length<=1000000000):Fn prog 280 #[v0,.agg (ab.cells e).toArray] M λr L'=>r=.bool (lP l e)/\L'=M:=by refine fo func280 ntmps280 ?_;refine rn ?_;(repeat(first|intro(g:Nat)|intro h));refine bc [] J call306 J J (Ec 317 [.pointer (some ⟨g,0,none⟩)] _ _ (Pj g e) call317 v0 l M rD a) ?_;rintro _ _ ⟨rfl,rfl⟩;exact bh
end
section
theorem zp(fn:FuncId)(us:List Value)(q:Ev->Bool)(A:aa)(j:nq fn us q A)(m:∀(xs:Array Value) (w:World),(callFunc fn xs).run prog w=.ok (.enter fn xs) w)(v0:Value)(l:List Ev)(e:Ev)(k:Int)(M:List aa)(y:aI M v0 l)(x:l.length<=1000000000):
  Fn prog 278 #[v0,.agg (ab.cells e).toArray,.int .i64 k,.func (.func fn) #[] us.toArray] (A::M) λr L'=>O1 r/\L'=aL r (jy l e k q)::A::M:=by
 refine fo func278 ntmps278 ?_;refine rn ?_;(repeat(first|intro(g:Nat)|intro(v:Value)|intro h));revert g;intro f;refine bF ?_ (cA (α:=Ev) none 80 _);refine bm [9,14] (λz vs L'=>∃(i:Nat) (v:Value),i<=l.length/\z=l.length-i/\v.oneCell'=true/\vs=[v,.int .i64 i]/\L'=aL v (jy (l.take i) e k q)::ao f 80 (ab.cells e)::A::M) l.length ⟨0,_,U,rfl,rfl,rfl,rfl⟩ ?_;rintro z vs s p ⟨i,v,hi,rfl,d,rfl,rfl⟩;refine bp [2,3,5,9,12,13,14] rG (λu=>?_);by_cases a:i<l.length
 ·have o:=um (l.take i) e k q;rw[dy]at o;have b:jy (l.take (i+1)) e k q=jy (l.take i) e k q++(if(!(decide ((l[i]'a).ed.kind=k)&&q (l[i]'a)&&(l[i]'a).dq e))=true then[l[i]'a]else[]):=by unfold jy;rw[da a,lD];congr 1;simp only[ot,uI]
  by_cases c:(l[i]'a).ed.kind=k
  ·refine rn ?_;(repeat(first|intro(g:Nat)|intro(v:Value)|intro h));revert g;intro t;refine iL [3] (xs:=[.tmp 24]) (fs:=[]) (us:=us) (vs:=[.agg (ab.cells (l[i]'a)).toArray]) J J m rE J (j (l[i]'a) _) ?_;rintro _ _ ⟨rfl,rfl⟩;cases hqi:q (l[i]'a)with
   |false=>
    rw[hqi]at b;simp only[uE,sb,ui,jn]at b;refine rn ?_;(repeat(first|intro(v:Value)|intro h));rw[<-b];exact aS ⟨l.length-(i+1),_,U,cW [4,4] rE rB,i+1,_,U,rfl,by assumption,av rfl (av (aQ U) rfl),rfl⟩
   |true=>
    rw[hqi,bf c]at b;refine rn ?_;(repeat(first|intro(v:Value)|intro h));refine ca [] call308 (Bm (l[i]'a) e _) ?_;rintro _ _ ⟨rfl,rfl⟩;rw[show(e.c.has (l[i]'a).r (l[i]'a).n)=(l[i]'a).dq e from rfl];cases hb:(l[i]'a).dq e with
    |false=>
     rw[hb]at b;simp only[uE,ui,jn]at b;refine rn ?_;(repeat(first|intro(v:Value)|intro h));rw[<-b];exact aS ⟨l.length-(i+1),_,U,cW [4,4] rE rB,i+1,_,U,rfl,by assumption,av rfl (av (aQ U) rfl),rfl⟩
    |true=>rw[hb]at b;simp only[qW,yv,od,oz,ck]at b;refine rn ?_;(repeat(first|intro(v:Value)|intro h));rw[<-b];exact aS ⟨l.length-(i+1),_,U,cW [3,3] rE rB,i+1,v,U,rfl,d,av rfl (av (aQ U) rfl),rfl⟩
  ·rw[bd c]at b;simp only[sb,ui,jn]at b;refine rn ?_;intros;rw[<-b];exact aS ⟨l.length-(i+1),_,U,rB,i+1,_,U,rfl,by assumption,av rfl (av (aQ U) rfl),rfl⟩
 ·obtain rfl:i=l.length:=U;rw[dI];refine rn ?_;intros;refine fr ?_;exact⟨_,rB,d,rfl⟩
theorem R0(v0:Value)(l:List Ev)(M:List aa)(p:aI M v0 l)(j:l.length<=1000000000):
  Fn prog 277 #[v0] M λr L'=>O1 r/\L'=aL r (tY l)::M:=by
 refine fo func277 ntmps277 ?_;refine rn ?_;(repeat(first|intro(v:Value)|intro h));refine bF ?_ (cA (α:=Ev) none 80 _);refine bm [3,8] (λz vs L'=>∃(i:Nat) (v:Value),i<=l.length/\z=l.length-i/\v.oneCell'=true/\vs=[v,.int .i64 i]/\L'=aL v ((l.take i).filter λa=>decide (a.ed.kind=1)||lP l a)::M) l.length ⟨0,_,U,rfl,rfl,rfl,rfl⟩ ?_;rintro z vs n m ⟨i,v,hi,rfl,f,rfl,rfl⟩;refine bp [0,3,6,7,8] rG (λo=>?_);by_cases c:i<l.length
 ·have k:((l.take i).filter λa=>decide (a.ed.kind=1)||lP l a).length<=l.length:=by have:=jJ (λa=>decide (a.ed.kind=1)||lP l a) (l.take i);rw[dy]at this;omega
  have b:(l.take (i+1)).filter (λa=>decide (a.ed.kind=1)||lP l a)=(l.take i).filter (λa=>decide (a.ed.kind=1)||lP l a)++(if(decide ((l[i]'c).ed.kind=1)||lP l (l[i]'c))=true then[l[i]'c]else[]):=by rw[da c,lD];congr 1;simp only[ot,uI]
  obtain⟨d,g⟩:∃d,d=(l.take i).filter (λa=>decide (a.ed.kind=1)||lP l a):=⟨_,rfl⟩;rw[<-g]at b k⊢
  by_cases e:(l[i]'c).ed.kind=1
  ·rw[bf e]at b;simp only[Bool.true_or,jn]at b;refine rn ?_;(repeat(first|intro(v:Value)|intro h));rw[<-b];exact aS ⟨l.length-(i+1),_,U,rB,i+1,_,U,rfl,by assumption,av rfl (av (aQ U) rfl),rfl⟩
  ·rw[bd e]at b;simp only[Dx]at b;refine rn ?_;(repeat(first|intro(v:Value)|intro h));refine bc [] J call280 J J (GG v0 l (l[i]'c) _ rD j) ?_;rintro _ _ ⟨rfl,rfl⟩;cases hc:lP l (l[i]'c)with
   |true=>
    rw[hc]at b;simp only[jn]at b;refine rn ?_;(repeat(first|intro(v:Value)|intro h));rw[<-b];exact aS ⟨l.length-(i+1),_,U,rB,i+1,_,U,rfl,by assumption,av rfl (av (aQ U) rfl),rfl⟩
   |false=>rw[hc]at b;simp only[od,oz,ck]at b;refine rn ?_;(repeat(first|intro(v:Value)|intro h));rw[<-b];exact aS ⟨l.length-(i+1),_,U,rB,i+1,v,U,rfl,f,av rfl (av (aQ U) rfl),rfl⟩
 ·obtain rfl:i=l.length:=U;rw[dI];refine rn ?_;intros;refine fr ?_;exact⟨_,rB,f,rfl⟩
end
section
theorem RP(v0:Value)(l:List Ev)(e:Ev)(M:List aa)(j:O1 v0)(t:l.length<=1000000):
  Fn prog 239 #[v0,.agg (ab.cells e).toArray] (aL v0 l::M) λr L'=>O1 r/\L'=aL r (ga l e)::M:=by
 have p:=um l e 1 pd;have q:=um l e 3 (wP e);have s:=um l e 4 (mu e);unfold ga;refine fo func239 ntmps239 ?_;by_cases c:e.ed.kind=1
 ·rw[an c];refine rn ?_;(repeat(first|intro(g:Nat)|intro(o:O1 _)|intro h));refine fr ?_;exact⟨_,cW [2] rE rB,by assumption,rfl⟩
 rw[ai c];by_cases d:e.ed.kind=2
 ·rw[an d];refine rn ?_;(repeat(first|intro(g:Nat)|intro(o:O1 _)|intro h));refine bc [] J call278 J J (zp 279 [] pd _ (YT g e) call279 v0 l e 1 _ rD U) ?_;rintro b _ ⟨a,rfl⟩;refine rn ?_;(repeat(first|intro(g:Nat)|intro(o:O1 _)|intro h));refine bc [] J call277 J J (R0 b _ _ rD U) ?_;rintro u _ ⟨n,rfl⟩;refine rn ?_;(repeat(first|intro(g:Nat)|intro(o:O1 _)|intro h));refine fr ?_;exact⟨_,rB,n,rfl⟩
 rw[ai d];by_cases f:e.ed.kind=3
 ·rw[an f];refine rn ?_;(repeat(first|intro(g:Nat)|intro(o:O1 _)|intro h));refine bc [] J call280 J J (GG v0 l e _ rD U) ?_;rintro _ _ ⟨rfl,rfl⟩;cases hc:lP l e with
  |false=>
   rw[ai (by simp)];refine rn ?_;(repeat(first|intro(g:Nat)|intro(o:O1 _)|intro h));refine fr ?_;exact⟨_,rB,j,rfl⟩
  |true=>rw[an rfl];refine rn ?_;(repeat(first|intro(g:Nat)|intro(o:O1 _)|intro h));refine pS ?_;(repeat(first|intro(g:Nat)|intro(o:O1 _)|intro h));refine bX J J J ?_;refine bc [] J call278 rE J (zp 281 [.pointer (some ⟨g,0,none⟩)] (wP e) _ (Zj g e) call281 v0 l e 3 _ rD U) ?_;rintro b _ ⟨a,rfl⟩;refine bn ?_;refine br rF ?_;refine mn ?_;(repeat(first|intro(g:Nat)|intro(o:O1 _)|intro h));refine rn ?_;(repeat(first|intro(g:Nat)|intro(o:O1 _)|intro h));refine fr ?_;exact⟨_,rB,o,rfl⟩
 rw[ai f];by_cases i:e.ed.kind=5
 ·rw[an i];refine rn ?_;(repeat(first|intro(g:Nat)|intro(o:O1 _)|intro h));refine bc [] J call278 J J (zp 282 [.pointer (some ⟨g,0,none⟩)] (mu e) _ (NH g e) call282 v0 l e 4 _ rD U) ?_;rintro b _ ⟨a,rfl⟩;refine rn ?_;(repeat(first|intro(g:Nat)|intro(o:O1 _)|intro h));refine fr ?_;exact⟨_,rB,a,rfl⟩
 rw[ai i];refine rn ?_;(repeat(first|intro(g:Nat)|intro(o:O1 _)|intro h));refine bc [] J call280 J J (GG v0 l e _ rD U) ?_;rintro _ _ ⟨rfl,rfl⟩;cases hc:lP l e with
 |false=>
  rw[ai (by simp)];refine rn ?_;(repeat(first|intro(g:Nat)|intro(o:O1 _)|intro h));refine fr ?_;exact⟨_,rB,j,rfl⟩
 |true=>rw[an rfl];refine rn ?_;(repeat(first|intro(g:Nat)|intro(o:O1 _)|intro h));refine pS ?_;(repeat(first|intro(g:Nat)|intro(o:O1 _)|intro h));have k:=λ(M:List aa) (m:aI M v0 l)=>zp 282 [.pointer (some ⟨g,0,none⟩)] (mu e) _ (NH g e) call282 v0 l e 4 M m U;refine bX J J J ?_;refine bc [] J call278 rE J (k _ rD) ?_;rintro b _ ⟨a,rfl⟩;refine bn ?_;refine br rF ?_;refine mn ?_;(repeat(first|intro(o:O1 _)|intro h));refine rn ?_;(repeat(first|intro(o:O1 _)|intro h));refine fr ?_;exact⟨_,rB,o,rfl⟩
end
end
section
abbrev fz:=List (List UInt8×List Ev)
def fK(k:List UInt8)(f:List Ev->List Ev):fz->fz
 |[]=>if f []=[]then[]else[(k,f [])]
 |p::m=>if k=p.1 then(if f p.2=[]then m else(k,f p.2)::m)else p::fK k f m
def ik(m:fz)(e:Ev):fz:=fK e.ed.key (λl=>ga l e) m
def cZ(m:fz):Nat:=(m.map λp=>p.2.length).sum
structure bM where
 k:List UInt8
 v:Value
 o:v.oneCell'=true
 l:List Ev
def bM.kl(r:bM):List UInt8×List Ev:=(r.k,r.l)
def bM.kv(r:bM):List UInt8×Value:=(r.k,r.v)
def bM.ev(r:bM):aa:=aL r.v r.l
theorem Me(k:List UInt8):∀(a:List bM) (s:Nat),(eQ k (a.map bM.kv) s=none/\∀f,fK k f (a.map bM.kl)=a.map bM.kl++(if f []=[]then[]else[(k,f [])]))\/
  ∃i,∃h:i<a.length,eQ k (a.map bM.kv) s=some (s+i,(a[i]'h).v)/\(a[i]'h).k=k/\∀f,fK k f (a.map bM.kl)=if f (a[i]'h).l=[]then(a.map bM.kl).eraseIdx i else(a.map bM.kl).set i (k,f (a[i]'h).l)
 |[],s=>.inl ⟨rfl,λf=>rfl⟩
 |r::a,s=>by
  by_cases b:k=r.k
  ·refine .inr ⟨0,by simp,?_,b.symm,λf=>?_⟩
   ·show(if k=r.k then some (s,r.v)else _)=_;rw[an b];rfl
   ·show(if k=r.k then(if f r.l=[]then a.map bM.kl else(k,f r.l)::a.map bM.kl)else _)=_;rw[an b];rfl
  ·have e:eQ k ((r::a).map bM.kv) s=eQ k (a.map bM.kv) (s+1):=by show(if k=r.k then some (s,r.v)else _)=_;rw[ai b]
   have g:∀f,fK k f ((r::a).map bM.kl)=r.kl::fK k f (a.map bM.kl):=λf=>by show(if k=r.k then _ else r.kl::fK k f (a.map bM.kl))=_;rw[ai b]
   rcases Me k a (s+1)with⟨c,d⟩|⟨i,hi,c,d,j⟩
   ·exact .inl ⟨by rw[e,c],λf=>by rw[g,d];rfl⟩
   ·refine .inr ⟨i+1,by simpa using hi,by rw[e,c];simp;omega,d,λf=>?_⟩;rw[g,j];simp only[Bw,kq,List.eraseIdx_cons_succ,pL];split<;>rfl
theorem KT(k:List UInt8)(f:List Ev->List Ev)(a:∀l,(f l).length<=l.length+1):∀m:fz,cZ (fK k f m)<=cZ m+1
 |[]=>by
  have:=a [];unfold fK cZ;split
  ·simp
  ·simp at this⊢;omega
 |p::m=>by
  have b:=KT k f a m;have:=a p.2;unfold fK;split
  ·split
   ·unfold cZ;simp;omega
   ·unfold cZ;simp;omega
  ·unfold cZ at b⊢;simp at b⊢;omega
theorem FD:∀{m:fz} {p:List UInt8×List Ev},p∈m->p.2.length<=cZ m
 |q::m,p,h=>by
  have a:cZ (q::m)=q.2.length+cZ m:=rfl;rcases gA.1 h with rfl|h
  ·omega
  ·have:=FD h;omega
theorem Ka:∀(m:fz) (i:Nat) (h:i<m.length) (p:List UInt8×List Ev),(cZ (m.set i p):Int)=cZ m+(p.2.length-(m[i]'h).2.length)
 |[],_,h,_=>by simp at h
 |q::m,0,h,p=>by unfold cZ;simp;omega
 |q::m,i+1,h,p=>by have:=Ka m i (by simpa using h) p;unfold cZ at this⊢;simp at this⊢;omega
theorem Mh:∀(m:fz) (i:Nat) (h:i<m.length),(cZ (m.eraseIdx i):Int)=cZ m+(0-(m[i]'h).2.length)
 |[],_,h=>by simp at h
 |q::m,0,h=>by unfold cZ;simp;omega
 |q::m,i+1,h=>by have:=Mh m i (by simpa using h);unfold cZ at this⊢;simp at this⊢;omega
def df(g:Nat)(m:fz):aa:=λh=>
 (m=[]/\ao g 269 (kS 0 (.int .u32 0) (.map none) 0) h)\/
 ∃(b:Nat) (a:List bM),a.map bM.kl=m/\aA [ao g 269 (kS 1 (.int .u32 0) (.map (some b)) (cZ m)),eX iG b (a.map bM.kv),aA (a.map bM.ev)] h
theorem MV(A B C:aa)(L:List aa):Sub (A::B::C::L) (aA [A,B,C]::L):=
 ar (bl A (ar (bl B (ar (bl C (iC _ (bW L))) (og (A:=C) (As:=[]) L))) (og (A:=B) (As:=[C]) L))) (og (A:=A) (As:=[B,C]) L)
theorem QG(A B C:aa)(L:List aa):Sub (aA [A,B,C]::L) (A::B::C::L):=
 ar (oi (A:=A) (As:=[B,C]) L) (bl A (ar (oi (A:=B) (As:=[C]) L) (bl B (ar (oi (A:=C) (As:=[]) L) (bl C (ly L))))))
@[reducible] def pe(g a:Nat)(z:Int)(b:List bM)(M:List aa):List aa:=ao g 269 (kS 1 (.int .u32 0) (.map (some a)) z)::eX iG a (b.map bM.kv)::aA (b.map bM.ev)::M
theorem df.cls{m:fz}{b:List bM}{z:Int}(h:b.map bM.kl=m)(c:z=cZ m)(M:List aa):Sub (df g m::M) (pe g k z b M):=by subst c;exact ar (jE (λx a=>.inr ⟨k,b,h,a⟩) (bW M)) (QG _ _ _ M)
theorem df.fn{P:Program}{k:FuncId}{args:Array Value}{m:fz}
  (e:m=[]->Fn P k args (ao g 269 (kS 0 (.int .u32 0) (.map none) 0)::M) R)(h:∀c b,b.map bM.kl=m->Fn P k args (pe g c (cZ m) b M) R):Fn P k args (df g m::M) R:=λF w0 w r ⟨x,a,d,s⟩=>by
 rcases a with⟨rfl,a⟩|⟨c,b,f,a⟩
 ·exact e rfl F w0 w r ⟨x,a,d,s⟩
 ·exact h c b f F w0 w r (MV _ _ _ M w F ⟨x,a,d,s⟩)
theorem Fn.dD{P:Program}{k:FuncId}{args:Array Value}{L:List aa}(h:Fn P k args L R)(d:∀v L',R v L'->∃a,Sub a L'/\R' v a):Fn P k args L R':=λF w0 w r s=>
 (h F w0 w r s).mono λe w' ⟨v,L',c,f,g,b⟩=>let ⟨a,h1,h2⟩:=d v L' b;⟨v,a,c,f,h1 w' F g,h2⟩
theorem Sp(g p:Nat)(t:TypeId)(m:fz)(M:List aa):Fn prog 237 #[.pointer (some ⟨g,0,none⟩),.func (.func 238) #[] #[.pointer (some ⟨p,0,none⟩)]] (ao p t [.pointer (some ⟨g,0,none⟩)]::df g m::M)
  λr L'=>∃b c,c.map bM.kl=m/\L'=ao p t [.pointer (some ⟨g,0,none⟩)]::pe g b (cZ m) c M:=λF w0 w r ⟨h,e,f,x,a,d,s⟩=>by
 rcases a with⟨rfl,a⟩|⟨b,c,k,a⟩
 ·refine Fn.dD (Qw g p (.int .u32 0) (.map none) 0 t M) ?_ F w0 w r ⟨h,e,f,x,a,d,s⟩;rintro v L' ⟨b,rfl⟩;refine⟨_,?_,b,[],rfl,rfl⟩;exact ar (bl _ (bl _ (bl _ (ly M)))) (cW [2,2] rfl (bW _))
 ·have i:Sub (ao g 269 (kS 1 (.int .u32 0) (.map (some b)) (cZ m))::ao p t [.pointer (some ⟨g,0,none⟩)]::eX iG b (c.map bM.kv)::aA (c.map bM.ev)::M) (ao p t [.pointer (some ⟨g,0,none⟩)]::pe g b (cZ m) c M):=mm (L:=ao p t [.pointer (some ⟨g,0,none⟩)]::pe g b (cZ m) c M) 1 rfl;have j:Sub (ao p t [.pointer (some ⟨g,0,none⟩)]::pe g b (cZ m) c M) (ao g 269 (kS 1 (.int .u32 0) (.map (some b)) (cZ m))::ao p t [.pointer (some ⟨g,0,none⟩)]::eX iG b (c.map bM.kv)::aA (c.map bM.ev)::M):=mm (L:=ao g 269 (kS 1 (.int .u32 0) (.map (some b)) (cZ m))::ao p t [.pointer (some ⟨g,0,none⟩)]::eX iG b (c.map bM.kv)::aA (c.map bM.ev)::M) 1 rfl;refine Fn.dD (wV (XS g (.func (.func 238) #[] #[.pointer (some ⟨p,0,none⟩)]) (.int .u32 0) (.map (some b)) (cZ m) (ao p t [.pointer (some ⟨g,0,none⟩)]::eX iG b (c.map bM.kv)::aA (c.map bM.ev)::M)) i) ?_ F w0 w r ⟨h,e,f,MV _ _ _ M w _ ⟨x,a,d,s⟩⟩;rintro v L' rfl;exact⟨_,j,b,c,k,rfl⟩
end
section
theorem VR(m:fz)(p:List UInt8×List Ev):cZ (m++[p])=cZ m+p.2.length:=by unfold cZ;simp
theorem SZ{A B C S:aa}{L:List aa}(a:aa)(h:Sub (A0::S::L) (a::L)):Sub (A0::A::B::C::S::L) (A::B::C::a::L):=
 ar (mm (L:=A::B::C::A0::S::L) 3 rfl) (bl A (bl B (bl C h)))
theorem map_eraseIdx{α:Type}(φ:α->β)(l:List α)(i:Nat):(l.eraseIdx i).map φ=(l.map φ).eraseIdx i:=tF φ l i
theorem Sq(k:List UInt8)(f:List Ev->List Ev)(a:List bM):∃(v0:Value) (g:List Ev) (b:Bool) (m:List aa),O1 v0/\nK k (a.map bM.kv) (.slice none 0 0)=(v0,b)/\
  (∀(A B C:aa) (L:List aa),Sub (aL v0 g::A::B::C::aA m::L) (A::B::C::aA (a.map bM.ev)::L))/\g.length<=cZ (a.map bM.kl)/\
  (f g=[]->∃h:List bM,qb k (a.map bM.kv)=h.map bM.kv/\m=h.map bM.ev/\h.map bM.kl=fK k f (a.map bM.kl))/\
  (∀(j:Value),O1 j->f g≠[]->∃h:List bM,mv k j (a.map bM.kv)=h.map bM.kv/\(∀L,Sub (aA (h.map bM.ev)::L) (aL j (f g)::aA m::L))/\h.map bM.kl=fK k f (a.map bM.kl))/\
  ((cZ (fK k f (a.map bM.kl)):Nat):Int)=(cZ (a.map bM.kl):Nat)+(((f g).length:Int)-g.length):=by
 rcases Me k a 0 with⟨d,e⟩|⟨i,hi,d,r,e⟩
 ·refine⟨.slice none 0 0,[],false,a.map bM.ev,rfl,by unfold nK;rw[d],λA B C L=>?_,eM _,λc=>?_,λj p c=>?_,?_⟩
  ·exact cA (α:=Ev) none 80 _
  ·exact⟨a,by unfold qb;rw[d],rfl,by rw[e,an c,ck]⟩
  ·refine⟨a++[⟨k,j,p,f []⟩],by unfold mv;rw[d];simp[bM.kv],λL=>?_,by rw[e,ai c];simp[bM.kl]⟩;rw[dA];exact so _ L
  ·rw[e];by_cases c:f []=[]
   ·rw[an c,c];simp
   ·rw[ai c,VR];simp
 ·rw[mL]at d;have q:i<(a.map bM.ev).length:=by simpa using hi
  have n:(a.map bM.kl)[i]'(by simpa using hi)=((a[i]'hi).k,(a[i]'hi).l):=by rw[gT];rfl
  refine⟨(a[i]'hi).v,(a[i]'hi).l,true,(a.map bM.ev).eraseIdx i,(a[i]'hi).o,by unfold nK;rw[d],λA B C L=>?_,?_,λc=>?_,λj p c=>?_,?_⟩
  ·exact SZ _ (qA L (by simp[hi];rfl))
  ·have:((a[i]'hi).k,(a[i]'hi).l)∈a.map bM.kl:=by rw[<-n];exact bT _
   exact FD this
  ·exact⟨a.eraseIdx i,by unfold qb;rw[d,map_eraseIdx],by rw[map_eraseIdx],by rw[e,an c,map_eraseIdx]⟩
  ·refine⟨a.set i ⟨k,j,p,f (a[i]'hi).l⟩,by unfold mv;rw[d,oC];rfl,λL=>?_,by rw[e,ai c,oC];rfl⟩;rw[oC];exact aA.qt _ L q
  ·rw[e];by_cases c:f (a[i]'hi).l=[]
   ·rw[an c,c,Mh _ i (by simpa using hi),n];simp
   ·rw[ai c,Ka _ i (by simpa using hi),n]
end
section
theorem aM.wv{P:Program}{n:Nat}{ops:Array Oper}{l:List Oper}{Q:bx}{f:Nat->Value}{L:List aa}{α:Type}[ab α]{v:Value}{xs:List α}(c:aI L v xs)(h:bY v xs.length->aM P n ops l Q f L):aM P n ops l Q f L:=
 λD F w0 f0 ws a w H b=>h (c.wv w F H.2.2.1) D F w0 f0 ws a w H b
set_option maxRecDepth 20000 attribute [local irreducible] Ex aM Fn bI bJ bV fin meet ch aX bZ aP aN aI Rd aK Row ao Sub bk bP bS bN bg bR Hid bY
section
attribute [local irreducible] aA eX
theorem ZA(M:List aa):Fn prog 186 #[] M λr L'=>∃g,r=.pointer (some ⟨g,0,none⟩)/\L'=df g []::M:=by
 refine Fn.dD (R:=λr L'=>∃g,r=.pointer (some ⟨g,0,none⟩)/\L'=ao g 269 (kS 0 (.int .u32 0) (.map none) 0)::M) ?_ ?_
 ·refine fo func186 ntmps186 ?_;refine rn ?_;(repeat(first|intro(g:Nat)|intro(v:Value)|intro h));refine fr ?_;exact⟨_,rB,_,rfl,rfl⟩
 ·rintro v L' ⟨g,rfl,rfl⟩;exact⟨_,jE (λx a=>.inl ⟨rfl,a⟩) (bW M),g,rfl,rfl⟩
theorem JI(b:Nat)(m:fz)(e:Ev)(M:List aa)(P:e.aW)(hk:e.ed.key.length<=1000)(hv:e.ed.value.length<=1000)(V:cZ m<=1000000):
  Fn prog 175 #[.pointer (some ⟨b,0,none⟩),.agg (ab.cells e).toArray] (df b m::M) λr L'=>r=.int .i64 0/\L'=df b (ik m e)::M:=by
 refine Fn.dD (R:=λr L'=>r=.int .i64 0/\∃c d z,d.map bM.kl=ik m e/\z=((cZ (ik m e):Nat):Int)/\L'=pe b c z d M) ?_ ?_
 rotate_left
 ·rintro v L' ⟨rfl,c,d,z,f,i,rfl⟩;exact⟨_,df.cls f i M,rfl,rfl⟩
 refine fo func175 ntmps175 ?_;refine rn ?_;(repeat(first|intro(g:Nat)|intro(v:Value)|intro(o:O1 _)|intro(cs:List Value)|intro(d6:_=List.set _ _ _)|intro(zs:List _)|intro h));refine ca [] call236 (xU e _ U U) ?_;rintro _ _ ⟨⟨y,hy,rfl⟩,rfl⟩;obtain rfl:y=0:=hy.2 P;rename_i gp;revert g;intro H;refine rn ?_;(repeat(first|intro(v:Value)|intro h));refine ca [2,2] call237 (Sp b gp _ m _) ?_;rintro _ _ ⟨c,u,rfl,rfl⟩;obtain⟨v0,a,bb,F,W,x,I,L,n,q,t⟩:=Sq e.ed.key (λl=>ga l e) u;have d9:=Kk a e;obtain⟨m,Q⟩:∃m,m=u.map bM.kl:=⟨_,rfl⟩;rw[<-Q]at n q t V L⊢
 rw[show fK e.ed.key (λl=>ga l e) m=ik m e from rfl]at n q t;obtain⟨z,A⟩:∃z:Int,z=(cZ m:Nat):=⟨_,rfl⟩;rw[<-A];obtain⟨j,w⟩:∃j,j=u.map bM.kv:=⟨_,rfl⟩;rw[<-w]at x n q;unfold pe;rw[<-w];refine rn ?_;(repeat(first|intro(v:Value)|intro h));refine pS ?_;(repeat(first|intro(v:Value)|intro h));refine bX J J J ?_;refine cH J J J (Mw (kt:=9) (et:=86) 2 (k:=e.ed.key) (m:=j) J J J rQ (z:=.slice none 0 0) rQ) ?_;rw[x];refine bn ?_;refine br rF ?_;refine mn ?_;(repeat(first|intro(v:Value)|intro h));refine rn ?_;(repeat(first|intro(v:Value)|intro h));refine cb ?_ (I _ _ _ _);refine aM.wv (v:=v0) (xs:=a) rD (λc9=>?_);refine ca [] call239 (RP v0 a e _ W U) ?_;rintro C _ ⟨o1,rfl⟩;refine rn ?_;intros;refine ca [2] call240 (Sd b 4 _ _ (kS 1 (.int .u32 0) (.map (some c)) (cZ (ik m e):Nat)) z (((ga a e).length:Int)-a.length) _ J (by rw[IntKind.wrap_i64];omega) (by rw[t,<-A];rfl)) ?_;rintro _ _ rfl;by_cases p:ga a e=[]
 ·obtain⟨d,f,i,s⟩:=n p;have S:(ga a e).length=0:=by rw[p];rfl
  refine rn ?_;intros;refine fh [3] rE ?_;refine bU 7 (ao b 269 (kS 1 (.int .u32 0) (.map (some c)) (cZ (ik m e):Nat))::aL C (ga a e)::ao gp 182 [.pointer (some ⟨b,0,none⟩)]::aA F::ao H 80 (ab.cells e)::M) rfl rQ rF ?_;refine mn ?_;intros;refine bX J J J ?_;refine Vg (kt:=9) (et:=86) 0 (kv:=iG) rfl (k:=e.ed.key) (m:=j) J J J J rQ rfl ?_;refine mw ?_;intros;rw[f,i];refine rn ?_;intros;refine fr ?_;exact⟨_,cW [1] rE rB,rfl,c,d,_,s,rfl,rfl⟩
 ·obtain⟨d,f,i,s⟩:=q C o1 p;have S:(ga a e).length≠0:=λh=>p (dZ h);refine rn ?_;intros;refine pS ?_;intros;refine Oo (kt:=9) (et:=86) 3 (kv:=iG) rfl (k:=e.ed.key) (m:=j) J J J J rQ rfl ?_;rw[f];refine rn ?_;intros;refine fr ?_;exact⟨_,cW [3,4,2,4] rE (bl _ (bl _ (ar (bl _ rB) (i _)))),rfl,c,d,_,s,rfl,rfl⟩
end
end
section
open Go.RowKit Go.Maps Go.Sort Go.Shelf
def Ds:Go.Shelf.Ren:=⟨λ|7=>169|10=>228|n=>n,λ|23=>253|26=>9|3=>86|28=>251|0=>0|27=>250|33=>322|4=>4|n=>n,λ|n=>n⟩
theorem Lz:Go.Proofs.SlLaysZ.n7 prog Ds:={
 mixed:=by kernel_rfl
 f7:=⟨f169.name,by decide,func169.trans (cn some rQ)⟩
 f10:=⟨f228.name,by decide,func228.trans (cn some rQ)⟩
 t0:=underlying0
 a0:=isAgg0
 z0:=sizeOf0
 v0:=zeroValue0
 t4:=underlying4
 a4:=isAgg4
 z4:=sizeOf4
 v4:=zeroValue4
 t23:=underlying253
 a23:=isAgg253
 z23:=sizeOf253
 v23:=zeroValue253
 t26:=underlying9
 a26:=isAgg9
 z26:=sizeOf9
 v26:=zeroValue9
 t27:=underlying250
 a27:=isAgg250
 z27:=sizeOf250
 v27:=zeroValue250
 t28:=underlying251
 a28:=isAgg251
 z28:=sizeOf251
 v28:=zeroValue251
 t33:=underlying322
 a33:=isAgg322
 z33:=sizeOf322
 v33:=zeroValue322}
def Mg:Go.Shelf.Ren:=⟨λ|6=>168|8=>226|9=>227|11=>263|13=>265|12=>264|23=>304|24=>305|14=>295|15=>296|16=>297|17=>298|18=>299|19=>300|20=>301|21=>302|22=>303|25=>326|26=>327|27=>328|28=>329|29=>330|30=>331|31=>337|n=>n,λ|26=>9|28=>251|24=>70|0=>0|3=>3|37=>351|48=>27|50=>158|4=>4|40=>375|39=>374|45=>380|5=>5|9=>9|51=>396|55=>400|57=>406|58=>407|33=>322|n=>n,λ|n=>n⟩
theorem Kh:Go.Proofs.SlLaysZ.n6 prog Mg:={
 mixed:=by kernel_rfl
 f6:=⟨f168.name,by decide,func168.trans (cn some rQ)⟩
 f8:=⟨f226.name,by decide,func226.trans (cn some rQ)⟩
 f11:=⟨f263.name,by decide,func263.trans (cn some rQ)⟩
 t0:=underlying0
 a0:=isAgg0
 z0:=sizeOf0
 v0:=zeroValue0
 t24:=underlying70
 a24:=isAgg70
 z24:=sizeOf70
 v24:=zeroValue70
 t26:=underlying9
 a26:=isAgg9
 z26:=sizeOf9
 v26:=zeroValue9
 t28:=underlying251
 a28:=isAgg251
 z28:=sizeOf251
 v28:=zeroValue251
 i26:=by kernel_rfl}
def Pe:Go.Shelf.Ren:=⟨λ|6=>227|8=>265|9=>264|19=>304|20=>305|21=>295|22=>296|23=>297|24=>298|25=>299|26=>300|27=>301|28=>302|29=>303|36=>326|31=>327|32=>328|37=>329|38=>330|39=>331|41=>337|n=>n,λ|27=>70|29=>9|3=>3|32=>351|26=>70|0=>0|44=>27|46=>158|4=>4|36=>375|35=>374|41=>380|5=>5|9=>9|53=>396|57=>400|63=>406|64=>407|n=>n,λ|n=>n⟩
theorem Au:Go.Proofs.SlLaysM.n6 prog Pe:={
 mixed:=by kernel_rfl
 f6:=⟨f227.name,by decide,func227.trans (cn some rQ)⟩
 f8:=func265.trans (cn some rQ)
 f9:=⟨f264.name,by decide,func264.trans (cn some rQ)⟩
 f19:=func304.trans (cn some rQ)
 f20:=func305.trans (cn some rQ)
 f21:=⟨f295.name,by decide,func295.trans (cn some rQ)⟩
 f22:=⟨f296.name,by decide,func296.trans (cn some rQ)⟩
 f23:=⟨f297.name,by decide,func297.trans (cn some rQ)⟩
 f24:=⟨f298.name,by decide,func298.trans (cn some rQ)⟩
 f25:=⟨f299.name,by decide,func299.trans (cn some rQ)⟩
 f26:=⟨f300.name,by decide,func300.trans (cn some rQ)⟩
 f27:=⟨f301.name,by decide,func301.trans (cn some rQ)⟩
 f28:=⟨f302.name,by decide,func302.trans (cn some rQ)⟩
 f29:=⟨f303.name,by decide,func303.trans (cn some rQ)⟩
 f31:=func327.trans (cn some rQ)
 f32:=func328.trans (cn some rQ)
 f36:=⟨f326.name,by decide,func326.trans (cn some rQ)⟩
 f37:=⟨f329.name,by decide,func329.trans (cn some rQ)⟩
 f38:=⟨f330.name,by decide,func330.trans (cn some rQ)⟩
 f39:=⟨f331.name,by decide,func331.trans (cn some rQ)⟩
 f41:=⟨f337.name,by decide,func337.trans (cn some rQ)⟩
 t0:=underlying0
 a0:=isAgg0
 z0:=sizeOf0
 v0:=zeroValue0
 t3:=underlying3
 a3:=isAgg3
 z3:=sizeOf3
 v3:=zeroValue3
 t4:=underlying4
 a4:=isAgg4
 z4:=sizeOf4
 v4:=zeroValue4
 t5:=underlying5
 a5:=isAgg5
 z5:=sizeOf5
 v5:=zeroValue5
 t9:=underlying9
 a9:=isAgg9
 z9:=sizeOf9
 v9:=zeroValue9
 t26:=underlying70
 a26:=isAgg70
 z26:=sizeOf70
 v26:=zeroValue70
 t27:=underlying70
 a27:=isAgg70
 z27:=sizeOf70
 v27:=zeroValue70
 t29:=underlying9
 a29:=isAgg9
 z29:=sizeOf9
 v29:=zeroValue9
 t32:=underlying351
 a32:=isAgg351
 z32:=sizeOf351
 v32:=zeroValue351
 t35:=underlying374
 a35:=isAgg374
 z35:=sizeOf374
 v35:=zeroValue374
 t36:=underlying375
 a36:=isAgg375
 z36:=sizeOf375
 v36:=zeroValue375
 t41:=underlying380
 a41:=isAgg380
 z41:=sizeOf380
 v41:=zeroValue380
 t44:=underlying27
 a44:=isAgg27
 z44:=sizeOf27
 v44:=zeroValue27
 t46:=underlying158
 a46:=isAgg158
 z46:=sizeOf158
 v46:=zeroValue158
 t53:=underlying396
 a53:=isAgg396
 z53:=sizeOf396
 v53:=zeroValue396
 t57:=underlying400
 a57:=isAgg400
 z57:=sizeOf400
 v57:=zeroValue400
 t63:=underlying406
 a63:=isAgg406
 z63:=sizeOf406
 v63:=zeroValue406
 t64:=underlying407
 a64:=isAgg407
 z64:=sizeOf407
 v64:=zeroValue407}
theorem HM(m:Nat):AnyZ.SortsIn prog Mg Fence.wide m:=
  ⟨λb off a ss W c d e=>callsIn_wide.2 (AnyM.slices_Sort_string Au b off a ss W c d e),
   λp a W=>callsIn_wide.2 (AnyM.slices_Sort_string_none Au p a W)⟩
end
section
def tK(k:List UInt8):List (List UInt8)->List (List UInt8)
 |[]=>[k]
 |x::l=>if k<=x then k::x::l else x::tK k l
def iO:List (List UInt8)->List (List UInt8)
 |[]=>[]
 |k::l=>tK k (iO l)
theorem Gg(k:List UInt8):∀l,(tK k l).Perm (k::l)
 |[]=>zY _
 |x::l=>by
  unfold tK;split
  ·exact zY _
  ·exact((Gg k l).cons x).trans (.swap k x l)
theorem jZ:∀l,(iO l).Perm l
 |[]=>zY _
 |k::l=>(Gg k _).trans ((jZ l).cons k)
theorem JR(k:List UInt8):∀l:List (List UInt8),l.Pairwise (·<=·)->(tK k l).Pairwise (·<=·)
 |[],_=>by simp[tK]
 |x::l,h=>by
  unfold tK;rw[km]at h;split
  ·rename_i a;refine km.2 ⟨λy hy=>?_,km.2 h⟩;rcases gA.1 hy with rfl|hy
   ·exact a
   ·exact List.le_trans a (h.1 y hy)
  ·rename_i a;refine km.2 ⟨λy hy=>?_,JR k l h.2⟩;rcases gA.1 ((Gg k l).mem_iff.1 hy)with rfl|hy
   ·rcases List.le_total y x with b|b
    ·exact absurd b a
    ·exact b
   ·exact h.1 y hy
theorem C5:∀l:List (List UInt8),(iO l).Pairwise (·<=·)
 |[]=>List.Pairwise.nil
 |k::l=>JR k _ (C5 l)
theorem Ha{l:List (List UInt8)}(h:l.Perm aB):l.mergeSort (λx y=>decide (x<=y))=iO aB:=by
 have g:∀a b c:List UInt8,decide (a<=b)=true->decide (b<=c)=true->decide (a<=c)=true:=λa b c d e=>by simp only[kZ]at*;exact List.le_trans d e
 have f:∀a b:List UInt8,(decide (a<=b)||decide (b<=a))=true:=λa b=>by simp only[vF,kZ];exact List.le_total a b
 refine List.Perm.eq_of_pairwise (le:=λa b=>decide (a<=b)=true) (λa b _ _ d e=>?_) (List.pairwise_mergeSort g f l) ((C5 aB).imp λh=>bf h) (((List.mergeSort_perm l _).trans h).trans (jZ aB).symm);simp only[kZ]at d e;exact List.le_antisymm d e
open Go.Maps Go.Sort Go.Shelf in
theorem Ro{H:Type}(g b c:Nat)(a:DataW H)(R:Value->Option (DataW H×List MemPlace))(w:World)(f:g<w.heap.size)(h:w.cell? ⟨g,0,none⟩=some (.map (some b)))(j:w.ownsMap prog 9 R b c a)(i:Maps.size a<=maxLen)(d:Maps.size a*16<=140737488355328):
  CallsIn Fence.wide 5 prog 168 #[.func (.func 228) #[] #[.pointer (some ⟨g,0,none⟩)]] w λe w'=>∃(v:Value) (ss:List (List UInt8)),e=.returned v/\ss.Perm (strKeys a)/\
   w'.ownsRow w.heap.size 9 1 v ss.length ((ss.mergeSort (λx y=>decide (x<=y))).map encStr)/\(v=.slice none 0 0↔ss=[])/\Below w.heap.size w w':=by
 have k:SeqGives Fence.wide 2 prog 228 #[.pointer (some ⟨g,0,none⟩)] encStr (λss=>ss.Perm (strKeys a)) (Maps.size a) w:=
  AnyZ.keys_gives (ρ:=Ds) {Lz with} Fence.wide _ trivial rfl U g b c a _ f h j
 exact AnyZ.sorted_in Kh Fence.wide 5 trivial trivial trivial trivial rfl U (HM _) (enters_of func227 rQ rfl) 228 #[.pointer (some ⟨g,0,none⟩)] trivial (enters_of func228 rQ rfl) _ _ i d _ k
open Go.Maps Go.Sort Go.Shelf in
theorem W3(g:Nat)(w:World)(a:g<w.heap.size)(b:w.cell? ⟨g,0,none⟩=some (.map none)):
  CallsIn Fence.wide 5 prog 168 #[.func (.func 228) #[] #[.pointer (some ⟨g,0,none⟩)]] w λe w'=>∃(v:Value) (ss:List (List UInt8)),e=.returned v/\ss=[]/\
   w'.ownsRow w.heap.size 9 1 v ss.length ((ss.mergeSort (λx y=>decide (x<=y))).map encStr)/\(v=.slice none 0 0↔ss=[])/\Below w.heap.size w w':=by
 have c:SeqGives Fence.wide 2 prog 228 #[.pointer (some ⟨g,0,none⟩)] encStr (λss:List (List UInt8)=>ss=[]) 0 w:=
  AnyZ.keys_gives_nil (ρ:=Ds) {Lz with} Fence.wide _ trivial rfl g w a b
 exact AnyZ.sorted_in Kh Fence.wide 5 trivial trivial trivial trivial rfl U (HM _) (enters_of func227 rQ rfl) 228 #[.pointer (some ⟨g,0,none⟩)] trivial (enters_of func228 rQ rfl) _ 0 (eM _) U _ c
theorem Qg{w:World}(a:Below w.heap.size w w'){L:List aa}(s:aN w L F):aN w' L F:=aN.world (w:=w) (w':=w') (λn o h=>by rw[a.block n (gR.1 h).1];exact h) s
theorem Ke{w:World}(a:Below w.heap.size w w')(r:Rest w0 w):Rest w0 w':=Bl r ⟨a.os,a.tape,a.output⟩
theorem Hp{w:World}{L:List aa}(s:aN w L F)(b:w.heap.size<=g)(o:Obj):(aU.one g o).iN F:=by
 intro n;by_cases a:n=g
 ·right;cases hf:F n with
  |none=>rfl
  |some x=>have:=aN.frame s n x hf;rw[oM U]at this;cases this
 ·exact .inl (wL o a)
theorem Js{w w':World}(c:Below w.heap.size w w'){g:Nat}(f:w.heap.size<=g)(o:Obj)(i:w'.heap[g]?=some o):∀{L:List aa} {F:aU},aN w L F->aN w' L ((aU.one g o).add F)
 |[],F,s=>λn x e=>by
  unfold aU.add at e;by_cases b:n=g
  ·subst b;rw[nz]at e;simp at e;subst e;exact i
  ·rw[wL o b]at e;simp at e;have:=s n x e;have j:n<w.heap.size:=(gR.1 this).1;rw[c.block n j];exact this
 |A::L,F,⟨h,a,d,s⟩=>by
  have b:=Hp s f o;rw[aU.lL]at b;refine⟨h,a,?_,?_⟩
  ·rw[aU.lL];exact⟨vJ b.1,d⟩
  ·rw[DJ (vJ b.1)];exact Js c f o i s
theorem Hz{α:Type}[ab α]{w:World}{v:Value}{xs:List α}(o:w'.ownsRow w.heap.size t (ab.sz α) v xs.length (cellsOf xs))(b:Below w.heap.size w w'){L:List aa}(s:aN w L F):aN w' (aK v t xs::L) F:=by
 obtain⟨n,⟨rfl,f⟩|⟨g,d,a,rfl,c,m,i,j,k,l⟩⟩:=o
 ·have e:xs=[]:=dZ f;subst e;have h:=cA (α:=α) none t L;unfold Sub at h;exact h w' F (Qg b s)
 ·exact⟨aU.one g (.cells a t (0,0)),⟨n,.inr ⟨g,d,a,rfl,rfl,i,j,k,l⟩⟩,Hp s c _,Js b c _ m s⟩
theorem IF{v:Value}{n:Nat}{xs:List Value}{b:Nat}(h:w'.ownsRow b t 1 v n xs):O1 v:=by obtain⟨_,⟨rfl,_⟩|⟨g,a,c,rfl,_⟩⟩:=h<;>rfl
theorem CA(ss:List (List UInt8)):cellsOf (ss.map bQ.mk)=ss.map encStr:=by
 induction ss with
 |nil=>rfl
 |cons a l ih=>show ab.cells (bQ.mk a)++cellsOf (l.map bQ.mk)=_;rw[ih];rfl
open Go.Maps Go.Sort Go.Shelf in
theorem Xq(g c:Nat)(m:List (List UInt8×Value))(M:List aa)(W:∀p∈m,p.1.length<=1000)(hl:m.length<=1000000):
  Fn prog 168 #[.func (.func 228) #[] #[.pointer (some ⟨g,0,none⟩)]] (ao g 253 [.map (some c)]::eX iG c m::M)
   λr L'=>O1 r/\L'=aK r 9 ((iO (m.map (·.1))).map bQ.mk)::ao g 253 [.map (some c)]::eX iG c m::M:=λF w0 w r s=>by
 have y:=jz (i:=0) (o:=0) rfl rfl s;have S:g<w.heap.size:=by
  rcases mY g w.heap.size with h|h
  ·exact h
  ·simp[World.cell?,oM h]at y
 obtain⟨a,q,V,k,e9⟩:=xK (i:=1) rfl s;have d6:a.toList.length=m.length:=by have:=cn List.length k;simpa using this
 have H:prog.underlying 9=some .string:=by kernel_rfl
 have c7:∀x∈a.toList,∃p∈m,x.key=iG p.1:=λx hx=>by have t:(x.key,x.val)∈a.toList.map (λe=>(e.key,e.val)):=rj hx;rw[k]at t;obtain⟨p,d,z⟩:=fA.1 t;simp only[kR]at z;exact⟨p,d,z.1.symm⟩
 obtain⟨R,P⟩:∃R:Value->Option (DataW Unit×List MemPlace),R=λ_=>some (.nil,[]):=⟨_,rfl⟩;have A:∀x∈a.toList,∃l:List UInt8,x.key=iG l/\Go.WideElems.rd prog 9 R x=some (.string l,.nil):=λx hx=>by
  obtain⟨p,d,I⟩:=c7 x hx;refine⟨p.1,I,?_⟩;have c8:keyOf prog 9 x.key=some (.string p.1):=by
   rw[I];have j1:=W p d;rw[Go.keyOf_string H];have hm:p.1.length<=maxLen:=by unfold maxLen;omega
   simp[mapKey,H,iG,ByteArray.size,hm]
  unfold Go.WideElems.rd;rw[c8,P];rfl
 have e8:a.size<=maxLen:=by
  have:a.size=m.length:=by simpa using d6
  unfold maxLen;omega
 have Q:Go.WideElems.Fit prog 9 R a q:=⟨e8,e9,λx hx=>let ⟨l,_,h⟩:=A x hx;⟨_,h⟩⟩;obtain⟨b,j⟩:∃b:DataW Unit,b=.map ((a.toList.map (Go.WideElems.rg prog 9 R)).foldr DataW.insert []):=⟨_,rfl⟩;have d8:w.ownsMap prog 9 R c a.size b:=⟨a,q,V,Q,bj _,j⟩;have n:(strKeys b).Perm (m.map (·.1)):=by
  rw[j];show(((a.toList.map (Go.WideElems.rg prog 9 R)).foldr DataW.insert []).map λp=>strOf p.1).Perm _;refine((Go.WideShapes.sorted_perm _).map _).trans ?_;have:(a.toList.map (Go.WideElems.rg prog 9 R)).map (λp=>strOf p.1)=m.map (·.1):=by
   have L:(a.toList.map λe=>(e.key,e.val)).map (λp=>match p.1 with| .string s=>s.data.toList|_=>[])=m.map (·.1):=by rw[k,nE];refine xe λp _=>?_;simp[iG]
   rw[<-L,nE,nE];refine xe λx hx=>?_;obtain⟨l,j0,d9⟩:=A x hx;simp[Go.WideElems.rg,d9,strOf,j0,iG]
  rw[this]
 have C:Maps.size b=m.length:=by
  have:=n.length_eq;rw[j]at this⊢
  simpa[strKeys,Maps.size]using this
 refine(callsIn_wide.1 (Ro g c a.size b R w S y d8 (by rw[C];unfold maxLen;omega) (by rw[C];omega))).mono ?_;rintro e w' ⟨v,ss,rfl,d,f,_,u⟩;rw[Ha (d.trans n)]at f;have c9:ss.length=((iO (m.map (·.1))).map bQ.mk).length:=by rw[bC,(jZ _).length_eq,d.length_eq,n.length_eq]
 rw[c9,<-CA]at f;exact⟨v,_,rfl,Ke u r,Hz f u s,IF f,rfl⟩
open Go.Maps Go.Sort Go.Shelf in
theorem TV(g:Nat)(M:List aa):
  Fn prog 168 #[.func (.func 228) #[] #[.pointer (some ⟨g,0,none⟩)]] (ao g 253 [.map none]::M)
   λr L'=>O1 r/\L'=aK r 9 ([]:List bQ)::ao g 253 [.map none]::M:=λF w0 w r s=>by
 have c:=jz (i:=0) (o:=0) rfl rfl s;have f:g<w.heap.size:=by
  rcases mY g w.heap.size with h|h
  ·exact h
  ·simp[World.cell?,oM h]at c
 refine(callsIn_wide.1 (W3 g w f c)).mono ?_;rintro e w' ⟨v,ss,rfl,rfl,a,_,b⟩;have d:w'.ownsRow w.heap.size 9 (ab.sz bQ) v ([]:List bQ).length (cellsOf ([]:List bQ)):=by rw[show(List.mergeSort ([]:List (List UInt8)) (λx y=>decide (x<=y)))=[]by simp]at a;exact a
 exact⟨v,_,rfl,Ke b r,Hz d b s,IF a,rfl⟩
set_option maxRecDepth 20000 attribute [local irreducible] Ex aM Fn bI bJ bV fin meet ch aX bZ aP aN aI Rd aK Row ao Sub bk bP bS bN bg bR Hid bY
section
theorem LU(a:Option Nat)(M:List aa):Fn prog 169 #[.map a] M λr L'=>∃g,r=.func (.func 228) #[] #[.pointer (some ⟨g,0,none⟩)]/\L'=ao g 253 [.map a]::M:=by refine fo func169 ntmps169 ?_;exact yo
end
end
section
open Go.Maps Go.Sort Go.Shelf in
theorem Fy(v:Value)(ks:List (List UInt8))(M:List aa)(hl:ks.length<=1000000):
  Fn prog 227 #[v] (aK v 9 (ks.map bQ.mk)::M) λr L'=>L'=aK v 9 ((iO ks).map bQ.mk)::M:=λF w0 w r s=>by
 obtain⟨h,a,d,q⟩:=s;obtain⟨W,Q⟩:=id a;have j:(ks.map bQ.mk).length=ks.length:=bC ..;rcases Q with⟨H,⟨b,rfl⟩,rfl⟩|⟨g,k,f,rfl,rfl,t,I,u,z⟩
 ·have C:ks=[]:=dZ (by rw[<-j];exact H);subst C;refine(AnyM.slices_Sort_string_none Au b 0 w).mono ?_;rintro e w' ⟨rfl,rfl⟩;exact⟨_,aK (.slice b 0 0) 9 ((iO []).map bQ.mk)::M,rfl,r,⟨_,a,d,q⟩,rfl⟩
 ·rw[j]at t;have p:ab.sz bQ=1:=rfl;rw[j,p,qh]at z;have l:w.heap[g]?=some (.cells f 9 (0,0)):=ue q g _ (nz g _);have P:g<w.heap.size:=(gR.1 l).1;have L:=holds_of_block (ss:=ks) l (by rw[z,CA]);rw[j];refine(AnyM.slices_Sort_string Au g 0 k ks w L P U).mono ?_;rintro e w' ⟨rfl,n,os,rfl⟩;have i:=grownBy_sorted (w:=w) (g:=g) (n:=n) (os:=os) (ks.mergeSort λx y=>decide (x<=y)).toArray;have V:(ks.mergeSort λx y=>decide (x<=y)).length=ks.length:=by simp
  have R:=heap_sorted (n:=n) (os:=os) (ks.mergeSort λx y=>decide (x<=y)).toArray l;have S:=Ha (zY ks);refine⟨_,aK (.slice (some ⟨g,0,none⟩) ks.length k) 9 ((iO ks).map bQ.mk)::M,rfl,Bl r ⟨i.os,i.tape,i.output⟩,⟨aU.one g (.cells (putCells encStr 0 (ks.mergeSort λx y=>decide (x<=y)).toArray f) 9 (0,0)),⟨?_,.inr ⟨g,k,_,?_,rfl,?_,I,by simp[putCells,u],?_⟩⟩,?_,?_⟩,rfl⟩
  ·rw[cN]
  ·rw[bC,(jZ ks).length_eq]
  ·rw[bC,(jZ ks).length_eq];exact t
  ·rw[bC,(jZ ks).length_eq,p,qh,CA,<-S,<-V];exact take_putCells f _ (by rw[u,p];omega)
  ·intro m;rcases d m with x|x
   ·left;unfold aU.one at x⊢
    split at x
    ·cases x
    ·rename_i c;rw[ai c]
   ·exact .inr x
  ·refine aN.swap (w:=w) (h:=aU.one g (.cells f 9 (0,0))) (λm x=>?_) (λm o x A=>?_) (λm o x=>?_) d q
   ·unfold aU.one at x⊢
    split at x
    ·cases x
    ·rename_i c;rw[ai c]
   ·have c:m≠g:=λe=>by rw[e,nz]at x;cases x
    rw[i.block m (gR.1 A).1 (λe=>c (by cases e;rfl))];exact A
   ·unfold aU.one at x;split at x
    ·rename_i e;cases x;rw[e];exact R
    ·cases x
end
section
section
variable{P:Program}{n:Nat}{ops:Array Oper}{Q:bx}{f:Nat->Value}{L:List aa}{d:Nat}{ty:TypeId}{pos:String}{af:Array Edge}{gd:Option (Nat×Bool)}{v:Value}{q:Nat}
end
section
variable{P:Program}{n:Nat}{ops:Array Oper}{Q:bx}{f:Nat->Value}{L:List aa}{rest:List Oper}{ty:TypeId}{pos:String}{af:Array Edge}{α:Type}[ab α]{xs:List α}
theorem FB(r:Nat){v:Value}{a:α}(hx:aH f x=fM v (i*sz+o))(hy:aH f y=u)(b:u.oneCell'=true)(hi:L[r]?=some (aK v e xs))(z:P.cellsOf t=1)(M:ab.sz α=sz)(j:i<xs.length)(A:o<sz)
  (l:ab.cells a=(ab.cells (xs[i]'j)).set o u)(k:L.set r (aK v e (xs.set i a))=L')(h:aM P n ops rest Q f L'):aM P n ops (⟨none,.store t x y,ty,pos,af,none⟩::rest) Q f L:=by
 subst M;subst k;subst hy;refine lr rfl rfl (R:=λ_ d=>d=L.set r (aK v e (xs.set i a))) (λF w s=>?_) (λv d e=>by subst e;exact h);have m:(i+1)*ab.sz α<=xs.length*ab.sz α:=iW _ U;rw[uo]at m;have V:=cN xs;obtain⟨g,w',⟨c,S⟩,H,C,I⟩:=yy (P:=P) (w:=w) (o:=i*ab.sz α+o) (us:=[aH f y]) (xs':=xs.set i a) hi (by simp only[dL,jx];omega) (by simp) (by simp[b]) (by rw[<-I5 (u:=aH f y) j A l,List.set_eq_take_append_cons_drop,an U];simp) (by simp) s;refine⟨_,w',_,.inr ⟨?_,rfl⟩,C,I,rfl⟩;subst S;simp only[fM,iY,mL]at hx;have p:=gQ w z (Nat.succ_pos 0);have q:(aH f y).cells=#[aH f y]:=by revert b;generalize aH f y=u;intro b;cases u<;>simp_all [Value.oneCell',Value.cells]
 simp[execOp,hx,Instr.storeAt,Instr.sureAddr,storeVar,q,p,H]
end
end
section
def dX:List (List UInt8)->List (List UInt8)
 |[]=>[]
 |[x]=>[x]
 |x::y::l=>if x=y then dX (y::l)else x::dX (y::l)
theorem GA(x y:List UInt8):∀l:List (List UInt8),dX (l++[x,y])=if x=y then dX (l++[x])else dX (l++[x])++[y]
 |[]=>by
  show(if x=y then dX [y]else x::dX [y])=_;split
  ·rename_i h;subst h;rfl
  ·rfl
 |[a]=>by
  have c:=GA x y [];show(if a=x then dX ([]++[x,y])else a::dX ([]++[x,y]))=if x=y then(if a=x then dX ([]++[x])else a::dX ([]++[x]))else(if a=x then dX ([]++[x])else a::dX ([]++[x]))++[y]
  rw[c];split<;>split<;>rfl
 |a::b::l=>by
  have c:=GA x y (b::l);show(if a=b then dX (b::l++[x,y])else a::dX (b::l++[x,y]))=if x=y then(if a=b then dX (b::l++[x])else a::dX (b::l++[x]))else(if a=b then dX (b::l++[x])else a::dX (b::l++[x]))++[y]
  rw[c];split<;>split<;>rfl
theorem AG:∀l:List (List UInt8),(dX l).length<=l.length
 |[]=>bj _
 |[x]=>bj _
 |x::y::l=>by
  have:=AG (y::l);unfold dX;split
  ·simp only[dL]at this⊢;omega
  ·simp only[dL]at this⊢;omega
theorem Nm(ks:List (List UInt8))(j:Nat)(a:0<j)(h:j<ks.length):dX (ks.take (j+1))=if ks[j-1]'U=ks[j]'h then dX (ks.take j)else dX (ks.take j)++[ks[j]'h]:=by obtain⟨i,rfl⟩:∃i,j=i+1:=⟨j-1,U⟩;rw[da h,da (show i<ks.length by omega),dB];exact GA _ _ (ks.take i)
instance:hQ prog 9 bQ:=⟨⟨[]⟩,by kernel_rfl,by kernel_rfl⟩
set_option maxRecDepth 20000 attribute [local irreducible] Ex aM Fn bI bJ bV fin meet ch aX bZ aP aN aI Rd aK Row ao Sub bk bP bS bN bg bR Hid bY
section
theorem Em(v:Value)(ks:List (List UInt8))(M:List aa)(o:O1 v)(hl:ks.length<=1000000):
  Fn prog 231 #[v] (aK v 9 (ks.map bQ.mk)::M) λr L'=>O1 r/\L'=aK r 9 ((dX ks).map bQ.mk)::M:=by
 have Q:(ks.map bQ.mk).length=ks.length:=bC ..;refine fo func231 ntmps231 ?_;by_cases d:ks.length<2
 ·have hc:dX ks=ks:=by
   rcases ks with _|⟨a,_|⟨b,l⟩⟩
   ·rfl
   ·rfl
   ·simp only[dL]at d;omega
  rw[hc];refine rn ?_;(repeat(first|intro(v:Value)|intro(o:O1 _)|intro h));refine fr ?_;exact⟨_,rB,o,rfl⟩
 obtain⟨c,z⟩:∃c:List bQ,c=ks.map bQ.mk:=⟨_,rfl⟩;rw[<-z]at Q⊢
 have w:∀(i:Nat) (h:i<c.length),(c[i]'h).l=ks[i]'U:=λi h=>by subst z;simp
 refine rn ?_;(repeat(first|intro(v:Value)|intro(o:O1 _)|intro h));refine bm [3] (λm vs L'=>∃k:Nat,1<=k/\k<=ks.length/\m=ks.length-k/\dX (ks.take k)=ks.take k/\vs=[.int .i64 k]/\L'=aK v 9 c::M) (ks.length-1) ⟨1,U,U,rfl,?_,rfl,rfl⟩ ?_
 ·rcases ks with _|⟨a,l⟩
  ·simp at d
  ·rfl
 rintro m vs g0 L1 ⟨k,c9,hk,rfl,p,rfl,rfl⟩;refine bp [0,3] rG (λgk=>?_);by_cases q:k<ks.length
 ·have s:=Nm ks k c9 q;have F:=w k U;have V:=w (k-1) U;have d6:((k:Int)-1).toNat=k-1:=U;by_cases u:ks[k-1]'U=ks[k]'q
  ·rw[an u]at s;have hd:∀(f:k<c.length) (d:((k:Int)-1).toNat<c.length),decide ((c[k]'f).l=(c[((k:Int)-1).toNat]'d).l)=true:=λf d=>bf (by simp only[d6,F,V];exact u.symm);refine rn ?_;(repeat(first|intro(v:Value)|intro(o:O1 _)|intro h));refine ji ?_;(repeat(first|intro(v:Value)|intro(o:O1 _)|intro h));rw[hd];refine rn ?_;(repeat(first|intro(v:Value)|intro(o:O1 _)|intro h));refine bm [3,5] (λm vs L'=>∃(i j:Nat) (xs:List bQ),1<=i/\i<j/\k<j/\j<=ks.length/\m=ks.length-j/\xs.length=ks.length/\(dX (ks.take j)).map bQ.mk=xs.take i/\(dX (ks.take j)).length=i/\xs.drop (j-1)=c.drop (j-1)/\vs=[.int .i64 i,.int .i64 ((j:Int)-k)]/\L'=aK v 9 xs::M) (ks.length-(k+1)) ⟨k,k+1,c,c9,U,U,q,rfl,Q,?_,?_,rfl,av rfl (av (aQ U) rfl),rfl⟩ ?_
   ·rw[s,p,z,AE]
   ·rw[s,p,dy];omega
   rintro m vs F L1 ⟨i,j,xs,e9,j0,m6,hj,rfl,y,t,H,P,rfl,rfl⟩;refine bp [0,3,4,5] rG (λgk=>?_);have j7:(xs.drop k).length=ks.length-k:=by rw[ew,y]
   have j1:aI (aK v 9 xs::M) (bg v (k:Int).toNat c.length 1) (xs.drop k):=by rw[Q,<-y];exact ni (gr (xs:=xs) 0 rfl) U rfl J
   obtain⟨s2,j3⟩:∃s2,s2=bg v (k:Int).toNat c.length 1:=⟨_,rfl⟩;rw[<-j3]at j1⊢
   have j8:((j:Int)-k).toNat=j-k:=U;have j9:((j:Int)-k-1).toNat=j-k-1:=U;by_cases g:j<ks.length
   ·have n:=Nm ks j U g;have C:∀(h:j<xs.length),(xs[j]'h).l=ks[j]'g:=λh=>by rw[<-w j U];have:=cn (λl=>l[1]?) P;simp only[tg,show j-1+1=j by omega]at this;rw[gV h,gV U,iE]at this;rw[this]
    have S:∀(h:j-1<xs.length),(xs[j-1]'h).l=ks[j-1]'U:=λh=>by rw[<-w (j-1) U];have:=cn (λl=>l[0]?) P;simp only[tg,tn]at this;rw[gV h,gV U,iE]at this;rw[this]
    have A:∀(h:((j:Int)-k).toNat<(xs.drop k).length),(xs.drop k)[((j:Int)-k).toNat]'h=xs[j]'U:=λh=>by rw[yi];congr 1;omega
    have R:∀(h:((j:Int)-k-1).toNat<(xs.drop k).length),(xs.drop k)[((j:Int)-k-1).toNat]'h=xs[j-1]'U:=λh=>by rw[yi];congr 1;omega
    have c7:xs.drop j=c.drop j:=by have:=cn (List.drop 1) P;rwa[mO,mO,show j-1+1=j by omega]at this
    by_cases x:ks[j-1]'U=ks[j]'g
    ·rw[an x]at n;have I:∀(f:((j:Int)-k).toNat<(xs.drop k).length) (d:((j:Int)-k-1).toNat<(xs.drop k).length),decide (((xs.drop k)[((j:Int)-k).toNat]'f).l≠((xs.drop k)[((j:Int)-k-1).toNat]'d).l)=false:=λf d=>bd (by rw[A f,R d,C,S];exactλh=>h x.symm);refine rn ?_;(repeat(first|intro(v:Value)|intro(o:O1 _)|intro h));refine ji ?_;(repeat(first|intro(v:Value)|intro(o:O1 _)|intro h));rw[I];refine rn ?_;(repeat(first|intro(v:Value)|intro(o:O1 _)|intro h));exact aS ⟨ks.length-(j+1),_,U,rB,i,j+1,xs,e9,U,U,U,rfl,y,by rw[n,t],by rw[n,H],c7,av rfl (av (aQ U) rfl),rfl⟩
    ·rw[ai x]at n;have I:∀(f:((j:Int)-k).toNat<(xs.drop k).length) (d:((j:Int)-k-1).toNat<(xs.drop k).length),decide (((xs.drop k)[((j:Int)-k).toNat]'f).l≠((xs.drop k)[((j:Int)-k-1).toNat]'d).l)=true:=λf d=>bf (by rw[A f,R d,C,S];exactλh=>x h.symm);refine rn ?_;(repeat(first|intro(v:Value)|intro(o:O1 _)|intro h));refine ji ?_;(repeat(first|intro(v:Value)|intro(o:O1 _)|intro h));rw[I];refine rn ?_;(repeat(first|intro(v:Value)|intro(o:O1 _)|intro h));have c8:((j:Int)-k).toNat<(xs.drop k).length:=U;have hv:((xs.drop k)[((j:Int)-k).toNat]'c8).l=ks[j]'g:=by rw[A c8,C]
     simp only[hv];refine FB 0 (i:=i) (o:=0) (sz:=1) (a:=(⟨ks[j]'g⟩:bQ)) J J J J J J U U J rfl ?_;refine rn ?_;(repeat(first|intro(v:Value)|intro(o:O1 _)|intro h));refine aS ⟨ks.length-(j+1),_,U,rB,i+1,j+1,xs.set i ⟨ks[j]'g⟩,U,U,U,U,rfl,by rw[iw];exact y,?_,by rw[n,bo,H];rfl,?_,av (aQ U) (av (aQ U) rfl),rfl⟩
     ·rw[n,dA,t,da (by rw[iw];omega),List.take_set_of_le (bj _),xn];rfl
     ·rw[show j+1-1=j by omega,List.drop_set_of_lt j0];exact c7
   ·obtain rfl:j=ks.length:=U;rw[dI]at t H;refine rn ?_;(repeat(first|intro(v:Value)|intro(o:O1 _)|intro h));refine fr ?_;refine⟨_,?_,jB o,rfl⟩;rw[dc,t];have W:=xD (α:=bQ) (L:=aK v 9 (xs.take i++List.replicate (xs.length-i) (hQ.z 9))::M) 0 rfl (h:=i) (by simp;omega) (sz:=1) rfl;have m8:(xs.take i).length=i:=by rw[dy];omega
    have j4:(xs.take i++List.replicate (xs.length-i) (hQ.z 9)).take i=xs.take i:=by rw[Bj U,ic U]
    rw[j4]at W;exact W
  ·rw[ai u,p,<-da q]at s;have hd:∀(f:k<c.length) (d:((k:Int)-1).toNat<c.length),decide ((c[k]'f).l=(c[((k:Int)-1).toNat]'d).l)=false:=λf d=>bd (by simp only[d6,F,V];exactλe=>u e.symm);refine rn ?_;(repeat(first|intro(o:O1 _)|intro h));refine ji ?_;(repeat(first|intro(o:O1 _)|intro h));rw[hd];refine rn ?_;(repeat(first|intro(o:O1 _)|intro h));exact aS ⟨ks.length-(k+1),_,U,rB,k+1,U,q,rfl,s,av (aQ U) rfl,rfl⟩
 ·obtain rfl:k=ks.length:=U;rw[dI]at p;rw[p,<-z];refine rn ?_;(repeat(first|intro(o:O1 _)|intro h));refine fr ?_;exact⟨_,rB,o,rfl⟩
end
section
theorem Xb(a r1 b c:Int)(M:List aa):Fn prog 311 #[.agg #[.int .i64 a,.int .i64 r1],.agg #[.int .i64 b,.int .i64 c]] M λv L'=>v=.bool (decide (a<b\/(a=b/\r1<c)))/\L'=M:=by
 refine fo func311 ntmps311 ?_;by_cases e:a=b
 ·by_cases f:r1<c
  ·rw[bf (.inr ⟨e,f⟩:a<b\/(a=b/\r1<c))];exact bh
  ·rw[bd (by omega:¬(a<b\/(a=b/\r1<c)))];exact bh
 ·by_cases d:a<b
  ·rw[bf (.inl d:a<b\/(a=b/\r1<c))];exact bh
  ·rw[bd (by omega:¬(a<b\/(a=b/\r1<c)))];exact bh
end
end
section
def ee(a b:Ev):Bool:=decide (a.ed.key=b.ed.key)
def pz(a b:Ev):Bool:=ee a b&&decide (a.ed.label=b.ed.label)
def lx(a b:Ev):Bool:=pz a b&&decide (a.ed.value=b.ed.value)
def fU(k:Int)(s:Ev->Ev->Bool)(l:List Ev)(e:Ev):Bool:=l.any λa=>decide (a.ed.kind=k)&&s a e&&e.dq a
def oP(k:Int)(s:Ev->Ev->Bool)(l:List Ev)(e:Ev):Bool:=l.any λa=>decide (a.ed.kind=k)&&s a e&&a.dq e
def fi(l:List Ev):List Ev:=l.filter λe=>decide (e.ed.kind=1)&&!fU 2 ee l e
def iF(l a:List Ev)(e:Ev):Bool:=if e.ed.kind=3 then oP 1 ee a e else if e.ed.kind=4 then oP 1 ee a e&&!fU 5 lx l e else false
def ph(l a:List Ev):List Ev:=l.filter (iF l a)
structure fS where
 h:Int
 r:Int
deriving DecidableEq
instance:ab fS:=⟨2,λs=>[.int .i64 s.h,.int .i64 s.r],by decide,λ_=>rfl,λ_=>rfl⟩
def fS.less(a b:fS):Bool:=decide (a.h<b.h\/(a.h=b.h/\a.r<b.r))
def iI(x:fS):List fS->fS
 |[]=>x
 |s::l=>iI (if x.less s then s else x) l
def uX(l:List fS):Int:=match l with
 |[]=>-1
 |x::m=>((x::m).findIdx λs=>decide (s=iI x (x::m)):Nat)
theorem Jl(s:fS):∀(l:List fS) (x:fS),iI x (l++[s])=if(iI x l).less s then s else iI x l
 |[],x=>rfl
 |a::l,x=>Jl s l _
theorem Eo:∀(l:List fS) (x:fS),iI x l=x\/iI x l∈l
 |[],x=>.inl rfl
 |a::l,x=>by
  show iI (if x.less a then a else x) l=x\/_;rcases Eo l (if x.less a then a else x)with h|h
  ·by_cases hx:x.less a=true
   ·rw[an hx]at h⊢
    exact .inr (by show iI (if x.less a then a else x) l∈_;rw[an hx,h];exact fP ..)
   ·rw[ai hx]at h⊢
    exact .inl h
  ·exact .inr (eu _ h)
theorem YB{l:List fS}(h:l≠[]):0<=uX l/\(uX l).toNat<l.length:=by
 rcases l with _|⟨x,m⟩
 ·exact absurd rfl h
 ·have a:iI x (x::m)∈x::m:=by
   rcases Eo (x::m) x with h|h
   ·rw[h];exact fP ..
   ·exact h
  have:(x::m).findIdx (λs=>decide (s=iI x (x::m)))<(x::m).length:=List.findIdx_lt_length_of_exists ⟨_,a,by simp⟩;refine⟨?_,?_⟩
  ·show(0:Int)<=((x::m).findIdx _:Nat);omega
  ·show(((x::m).findIdx _:Nat):Int).toNat<_;omega
def pF(a:List UInt8)(b:Int)(ws:List Ev):List Ev:=ws.filter λe=>decide (e.ed.key=a)&&decide (e.ed.label=b)&&decide (e.ed.kind=3)
def oH(a:List UInt8)(b:Int)(ws:List Ev):List Ev:=ws.filter λe=>decide (e.ed.key=a)&&decide (e.ed.label=b)&&!decide (e.ed.kind=3)
def KE(a:List UInt8)(b:Int)(ws:List Ev):List fS:=(pF a b ws).map λe=>⟨e.h,e.r⟩
def A6(a:List UInt8)(b:Int)(ws:List Ev):List (List UInt8):=(pF a b ws).map λe=>e.ed.value
def mD(a:List UInt8)(b:Int)(ws:List Ev):Bool:=!(pF a b ws).isEmpty
def kQ(a:List UInt8)(b:Int)(ws:List Ev):List UInt8:=(A6 a b ws).getD (uX (KE a b ws)).toNat []
def qJ(a:List UInt8)(b:Int)(ws:List Ev):List (List UInt8):=dX (iO ((oH a b ws).map λe=>e.ed.value))
structure eW where
 key:List UInt8
 FW:Bool
 Cv:Bool
 f0:List UInt8
 f1:List UInt8
 s0:List (List UInt8)
 s1:List (List UInt8)
deriving DecidableEq
def tw(a:List UInt8)(ws:List Ev):eW:=⟨a,mD a 0 ws,mD a 1 ws,kQ a 0 ws,kQ a 1 ws,qJ a 0 ws,qJ a 1 ws⟩
def tp(l:List Ev):List (List UInt8):=dX (iO ((fi l).map λe=>e.ed.key))
def lW(l:List Ev):List eW:=(tp l).map λk=>tw k (ph l (fi l))
def cp(k:List UInt8):List (List UInt8×List Ev)->List Ev
 |[]=>[]
 |p::m=>if k=p.1 then p.2 else cp k m
def iv(m:List (List UInt8×List Ev)):List eW:=(iO (m.map (·.1))).flatMap λk=>lW (cp k m)
end
end Go.Proofs.YtogcfijlhpaeeaaGreat
