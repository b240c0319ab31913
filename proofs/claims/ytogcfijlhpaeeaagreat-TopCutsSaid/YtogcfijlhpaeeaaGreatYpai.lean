/- Texts. No condition. -/
import Derived.Test.YtogcfijlhpaeeaaGreatYpah
open Go.RowKit Go.Proofs.Tryz
set_option linter.all false
set_option maxHeartbeats 32000000
namespace Go.Proofs.YtogcfijlhpaeeaaGreat
variable{g:Nat}{e xt yt ty:TypeId}{x y:Operand}{L M:List aa}{v dv:Value}{f:Nat->Value}{P:Program}{R:Value->List aa->Prop}{af:Array Edge}{gd:Option (Nat×Bool)}
section
set_option maxRecDepth 20000 attribute [local irreducible] Ex aM Fn bI bJ bV fin meet ch aX bZ aP aN aI Rd aK Row ao Sub bk bP bS bN bg bR Hid bY
section
theorem QO(g:Nat)(most b sent:Int)(v0:Value)(a:List Ev)(M:List aa)(e:a.length<=1000000000):Fn prog 110 #[.pointer (some ⟨g,0,none⟩)] (ec g most b sent v0::aL v0 a::M)
  λr L'=>O1 r/\L'=aL r (a.take (min (max b 0) a.length).toNat)::ec g most b sent v0::aL v0 a::M:=by
 refine fo func110 ntmps110 ?_;refine rn ?_;intros;refine sc ?_;intros;obtain⟨k,c⟩:∃k,k=min (max b 0) (a.length:Int):=⟨_,rfl⟩;rw[<-c];refine rn ?_;intros;refine bc [] J call181 J J (KF _ _ _ rD (by simp;omega)) ?_;rintro r _ ⟨d,rfl⟩;refine rn ?_;intros;refine fr ?_;exact⟨_,rB,d,rfl⟩
theorem Lx(g:Nat)(most h sent:Int)(v0:Value)(a:List Ev)(e:Ev)(M:List aa)(j:iV sent a)(p:0<=sent/\sent<=1000000000)(l:a.length<=1000000000)(c:O1 v0):
  Fn prog 105 #[.pointer (some ⟨g,0,none⟩),.agg (ab.cells e).toArray] (ec g most h sent v0::aL v0 a::M)
  λr L'=>r=.int .i64 (gP most sent a e).1/\∃d,O1 d/\L'=ec g most h sent d::aL d (gP most sent a e).2::M:=by
 refine fo func105 ntmps105 ?_;unfold gP;by_cases f:most<=(a.length:Int)
 ·rw[an f];refine rn ?_;intros;refine ca [2,2] call99 (ud _ _ _ _ _ _ _) ?_;rintro _ _ ⟨rfl,rfl⟩;rw[bd U];refine rn ?_;intros;refine fr ?_;exact⟨_,rB,rfl,v0,c,rfl⟩
 ·rw[ai f];by_cases k:a.length=0
  ·obtain rfl:=dZ k;by_cases b:e.n=sent+([]:List Ev).length+1
   ·rw[an b];have i:e.n=sent+1:=by simpa using b
    refine rn ?_;intros;refine ca [2,2] call99 (ud _ _ _ _ _ _ _) ?_;rintro _ _ ⟨rfl,rfl⟩;rw[bf U];refine rn ?_;intros;refine fh [1] rE ?_;refine bU 8 (_::_::M) rfl rQ rF ?_;refine mn ?_;intros;refine rn ?_;intros;refine fr ?_;exact⟨_,ar rB (iT [2] _),rfl,_,by assumption,rfl⟩
   ·rw[ai b];have i:¬e.n=sent+1:=by simpa using b
    refine rn ?_;intros;refine ca [2,2] call99 (ud _ _ _ _ _ _ _) ?_;rintro _ _ ⟨rfl,rfl⟩;rw[bf U];refine rn ?_;intros;refine fr ?_;exact⟨_,rB,rfl,v0,c,rfl⟩
  ·have m:0<a.length:=U;have o:(a[((a.length:Int)-1).toNat]'U).n=sent+a.length:=by rw[j _ U];omega
   by_cases b:e.n=sent+a.length+1
   ·rw[an b];refine rn ?_;intros;refine ca [2,2] call99 (ud _ _ _ _ _ _ _) ?_;rintro _ _ ⟨rfl,rfl⟩;rw[bf U];refine rn ?_;intros;refine fh [1] rE ?_;refine bU 8 (_::_::M) rfl rQ rF ?_;refine mn ?_;intros;refine rn ?_;intros;refine fr ?_;exact⟨_,ar rB (iT [2] _),rfl,_,by assumption,rfl⟩
   ·rw[ai b];refine rn ?_;intros;refine ca [2,2] call99 (ud _ _ _ _ _ _ _) ?_;rintro _ _ ⟨rfl,rfl⟩;rw[bf U];refine rn ?_;intros;refine fr ?_;exact⟨_,rB,rfl,v0,c,rfl⟩
theorem Rq(g:Nat)(most f sent a:Int)(v0:Value)(b:List Ev)(M:List aa)(l:cD a)(o:0<=sent/\sent<=1000000000)(i:b.length<=1000000000)(d:O1 v0):
  Fn prog 200 #[.pointer (some ⟨g,0,none⟩),.int .i64 a] (ec g most f sent v0::aL v0 b::M)
  λr L'=>r=.int .i64 (fC sent b a)/\∃c,O1 c/\L'=ec g most f (fC sent b a) c::aL c (b.drop (fC sent b a-sent).toNat)::M:=by
 unfold cD at l;refine fo func200 ntmps200 ?_;by_cases h:a<=sent
 ·have e:fC sent b a=sent:=by unfold fC;omega
  rw[e,Int.sub_self];refine rn ?_;intros;refine fr ?_;exact⟨_,rB,rfl,v0,d,rfl⟩
 ·obtain⟨k,j⟩:∃k:Nat,(k:Int)=min (a-sent) b.length:=⟨(min (a-sent) (b.length:Int)).toNat,U⟩;have e:fC sent b a=sent+k:=by unfold fC;omega
  rw[e,show sent+(k:Int)-sent=k by omega,dc];refine rn ?_;intros;refine tx ?_;intros;rw[show IntKind.i64.wrap (min (IntKind.u64.wrap (a-sent)) (b.length:Int))=(k:Int)by rw[qs U U,<-j,wrap_i64 U U]];refine rn ?_;intros;refine ca [1] call253 (Wf _ _ 0 k _ U U i d) ?_;rintro n _ ⟨m,rfl⟩;refine rn ?_;intros;refine fr ?_;exact⟨_,ar rB (iT [1] _),rfl,n,m,rfl⟩
end
section
theorem WG(v0:Value)(b:List Ev)(c:aj)(M:List aa)(I:aI M v0 b)(F:b.length<=1000000)(z:∀e∈b,cD e.h):Fn prog 102 #[v0,c.val] M λv L'=>v=.int .i64 (IntKind.i64.wrap (lq b c))/\L'=M:=by
 refine fo func102 ntmps102 ?_;refine rn ?_;(repeat(first|intro(g:Nat)|intro h));revert g;intro t;refine bm [5,6,11] (λm vs L'=>∃(i:Nat),i<=b.length/\m=b.length-i/\vs=[.int .i64 ((b.take i).foldl (fg c) (0,false)).1,.bool ((b.take i).foldl (fg c) (0,false)).2,.int .i64 i]/\L'=ao t 50 (ab.cells c)::M) b.length ⟨0,U,U,rfl,rfl⟩ ?_;rintro m vs A L' ⟨i,hi,rfl,rfl,rfl⟩;refine bp [3,5,6,9,10,11] rG (λC=>?_);by_cases k:i<b.length
 ·have d:(b.take (i+1)).foldl (fg c) (0,false)=fg c ((b.take i).foldl (fg c) (0,false)) (b[i]'k):=by rw[da k,js];rfl
  have f:∀p:Int×Bool,(b.take (i+1)).foldl (fg c) (0,false)=p->∃(j:Nat),j<=b.length/\b.length-(i+1)=b.length-j/\[Value.int .i64 p.1,.bool p.2,.int .i64 (i+1)]=[.int .i64 ((b.take j).foldl (fg c) (0,false)).1,.bool ((b.take j).foldl (fg c) (0,false)).2,.int .i64 j]/\ao t 50 (ab.cells c)::M=ao t 50 (ab.cells c)::M:=λp y=>⟨i+1,U,rfl,by rw[y];rfl,rfl⟩;generalize (b.take i).foldl (fg c) (0,false)=s at d⊢
  obtain⟨h,a⟩:=s;unfold fg at d;simp only at d
  (repeat' (first|(refine r1 ?_;intros)|(refine fx J (λh=>?_) (λh=>?_)<;>try(exfalso;omega))|(apply fw;refine fH J J J (λh=>?_) (λh=>?_)<;>try(exfalso;omega))))
  refine ca [] call171 (Ew c (b[i]'k).r (b[i]'k).n _) ?_;rintro _ _ ⟨rfl,rfl⟩;cases o:c.has (b[i]'k).r (b[i]'k).n
  ·rw[ai (by rw[o];simp)]at d;have l:=f _ d;clear f d;refine rn ?_;intros;exact aS ⟨b.length-(i+1),_,U,rB,l⟩
  ·cases a
   ·rw[an ⟨o,.inl rfl⟩]at d;have l:=f _ d;clear f d;refine rn ?_;intros;exact aS ⟨b.length-(i+1),_,U,rB,l⟩
   ·by_cases w:h<(b[i]'k).h
    ·rw[an ⟨o,.inr w⟩]at d;have l:=f _ d;clear f d;refine rn ?_;intros;exact aS ⟨b.length-(i+1),_,U,rB,l⟩
    ·rw[ai (by rintro⟨_,u|u⟩;cases u;exact w u)]at d;have l:=f _ d;clear f d;refine rn ?_;intros;exact aS ⟨b.length-(i+1),_,U,rB,l⟩
 ·obtain rfl:i=b.length:=U;rw[dI];have o:=Od c z;unfold lq;have q:=xG (x:=(b.foldl (fg c) (0,false)).1+1);unfold cD at o q;by_cases H:(b.foldl (fg c) (0,false)).1=9223372036854775807
  ·clear q;exact bh
  ·rw[q U];clear q;exact bh
theorem Ys(x:aj)(r:Int)(M:List aa)(g:0<=r/\r<5)(hx:x.get r.toNat<=1048576)(f:0<=x.get r.toNat):Fn prog 101 #[x.val,.int .i64 r] M λv L'=>v=.tuple #[.agg (ab.cells (x.next r).1).toArray,.int .i64 (x.next r).2]/\L'=M:=by
 refine fo func101 ntmps101 ?_;have b:=x.getD_eq r.toNat;by_cases h:1048576<=x.get r.toNat
 ·have e:x.next r=(aj.zero,25):=by unfold aj.next;rw[ai U,an h]
  rw[e];have c:1048576<=[x.a,x.b,x.c,x.d,x.e].getD r.toNat 0:=by rw[b];exact h
  refine rn ?_;(repeat(first|intro(cs:List Value)|intro(a:_=List.set _ _ _)|intro h));refine fr ?_;exact⟨_,rB,rfl,rfl⟩
 ·have e:x.next r=(x.set r.toNat (x.get r.toNat+1),0):=by unfold aj.next;rw[ai U,ai h]
  rw[e];have c:¬1048576<=[x.a,x.b,x.c,x.d,x.e].getD r.toNat 0:=by rw[b];exact h
  refine rn ?_;(repeat(first|intro(cs:List Value)|intro(a:_=List.set _ _ _)|intro h));have d:cs=ab.cells (x.set r.toNat (x.get r.toNat+1)):=by rw[a,b,show(0+r.toNat*1)=r.toNat by omega];exact aj.zH x r.toNat U (x.get r.toNat+1)
  clear a;subst d;exact bh
end
end
section
def cf(a:List Ev):fz:=a.foldl ik []
theorem xZ(a:List Ev)(e:Ev):cf (a++[e])=ik (cf a) e:=by unfold cf;rw[js];rfl
def iM(s:List Ev×Int)(x:aF):List Ev×Int:=if x.kind=3 then(s.1,x.upto)else if x.kind=4 then(x.l,x.upto)else(s.1++x.l,s.2)
def replay(a:List aF):List Ev×Int:=a.foldl iM ([],0)
theorem iR(a:List aF)(x:aF):replay (a++[x])=iM (replay a) x:=by unfold replay;rw[js];rfl
def gM(c:aj)(e:Ev):aj:=c.set e.r.toNat (c.get e.r.toNat+1)
def cr(a:List Ev):aj:=a.foldl gM aj.zero
def mK(q r sent:Int)(w:List Ev)(e:Ev):List Ev:=if e.r=r/\sent<e.n then(gP q sent w e).2 else w
def ie(q r sent:Int)(a:List Ev):List Ev:=a.foldl (mK q r sent) []
def kJ(l:List eW)(k:List UInt8):Int:=if l.findIdx (λc=>decide (c.key=k))<l.length then(l.findIdx (λc=>decide (c.key=k)):Int)else-1
def eW.set(c:eW)(a:Int):List (List UInt8):=if a=0 then c.s0 else c.s1
def kb(L P:Int)(l:List eW)(e:Ed):Int:=
 if e.err≠0 then e.err else
 if e.kind=1 then(if 0<=kJ l e.key then 13 else if L<=l.length then 15 else 0)else
 if kJ l e.key<0 then 14 else
 match l[(kJ l e.key).toNat]? with
 |none=>14
 |some c=>if e.kind=4 then(if P<=(c.set e.label).length then 15 else 0)else if e.kind=5 then(if e.value∈c.set e.label then 0 else 16)else 0
theorem findIdx_map{α β:Type}(φ:α->β)(p:β->Bool):∀l:List α,(l.map φ).findIdx p=l.findIdx λa=>p (φ a)
 |[]=>rfl
 |a::l=>by rw[kq,List.findIdx_cons,List.findIdx_cons,findIdx_map φ p l]
theorem PX(l:List Ct)(k:List UInt8):kJ (l.map Ct.gK) k=iK l k:=by unfold kJ iK;rw[findIdx_map,bC];rfl
theorem Mo(L P:Int)(l:List Ct)(e:Ed):kb L P (l.map Ct.gK) e=nj L P l e:=by
 unfold kb nj;rw[PX,bC,kz];split
 ·rfl
 ·split
  ·rfl
  ·split
   ·rfl
   ·cases l[(iK l e.key).toNat]? with
    |none=>rfl
    |some c=>
     simp only[oF];unfold xg np;have f:c.gK.set e.label=(c.set e.label).map (·.l):=by unfold eW.set Ct.set Ct.gK;split<;>rfl
     rw[f,bC];have d:(e.value∈(c.set e.label).map (·.l))↔((c.set e.label).any λt=>decide (t.l=e.value))=true:=by rw[fA,eR];exact⟨λ⟨t,a,b⟩=>⟨t,a,by simp[b]⟩,λ⟨t,a,b⟩=>⟨t,a,by simpa using b⟩⟩
     split
     ·rfl
     ·split
      ·by_cases h:e.value∈(c.set e.label).map (·.l)
       ·rw[an h,an (d.1 h)]
       ·rw[ai h,ai (λk=>h (d.2 k))]
      ·rfl
structure aG where
 up:Bool
 aE:List aF
 tail:List UInt8
 bE:Bool
 keep:Int
 log:List Ev
 sent:Int
 aT:aj
 held:List Ev
 wait:List Ev
def jT(keep:Int)(n:Nat):Nat:=(min (max keep 0) (n:Int)).toNat
def aG.write(st:aG)(x:aF):aG×Int:=
  if st.bE then
    (if x.bytes.length<=jT st.keep x.bytes.length then{st with up:=false,bE:=false,aE:=st.aE++[x],tail:=[]}
     else{st with up:=false,bE:=false,tail:=x.bytes.take (jT st.keep x.bytes.length)},18)
  else({st with aE:=st.aE++[x]},0)
def aG.db(st:aG):aG:={st with up:=false,bE:=false}
def aG.cut(st:aG)(keep:Int):aG:={st with bE:=true,keep:=keep}
def aG.start(st:aG)(c:aJ)(r:Int):aG×Int:=
 if st.up then(st,19)else
 ({st with up:=true,tail:=[],bE:=false,log:=(replay st.aE).1,sent:=(replay st.aE).2,aT:=cr (replay st.aE).1,held:=[],wait:=ie c.q r (replay st.aE).2 (replay st.aE).1},0)
def aG.dm(st:aG)(r:Int)(e:Ed):Ev:=⟨r,st.aT.get r.toNat+1,st.aT,lq st.log st.aT,e⟩
def bw(k r:Int)(l:List Ev):aF:=⟨k,r,0,aj.zero,l⟩
def aG.dg(st:aG)(c:aJ)(r:Int)(e:Ed):Int:=
 if st.up=false then 18 else
 if kb c.l c.p (iv (cf st.log)) e≠0 then kb c.l c.p (iv (cf st.log)) e else
 if c.q<=st.wait.length then 17 else
 if 1048576<=st.aT.get r.toNat\/16777216<lq st.log st.aT then 25 else 0
def aG.edit(st:aG)(c:aJ)(r:Int)(e:Ed):aG×Int:=
 if st.dg c r e≠0 then(st,st.dg c r e)else
 if(st.write (bw 1 r [st.dm r e])).2≠0 then((st.write (bw 1 r [st.dm r e])).1,18)else
 ({(st.write (bw 1 r [st.dm r e])).1 with log:=st.log++[st.dm r e],aT:=st.aT.set r.toNat (st.aT.get r.toNat+1),wait:=(gP c.q st.sent st.wait (st.dm r e)).2},0)
def aG.push(st:aG)(c:aJ)(r:Int):aF×Int:=
 if st.up=false then(aF.zero,18)else if st.wait=[]then(aF.zero,24)else(bw 1 r (st.wait.take (min (max c.w 0) st.wait.length).toNat),0)
def aG.tell(st:aG)(r k:Int):aF×Int:=if st.up=false then(aF.zero,18)else(⟨k,r,0,st.aT,[]⟩,0)
def aG.iD(st:aG)(r a:Int):aG×Int:=
 let s:=max st.sent (min a (st.aT.get r.toNat))
 if s=st.sent then(st,0)else
 if(st.write ⟨3,r,s,aj.zero,[]⟩).2≠0 then((st.write ⟨3,r,s,aj.zero,[]⟩).1,18)else
 ({(st.write ⟨3,r,s,aj.zero,[]⟩).1 with sent:=fC st.sent st.wait s,wait:=st.wait.drop (fC st.sent st.wait s-st.sent).toNat},0)
def aG.state(st:aG)(r:Int):aG×Int:=
 if st.up=false then(st,18)else if 4096<st.log.length then(st,1)else
 if(st.write ⟨4,r,st.sent,aj.zero,st.log⟩).2≠0 then((st.write ⟨4,r,st.sent,aj.zero,st.log⟩).1,18)else((st.write ⟨4,r,st.sent,aj.zero,st.log⟩).1,0)
end
section
@[reducible] def yG(v:Value)(s:DS):List Value:=[v,.bool s.down,.bool s.cut,.int .i64 s.keep]
def bG(g:Nat)(s:DS):aa:=λh=>∃v:Value,v.oneCell'=true/\jf (ao g 284 (yG v s)) (aK v 5 s.b) h
def oA:Value:=.pointer none
def ay(g:Nat):Value:=.pointer (some ⟨g,0,none⟩)
def DS.zero:DS:=⟨[],false,false,0⟩
def cC(dv:Value)(s:DS):aa:=λh=>(dv=oA/\s=DS.zero/\h=λ_=>none)\/∃g,dv=ay g/\bG g s h
theorem bG.cls{s:DS}(o:O1 v)(M:List aa):Sub (bG g s::M) (ao g 284 (yG v s)::aK v 5 s.b::M):=
 ar (jE (λx a=>⟨v,o,a⟩) (bW M)) (qn _ _ M)
theorem bG.fn{k:FuncId}{args:Array Value}{s:DS}
  (h:∀v,O1 v->Fn P k args (ao g 284 (yG v s)::aK v 5 s.b::M) R):Fn P k args (bG g s::M) R:=λF w0 w r ⟨x,⟨v,o,a⟩,d,st⟩=>
 h v o F w0 w r (vR _ _ M w F ⟨x,a,d,st⟩)
theorem cC.of{s:DS}(M:List aa):Sub (cC (ay g) s::M) (bG g s::M):=jE (λx a=>.inr ⟨g,rfl,a⟩) (bW M)
theorem cC.LS(M:List aa):Sub (cC oA DS.zero::M) M:=λw F s=>by
 refine⟨λ_=>none,.inl ⟨rfl,rfl,rfl⟩,λn=>Or.inl rfl,?_⟩;have:aU.add (λ_=>none) F=F:=by funext n;rfl
 rw[this];exact s
theorem KH(g:Nat)(x:Value)(s:DS)(xs:List UInt8)(M:List aa)(hx:aI M x xs)(a:s.b.length+xs.length<=140737488355328):Fn prog 173 #[ay g,x] (bG g s::M) λr L'=>r=.int .i64 (s.write xs).2/\L'=bG g (s.write xs).1::M:=by refine bG.fn λv o=>?_;refine(UR g v x s xs M hx o a).dD ?_;rintro r L' ⟨rfl,b,o',rfl⟩;exact⟨_,bG.cls o' M,rfl,rfl⟩
theorem JM(g:Nat)(s:DS)(n:Int)(M:List aa):Fn prog 369 #[ay g,.int .i64 n] (bG g s::M) λr L'=>L'=bG g ⟨s.b,s.down,true,n⟩::M:=by refine bG.fn λv o=>?_;refine(Vk g v s.b s.down s.cut s.keep n M).dD ?_;rintro r L' rfl;exact⟨_,bG.cls (s:=⟨s.b,s.down,true,n⟩) o M,rfl⟩
theorem Ma(g:Nat)(s:DS)(M:List aa):Fn prog 123 #[ay g] (bG g s::M) λr L'=>L'=bG g ⟨s.b,true,false,s.keep⟩::M:=by refine bG.fn λv o=>?_;refine(JX g v s.b s.down s.cut s.keep M).dD ?_;rintro r L' rfl;exact⟨_,bG.cls (s:=⟨s.b,true,false,s.keep⟩) o M,rfl⟩
theorem LD(g:Nat)(s:DS)(M:List aa):Fn prog 124 #[ay g] (bG g s::M) λr L'=>L'=bG g ⟨s.b,false,false,s.keep⟩::M:=by refine bG.fn λv o=>?_;refine(Zk g v s.b s.down s.cut s.keep M).dD ?_;rintro r L' rfl;exact⟨_,bG.cls (s:=⟨s.b,false,false,s.keep⟩) o M,rfl⟩
theorem Ix(g:Nat)(s:DS)(M:List aa)(a:s.b.length<=140737488355328):Fn prog 126 #[ay g] (bG g s::M) λr L'=>O1 r/\L'=aK r 5 s.b::bG g s::M:=by refine bG.fn λv o=>?_;refine(TC g v s.b s.down s.cut s.keep M a).dD ?_;rintro r L' ⟨b,rfl⟩;exact⟨_,bl _ (bG.cls o M),b,rfl⟩
theorem Kx(g:Nat)(s:DS)(n:Int)(M:List aa)(a:s.b.length<=140737488355328):Fn prog 127 #[ay g,.int .i64 n] (bG g s::M) λr L'=>L'=bG g (s.trim n)::M:=by refine bG.fn λv o=>?_;refine(Zw g v s n M o a).dD ?_;rintro r L' ⟨b,o',rfl⟩;exact⟨_,bG.cls o' M,rfl⟩
@[reducible] def UA(c:aJ)(r:Int)(a:Bool)(d vl:Value)(sent:Int)(b i o:Value):List Value:=
 [.int .i64 c.n,.int .i64 c.w,.int .i64 c.q,.int .i64 c.h,.int .i64 c.l,.int .i64 c.p,.int .i64 r,.bool a,d,vl,.int .i64 sent,b,i,o]
@[reducible] def cd(g:Nat)(c:aJ)(r:Int)(a:Bool)(d vl:Value)(sent:Int)(b i o:Value):aa:=ao g 186 (UA c r a d vl sent b i o)
theorem cC.fn{k:FuncId}{args:Array Value}{A:Value->aa}{s:DS}
  (f:dv=oA->s=DS.zero->Fn P k args (A dv::M) R)(h:∀g,dv=ay g->Fn P k args (A dv::bG g s::M) R):Fn P k args (A dv::cC dv s::M) R:=λF w0 w r ⟨y,b,e,x,a,d,st⟩=>by
 rcases a with⟨c,i,rfl⟩|⟨g,c,a⟩
 ·refine f c i F w0 w r ⟨y,b,e,?_⟩;have:aU.add (λ_=>none) (y.add F)=y.add F:=by funext n;rfl
  rwa[this]at st
 ·exact h g c F w0 w r ⟨y,b,e,x,a,d,st⟩
set_option maxRecDepth 20000 attribute [local irreducible] Ex aM Fn bI bJ bV fin meet ch aX bZ aP aN aI Rd aK Row ao Sub bk bP bS bN bg bR Hid bY
section
attribute [local irreducible] bG cC
theorem My{d:Nat}{pos:String}(hx:aH f x=.pointer none)(hy:aH f y=.pointer none)(b:P.underlying xt=some (.pointer e)):aP P ⟨some d,.binOp .eql xt x y yt,ty,pos,af,gd⟩ f L (.bool true):=pr hx hy (λw=>by simp[eqGuard]) (λw=>by
  have a:(Op.equal xt (.pointer none) (.pointer none)).run P w=.ok true w:=by show(Op.equalIn (9999+1) xt (.pointer none) (.pointer none)).run P w=_;rw[Op.equalIn];simp[cX b]
  simp only[binOp,fe,a,fE,fT])
theorem Ao(g:Nat)(c:aJ)(r:Int)(a:Bool)(dv vl:Value)(sent:Int)(b i o:Value)(s:DS)(M:List aa):
  Fn prog 122 #[.pointer (some ⟨g,0,none⟩)] (cd g c r a dv vl sent b i o::cC dv s::M) λv L'=>∃gd,v=ay gd/\L'=cd g c r a (ay gd) vl sent b i o::bG gd s::M:=by
 refine cC.fn (A:=λdv=>cd g c r a dv vl sent b i o) (λd e=>?_) (λgd h=>?_)
 ·subst d;subst e;refine Fn.dD (R:=λv L'=>∃gd,v=ay gd/\L'=ao gd 284 (yG (.slice none 0 0) DS.zero)::aK (.slice none 0 0) 5 ([]:List UInt8)::cd g c r a (ay gd) vl sent b i o::M) ?_ ?_
  ·unfold oA ay;refine fo func122 ntmps122 ?_;refine rn ?_;(repeat(first|intro(g:Nat)|intro(v:Value)|intro(o:O1 _)|intro h));refine cH J J J (My J J J) ?_;refine rn ?_;(repeat(first|intro(g:Nat)|intro(v:Value)|intro(o:O1 _)|intro h));refine ca [] call184 (Ij _) ?_;rintro _ _ ⟨gd,rfl,rfl⟩;refine rn ?_;(repeat(first|intro(g:Nat)|intro(v:Value)|intro(o:O1 _)|intro h));refine fr ?_;exact⟨_,rB,gd,rfl,rfl⟩
  ·rintro v L' ⟨gd,rfl,rfl⟩;exact⟨_,ar (mm (L:=bG gd DS.zero::cd g c r a (ay gd) vl sent b i o::M) 1 rfl) (bG.cls rfl _),gd,rfl,rfl⟩
 ·subst h;unfold ay;refine fo func122 ntmps122 ?_;refine rn ?_;intros;refine fr ?_;exact⟨_,rB,gd,rfl,rfl⟩
end
section
theorem DS.Jc(s:DS)(xs:List UInt8):(s.write xs).2=0\/(s.write xs).2=18:=by unfold DS.write;split<;>simp
attribute [local irreducible] bG cC
theorem xP(gn:Nat)(c:aJ)(r:Int)(a:Bool)(dv vl:Value)(sent:Int)(b i o:Value)(s:DS)(x:aF)(v0:Value)(M:List aa)
  (m:aI M v0 x.l)(p:O1 v0)(j:x.l.length<=1000000000)(n:∀e∈x.l,e.ed.key.length<=1000/\e.ed.value.length<=1000)(k:x.aW)
  (g:s.b.length+x.bytes.length<=140737488355328):
  Fn prog 103 #[ay gn,.agg (bH x v0).toArray] (cd gn c r a dv vl sent b i o::cC dv s::M)
   λv L'=>∃gd,v=.int .i64 (s.write x.bytes).2/\L'=cd gn c r (a&&decide ((s.write x.bytes).2=0)) (ay gd) vl sent b i o::bG gd (s.write x.bytes).1::M:=by
 refine fo func103 ntmps103 ?_;refine rn ?_;(repeat(first|intro(v:Value)|intro(o:O1 _)|intro h));refine ca [] call172 (Fu x v0 _ (m.sub rB) p j n) ?_;rintro _ _ (⟨l,_,_⟩|⟨_,v,q,rfl,rfl⟩)
 ·exact absurd k l
 refine rn ?_;(repeat(first|intro(v:Value)|intro(o:O1 _)|intro h));refine ca [3,3] call122 (Ao _ c r a dv vl sent b i o s _) ?_;rintro _ _ ⟨gd,rfl,rfl⟩;refine rn ?_;(repeat(first|intro(v:Value)|intro(o:O1 _)|intro h));refine bc [1] J call173 rE J (KH gd v s x.bytes _ rD g) ?_;rintro _ _ ⟨rfl,rfl⟩;rcases s.Jc x.bytes with f|f
 ·rw[f];have d:(a&&decide ((0:Int)=0))=a:=by simp
  rw[d];refine rn ?_;(repeat(first|intro(o:O1 _)|intro h));refine fr ?_;exact⟨cd gn c r a (ay gd) vl sent b i o::bG gd (s.write x.bytes).1::M,ar rB (mm 1 rfl),gd,rfl,rfl⟩
 ·rw[f];have d:(a&&decide ((18:Int)=0))=false:=by simp
  rw[d];refine rn ?_;(repeat(first|intro(o:O1 _)|intro h));refine fr ?_;exact⟨cd gn c r false (ay gd) vl sent b i o::bG gd (s.write x.bytes).1::M,ar rB (mm 1 rfl),gd,rfl,rfl⟩
end
section
theorem EX:∀(l:List Ev) (m:fz),cZ (l.foldl ik m)<=cZ m+l.length
 |[],m=>bj _
 |e::l,m=>by have a:=EX l (ik m e);have b:cZ (ik m e)<=cZ m+1:=KT _ _ (λl=>by have:=Kk l e;omega) m;rw[qa,dL];omega
attribute [local irreducible] bG cC
theorem HL(gn:Nat)(c:aJ)(r:Int)(f:Bool)(dv vl:Value)(sent:Int)(a:Nat)(g j n:Value)(b l:List Ev)(m:fz)(M:List aa)
  (x:aI M n l)(A:O1 n)(C:O1 vl)(w:b.length+l.length<=1000000)(p:∀e∈l,e.aW/\e.ed.key.length<=1000/\e.ed.value.length<=1000)(y:cZ m+l.length<=1000000):
  Fn prog 106 #[ay gn,n] (cd gn c r f dv vl sent (ay a) g j::aL vl b::df a m::M)
   λv L'=>∃o,O1 o/\L'=cd gn c r f dv o sent (ay a) g j::aL o (b++l)::df a (l.foldl ik m)::M:=by
 refine fo func106 ntmps106 ?_;refine rn ?_;(repeat(first|intro(v:Value)|intro h));refine bm [17] (λz vs L'=>∃(i:Nat),i<=l.length/\z=l.length-i/\vs=[.int .i64 i]/\L'=cd gn c r f dv v sent (ay a) g j::aL v (b++l)::df a ((l.take i).foldl ik m)::M) l.length ⟨0,U,rfl,rfl,rfl⟩ ?_;rintro z vs t s ⟨i,hi,rfl,rfl,rfl⟩;refine bp [0,15,16,17] rG (λu=>?_);by_cases d:i<l.length
 ·have k:=p (l[i]'d) (bT d);have q:=EX (l.take i) m;rw[dy]at q;refine rn ?_;(repeat(first|intro(v:Value)|intro h));refine fh [3] rE ?_;refine bU 6 (_::_::_::M) rfl rQ rF ?_;refine mn ?_;(repeat(first|intro(v:Value)|intro h));refine ma [] call175 (JI a _ (l[i]'d) _ k.1 k.2.1 k.2.2 U) ?_;rintro _ _ ⟨rfl,rfl⟩;refine bn ?_;refine br rF ?_;refine mn ?_;(repeat(first|intro(v:Value)|intro h));refine rn ?_;(repeat(first|intro(v:Value)|intro h));refine aS ⟨l.length-(i+1),cd gn c r f dv v sent (ay a) g j::aL v (b++l)::df a ((l.take (i+1)).foldl ik m)::M,U,?_,i+1,U,rfl,av (aQ U) rfl,rfl⟩;rw[da d,js];exact cW [3,3] rE rB
 ·obtain rfl:i=l.length:=U;rw[dI];refine rn ?_;(repeat(first|intro(v:Value)|intro h));refine fr ?_;exact⟨_,rB,v,by assumption,rfl⟩
end
section
attribute [local irreducible] bG cC
theorem Oc(gn:Nat)(c:aJ)(r:Int)(a:Bool)(dv vl:Value)(sent:Int)(b i o:Value)(s:DS)(n:Int)(M:List aa):
  Fn prog 370 #[ay gn,.int .i64 n] (cd gn c r a dv vl sent b i o::cC dv s::M)
   λv L'=>∃gd,L'=cd gn c r a (ay gd) vl sent b i o::bG gd ⟨s.b,s.down,true,n⟩::M:=by
 refine fo func370 ntmps370 ?_;refine rn ?_;(repeat(first|intro(o:O1 _)|intro h));refine ca [] call122 (Ao _ c r a dv vl sent b i o s _) ?_;rintro _ _ ⟨gd,rfl,rfl⟩;refine rn ?_;(repeat(first|intro(o:O1 _)|intro h));refine ca [1] call369 (JM gd s n _) ?_;rintro _ _ rfl;refine rn ?_;(repeat(first|intro(o:O1 _)|intro h));refine fr ?_;exact⟨cd gn c r a (ay gd) vl sent b i o::bG gd ⟨s.b,s.down,true,n⟩::M,ar rB (mm 1 rfl),gd,rfl⟩
theorem H2(gn:Nat)(c:aJ)(r:Int)(a:Bool)(dv vl:Value)(sent:Int)(b i o:Value)(s:DS)(M:List aa):
  Fn prog 60 #[ay gn] (cd gn c r a dv vl sent b i o::cC dv s::M)
   λv L'=>∃gd,L'=cd gn c r false (ay gd) vl sent b i o::bG gd ⟨s.b,true,false,s.keep⟩::M:=by
 refine fo func60 ntmps60 ?_;refine rn ?_;(repeat(first|intro(o:O1 _)|intro h));refine ca [] call122 (Ao _ c r false dv vl sent b i o s _) ?_;rintro _ _ ⟨gd,rfl,rfl⟩;refine rn ?_;(repeat(first|intro(o:O1 _)|intro h));refine ca [1] call123 (Ma gd s _) ?_;rintro _ _ rfl;refine rn ?_;(repeat(first|intro(o:O1 _)|intro h));refine fr ?_;exact⟨cd gn c r false (ay gd) vl sent b i o::bG gd ⟨s.b,true,false,s.keep⟩::M,ar rB (mm 1 rfl),gd,rfl⟩
end
section
attribute [local irreducible] bG cC
theorem YI(gn:Nat)(c:aJ)(r:Int)(dv vl:Value)(sent:Int)(b i o:Value)(M:List aa):
  Fn prog 45 #[ay gn] (cd gn c r false dv vl sent b i o::M)
   λv L'=>v=.int .i64 18/\L'=cd gn c r false dv vl sent b i o::M:=by
 refine fo func45 ntmps45 ?_;exact bh
theorem RJ(gn:Nat)(c:aJ)(r:Int)(dv vl:Value)(sent:Int)(b i o:Value)(a:List Ev)(M:List aa)(f:O1 vl)(e:4096<a.length)(d:a.length<=1000000):
  Fn prog 45 #[ay gn] (cd gn c r true dv vl sent b i o::aL vl a::M)
   λv L'=>v=.int .i64 1/\L'=cd gn c r true dv vl sent b i o::aL vl a::M:=by
 refine fo func45 ntmps45 ?_;exact bh
theorem Mb(gn:Nat)(c:aJ)(r k:Int)(dv vl:Value)(sent:Int)(b i o:Value)(M:List aa):
  Fn prog 111 #[ay gn,.int .i64 k] (cd gn c r false dv vl sent b i o::M)
   λv L'=>v=.tuple #[.slice none 0 0,.int .i64 18]/\L'=cd gn c r false dv vl sent b i o::M:=by
 refine fo func111 ntmps111 ?_;exact bh
theorem Ku(gn gi:Nat)(c:aJ)(r k:Int)(dv vl:Value)(sent:Int)(b o:Value)(most:Int)(a:aj)(v0:Value)(d:List Ev)(M:List aa)(e:(⟨k,r,0,a,[]⟩:aF).cM):
  Fn prog 111 #[ay gn,.int .i64 k] (dU gi most a v0::aL v0 d::cd gn c r true dv vl sent b (ay gi) o::M)
   λv L'=>∃u,O1 u/\v=.tuple #[u,.int .i64 0]/\L'=bB u (⟨k,r,0,a,[]⟩:aF).bu::dU gi most a v0::aL v0 d::cd gn c r true dv vl sent b (ay gi) o::M:=by
 refine fo func111 ntmps111 ?_;refine rn ?_;intros;refine zL ?_;intros;refine ma [] call100 (wO gi most a v0 d _) ?_;rintro _ _ ⟨rfl,rfl⟩;refine mw ?_;intros
 (repeat' (first|(refine m1 ?_;intros)|(refine cG J J J (λh=>?_) (λh=>?_)<;>try(exfalso;omega))))
 refine ma [] call109 (zy ⟨k,r,0,a,[]⟩ (.slice none 0 0) _ (mC _) rfl (by simp) (by simp)) ?_;rintro _ _ (⟨f,_,_⟩|⟨_,u,g,rfl,rfl⟩)
 ·exact absurd e f
 refine mw ?_;intros
 (repeat' (first|(refine m1 ?_;intros)|(refine cG J J J (λh=>?_) (λh=>?_)<;>try(exfalso;omega))))
 refine rn ?_;intros;refine fr ?_;exact⟨_,rB,u,g,rfl,rfl⟩
end
section
attribute [local irreducible] bG cC
theorem Uj(gn:Nat)(c:aJ)(r:Int)(dv vl:Value)(sent:Int)(b i o:Value)(M:List aa):
  Fn prog 43 #[ay gn] (cd gn c r false dv vl sent b i o::M)
   λv L'=>v=.tuple #[.slice none 0 0,.int .i64 18]/\L'=cd gn c r false dv vl sent b i o::M:=by
 refine fo func43 ntmps43 ?_;refine rn ?_;(repeat(first|intro(o:O1 _)|intro h));refine ca [] call111 (Mb gn c r 3 dv vl sent b i o _) ?_;rintro _ _ ⟨rfl,rfl⟩;exact bh
theorem SY(gn gi:Nat)(c:aJ)(r:Int)(dv vl:Value)(sent:Int)(b o:Value)(most:Int)(a:aj)(v0:Value)(d:List Ev)(M:List aa)(e:(⟨3,r,0,a,[]⟩:aF).cM):
  Fn prog 43 #[ay gn] (dU gi most a v0::aL v0 d::cd gn c r true dv vl sent b (ay gi) o::M)
   λv L'=>∃u,O1 u/\v=.tuple #[u,.int .i64 0]/\L'=bB u (⟨3,r,0,a,[]⟩:aF).bu::dU gi most a v0::aL v0 d::cd gn c r true dv vl sent b (ay gi) o::M:=by
 refine fo func43 ntmps43 ?_;refine rn ?_;(repeat(first|intro(o:O1 _)|intro h));refine ca [] call111 (Ku gn gi c r 3 dv vl sent b o most a v0 d _ e) ?_;rintro _ _ ⟨u,f,rfl,rfl⟩;refine rn ?_;intros;refine fr ?_;exact⟨_,rB,u,f,rfl,rfl⟩
theorem Vr(gn:Nat)(c:aJ)(r:Int)(dv vl:Value)(sent:Int)(b i o:Value)(M:List aa):
  Fn prog 44 #[ay gn] (cd gn c r false dv vl sent b i o::M)
   λv L'=>v=.tuple #[.slice none 0 0,.int .i64 18]/\L'=cd gn c r false dv vl sent b i o::M:=by
 refine fo func44 ntmps44 ?_;refine rn ?_;(repeat(first|intro(o:O1 _)|intro h));refine ca [] call111 (Mb gn c r 5 dv vl sent b i o _) ?_;rintro _ _ ⟨rfl,rfl⟩;exact bh
theorem WJ(gn gi:Nat)(c:aJ)(r:Int)(dv vl:Value)(sent:Int)(b o:Value)(most:Int)(a:aj)(v0:Value)(d:List Ev)(M:List aa)(e:(⟨5,r,0,a,[]⟩:aF).cM):
  Fn prog 44 #[ay gn] (dU gi most a v0::aL v0 d::cd gn c r true dv vl sent b (ay gi) o::M)
   λv L'=>∃u,O1 u/\v=.tuple #[u,.int .i64 0]/\L'=bB u (⟨5,r,0,a,[]⟩:aF).bu::dU gi most a v0::aL v0 d::cd gn c r true dv vl sent b (ay gi) o::M:=by
 refine fo func44 ntmps44 ?_;refine rn ?_;(repeat(first|intro(o:O1 _)|intro h));refine ca [] call111 (Ku gn gi c r 5 dv vl sent b o most a v0 d _ e) ?_;rintro _ _ ⟨u,f,rfl,rfl⟩;refine rn ?_;intros;refine fr ?_;exact⟨_,rB,u,f,rfl,rfl⟩
end
end
end Go.Proofs.YtogcfijlhpaeeaaGreat
