/- Texts. No condition. -/
import Derived.Lib.AppendStr
import Derived.Lib.Strings
import Derived.Test.YtogcfijlhpaeeaaGreatChecked
import Derived.Test.YtogcfijlhpaeeaaGreatYpab
open Go.RowKit Go.Proofs.Tryz
set_option linter.all false
set_option maxHeartbeats 32000000
namespace Go.Proofs.YtogcfijlhpaeeaaGreat
variable{k i:Nat}{r b a j m:Int}{t e xt yt:TypeId}{x y:Operand}{cs zs:List Value}{α:Type}{k':IntKind}
section
section
variable{P:Program}{n:Nat}{ops:Array Oper}{Q:bx}{f:Nat->Value}{L:List aa}{rest:List Oper}{d:Nat}{ty:TypeId}{pos:String}{af:Array Edge}
theorem Py[ab α][a:hQ P e α]{k:IntKind}{by_:Nat}(hd:Nat.blt d n=true)(hx:aH f x=.int k 0)(hy:aH f y=.int k' m)(z:P.underlying t=some (.slice e))(o:P.bytesOf e=by_)(c:Nat.blt 0 by_=true)
  (b:0<=m)(I:m*by_<=140737488355328)(h:∀v,O1 v->aM P n ops rest Q (aZ f d v) (aK v e ([]:List α)::L)):
  aM P n ops (⟨some d,.makeSlice t x y,ty,pos,af,none⟩::rest) Q f L:=by
 have r:0<ab.sz α:=ab.pos;have c:=cT c;obtain⟨i,j,q,u,p,H,S⟩:=AT a.size r o a.eq;obtain⟨m,rfl⟩:=jF b;refine lr rfl hd (R:=λv L'=>v.oneCell'=true/\L'=aK v e ([]:List α)::L) (λF w s=>?_) (λv L' C=>by obtain⟨l,rfl⟩:=C;exact h v l);have M:(m:Int)*1<=(m:Int)*by_:=Int.mul_le_mul_of_nonneg_left U U;have g:=run_make (P:=P) w t e i j z q H k k' 0 m (eH _) b (by rw[p,Int.mul_comm];omega) U;simp only[dc,Int.toNat_zero]at g;refine⟨.slice (some ⟨w.heap.size,0,none⟩) 0 m,w.alloc (.cells (madeCells j.cells (m*i.size)) e),_,.inl ?_,gO w,qx (A:=aK (.slice (some ⟨w.heap.size,0,none⟩) 0 m) e ([]:List α)) _ s ?_,rfl,rfl⟩
 ·simp[execOp,hx,hy,g]
 ·refine⟨cN _,.inr ⟨w.heap.size,m,_,by simp,rfl,by simp,by unfold maxLen;omega,by rw[size_madeCells,u],?_⟩⟩;simp[cellsOf]
end
end
section
theorem PS(s:List UInt8):Lib.strCells (S s)=cellsOf s:=by
 show List.map (λb:UInt8=>Value.int .u8 b.toNat) _=_;have:(S s).data.toList=s:=by simp[S]
 rw[this]
 induction s with
 |nil=>rfl
 |cons a l ih=>
  simp[cellsOf,ab.cells]at ih⊢
  exact ih
section
variable{P:Program}{w:World}{L:List aa}{F:aU}
theorem O2{v:Value}{u ty:TypeId}{xs:List UInt8}(s:List UInt8)(hi:L[i]?=some (aK v e xs))(m9:0<xs.length)(x:P.underlying t=some (.slice e))(y:P.underlying u=some .string)
  (hs:P.cellsOf e=1)(R:P.bytesOf e=1)(hz:fI P e=some zs)(j7:zs.length=1)(hb:xs.length+s.length<=140737488355328)(st:aN w L F):
  ∃I w',(Builtin.append_ #[t,u] ty #[v,.string (S s)]).run P w=.ok I w'/\Rest w w'/\aN w' (L.set i (aK I e (xs++s))) F:=by
 obtain⟨C,z,q,r,V,j6,j4⟩:=AT hs U R hz;have d8:i<L.length:=(iA.1 hi).1;obtain⟨j0,A⟩:=rp hi st;have a:ab.sz UInt8=1:=rfl;rw[a]at j0 A;have l8:=uy s;have k:=sF s;have p:=PS s;have j5:z.cells.size=1:=by rw[j4];simpa using j7
 rcases A with⟨h0,b,rfl⟩|⟨g,c2,o,rfl,d,hk,W,m8,m⟩
 ·omega
 ·have c8:(cellsOf xs).length=xs.length*1:=by rw[cN,a]
  have n8:(cellsOf s).length=s.length*1:=by rw[cN,a]
  by_cases e8:xs.length+s.length<=c2
  ·have l:=Lib.run_append_room_string (P:=P) w t u ty e C x y q r g xs.length c2 o d (S s) U U;refine⟨_,_,l,gO w,?_⟩;obtain⟨h,⟨m7,c7⟩,M,H⟩:=vW hi st;rcases c7 with⟨_,⟨b,Q⟩,_⟩|⟨g2,c3,c,j1,rfl,_⟩
   ·simp at Q;omega
   ·cases j1;have d6:c=o:=by have:=ue H g _ (nz g _);rw[d]at this;cases this;rfl
    subst d6;rw[k,p];refine Dw (o':=.cells ((c.toList.take xs.length++cellsOf s++c.toList.drop (xs.length+s.length)).toArray) e (0,0)) d8 M H ?_ (λn hn=>setRow_other w g _ hn) (setRow_heap w g c _ e (0,0) d);refine⟨cN _,.inr ⟨g,c2,_,by simp,rfl,by simpa using e8,W,?_,?_⟩⟩
    ·simp;rw[a];omega
    ·rw[qh]at m;simp only[m];rw[<-nR,<-cN];exact jL
  ·have l:=Lib.run_append_grow_string (P:=P) w t u ty e C z x y q j6 ⟨g,0,none⟩ xs.length c2 (cellsOf xs) (by rw[c8,r]) (λj u f=>by
      rw[iY,xm d,<-m]at*
      rw[mz]at f;split at f
      ·simpa using f
      ·cases f) (S s) U U (growslice_fits U (by rw[V,k];omega))
   refine⟨_,_,l,gO w,?_⟩;rw[k,p];have d7:=grownCap_ge w (xs.length+s.length) c2 e;have c9:grownCap w (xs.length+s.length) c2 e<=maxLen:=grownCap_le_maxLen w (xs.length+s.length) c2 e (by unfold maxLen;omega);refine aN.KW (w:=w.drew) _ hi (xw st) ?_;refine⟨cN _,.inr ⟨w.heap.size,_,_,by simp,rfl,by simpa using d7,c9,?_,?_⟩⟩
   ·simp only[EM,Gn,size_zeroCells,j5,cN,a];omega
   ·simp only[Fs];rw[<-nR,<-cN];exact jL
end
section
variable{P:Program}{n:Nat}{ops:Array Oper}{Q:bx}{f:Nat->Value}{L:List aa}{rest:List Oper}{d:Nat}{ty:TypeId}{pos:String}{af:Array Edge}{v:Value}{xs:List UInt8}
theorem GW(i:Nat){s:List UInt8}{u:TypeId}(hd:Nat.blt d n=true)(hx:aH f x=v)(hi:L[i]?=some (aK v e xs))(hy:aH f y=.string (S s))(q:0<xs.length)(m:P.underlying t=some (.slice e))(p:P.underlying u=some .string)
  (l:P.cellsOf e=1)(g:P.bytesOf e=1)(r:fI P e=some zs)(z:zs.length=1)(c:xs.length+s.length<=140737488355328)
  (h:∀a,O1 a->aM P n ops rest Q (aZ f d a) (L.set i (aK a e (xs++s)))):aM P n ops (⟨some d,.call ⟨.builtin .append,#[x,y],#[t,u]⟩,ty,pos,af,none⟩::rest) Q f L:=by
 refine lr rfl hd (R:=λa L'=>a.oneCell'=true/\L'=L.set i (aK a e (xs++s))) (λF w st=>?_) (λa L' e=>by obtain⟨o,rfl⟩:=e;exact h a o);obtain⟨a,w',k,j,b⟩:=O2 (P:=P) (ty:=ty) s hi q m p l g r z c st;exact⟨a,w',_,.inl (by simp[execOp,resolve,invoke,builtin,hx,hy,k]),j,b,aK.one (by rw[tM (iA.1 hi).1]) b,rfl⟩
end
end
section
def vB(n:Nat):List UInt8:=if h:n<128 then[UInt8.ofNat n]else UInt8.ofNat (n%128+128)::vB (n/128)
termination_by n
decreasing_by omega
def vT(i a:Nat):List UInt8->Except Int (Nat×Nat)
 |[]=>.error (if i=10 then 3 else 2)
 |c::l=>if i=10 then .error 3 else
  if 128<=c.toNat then vT (i+1) (a+((c.toNat-128)*2^(7*i))%2^64) l
  else if(0<i/\c.toNat=0)\/(i=9/\1<c.toNat)then .error 3 else .ok (a+c.toNat*2^(7*i),i+1)
def iQ(l:List UInt8):Except Int (Nat×Nat):=vT 0 0 l
theorem qw{n:Nat}(h:n<128):vB n=[UInt8.ofNat n]:=by rw[vB,BS h]
theorem uk{n:Nat}(h:¬n<128):vB n=UInt8.ofNat (n%128+128)::vB (n/128):=by conv=>lhs;rw[vB,dif_neg h]
theorem uO(n:Nat):0<(vB n).length:=by
 by_cases h:n<128
 ·rw[qw h];simp
 ·rw[uk h];simp
theorem wR:∀(k n:Nat),n<2^(7*k)->0<k->(vB n).length<=k
 |0,n,_,h=>by omega
 |k+1,n,hn,_=>by
  by_cases h:n<128
  ·rw[qw h];simp
  ·rw[uk h];have a:0<k:=by
    rcases Nat.eq_zero_or_pos k with rfl|a
    ·simp at hn;omega
    ·exact a
   have:n/128<2^(7*k):=by rw[show 7*(k+1)=7*k+7 by omega,qX]at hn;exact yA (by rw[pE];exact hn)
   have:=wR k (n/128) this a;simp only[dL];omega
theorem JW:∀(k n i a:Nat) (l:List UInt8),n<2^(7*k)->i+k<=9->(0<i->0<n)->vT i a (vB n++l)=.ok (a+n*2^(7*i),i+(vB n).length)
 |0,n,i,a,l,hn,hi,h0=>by
  have:n=0:=by simpa using hn
  subst this;rw[qw U];have b:i=0:=by
   rcases Nat.eq_zero_or_pos i with h|h
   ·exact h
   ·exact absurd (h0 h) U
  subst b;rfl
 |k+1,n,i,a,l,hn,hi,h0=>by
  by_cases h:n<128
  ·rw[qw h];have e:(UInt8.ofNat n).toNat=n:=by simp;omega
   simp only[pY,lG,vT,e];rw[ai U,ai U,ai U];rfl
  ·rw[uk h];have e:(UInt8.ofNat (n%128+128)).toNat=n%128+128:=by simp;omega
   have d:n/128<2^(7*k):=by rw[show 7*(k+1)=7*k+7 by omega,qX]at hn;exact yA (by rw[pE];exact hn)
   have f:=JW k (n/128) (i+1) (a+n%128*2^(7*i)) l d U (λ_=>by omega);simp only[pY,vT,e];have c:n%128*2^(7*i)<2^64:=by
    have g:n%128*2^(7*i)<128*2^(7*i):=Nat.mul_lt_mul_of_pos_right U (Nat.pow_pos U);have j:128*2^(7*i)=2^(7+7*i):=by rw[qX]
    have m:2^(7+7*i)<=2^64:=vY U U;omega
   rw[ai U,an U,show n%128+128-128=n%128 by omega,uB c,f];congr 2
   ·rw[show 7*(i+1)=7+7*i by omega,qX,qR,<-Nat.mul_assoc,<-jr];congr 2;omega
   ·simp only[dL];omega
theorem wb{n:Nat}(h:n<2^63)(l:List UInt8):iQ (vB n++l)=.ok (n,(vB n).length):=by have:=JW 9 n 0 0 l (by simpa using h) U U;simpa[iQ]using this
theorem ND:∀(l:List UInt8) (i a:Nat),i<=10->vT i a l=vT i a (l.take (10-i))
 |[],i,a,_=>by simp
 |c::l,i,a,hi=>by
  by_cases h:i=10
  ·subst h;simp[vT]
  ·rw[show 10-i=(10-(i+1))+1 by omega,Dj];simp only[vT];rw[ai h,ai h];split
   ·exact ND l (i+1) _ U
   ·rfl
theorem Pd(l:List UInt8):iQ l=iQ (l.take 10):=ND l 0 0 U
end
section
@[reducible] def bB(v:Value)(l:List UInt8):aa:=aK v 5 l
theorem Jt{P:Program}{f:Nat->Value}{L:List aa}{d:Nat}{ty:TypeId}{pos:String}{af:Array Edge}{gd:Option (Nat×Bool)}(hx:aH f x=.int .u64 a)(hy:aH f y=.int .u64 b)(c:0<=a)(i:0<b)(h:a<=18446744073709551615):
  aP P ⟨some d,.binOp .quo xt x y yt,ty,pos,af,gd⟩ f L (.int .u64 (a/b)):=by
 have e:0<=a/b:=FE c U;have g:a/b<=a:=Int.ediv_le_self b c;refine mc hx hy rfl (λw=>?_);simp[binOp,Op.intDiv,show b≠0 by omega,Dm c,qs e (show a/b<=18446744073709551615 by omega)]
theorem u64_or{a b:Nat}(e:a<2^64)(f:b<2^64):bits .or .u64 (a:Int) (b:Int)=((a|||b:Nat):Int):=by have c:((a:Int)%((2^64:Nat):Int)).toNat=a:=U;have d:((b:Int)%((2^64:Nat):Int)).toNat=b:=U;show IntKind.u64.wrap ((BitVec.ofInt 64 a|||BitVec.ofInt 64 b).toNat:Nat)=_;have h:=Nat.or_lt_two_pow e f;rw[BitVec.toNat_or,vL,vL,c,d,qs U U]
theorem JJ{a x:Nat}(hi:i<=9)(f:a<2^(7*i)):bits .or .u64 (a:Int) (IntKind.u64.wrap ((x:Int)*2^(min ((7*(i:Int)).toNat) IntKind.u64.bits)))=((a+(x*2^(7*i))%2^64:Nat):Int):=by
 have b:min ((7*(i:Int)).toNat) IntKind.u64.bits=7*i:=by show min ((7*(i:Int)).toNat) 64=7*i;omega
 have c:IntKind.u64.wrap ((x:Int)*2^(7*i))=((x*2^(7*i)%2^64:Nat):Int):=by rw[IntKind.wrap_u64];simp
 have g:2^(7*i)<=2^63:=vY U U;rw[b,c,u64_or U (zk _ (by decide))];congr 1;have d:x*2^(7*i)%2^64=2^(7*i)*(x%2^(64-7*i)):=by
  have e:2^64=2^(7*i)*2^(64-7*i):=by rw[<-qX];congr 1;omega
  rw[pE x,e,Nat.mul_mod_mul_left]
 rw[d,Nat.or_comm,<-Nat.two_pow_add_eq_or_of_lt f,Ez]
def oB:Except Int (Nat×Nat)->Value
 | .ok (n,u)=>.tuple #[.int .u64 n,.int .i64 u,.int .i64 0]
 | .error e=>.tuple #[.int .u64 0,.int .i64 0,.int .i64 e]
set_option maxRecDepth 20000 attribute [local irreducible] Ex aM Fn bI bJ bV fin meet ch aX bZ aP aN aI Rd aK Row ao Sub bk bP bS bN bg bR Hid bY
section
theorem Md(n:Nat)(M:List aa)(d:n<2^63):Fn prog 179 #[.int .u64 n] M λv L'=>O1 v/\L'=bB v (vB n)::M:=by
 refine fo func179 ntmps179 ?_;refine rn ?_;(repeat(first|intro(v:Value)|intro h));have k:=wR 9 n (by simpa using d) U;refine bF ?_ (cA (α:=UInt8) none 5 M);refine bm [0,3] (λq vs L'=>∃(m:Nat) (b:Value) (pre:List UInt8),m<2^63/\q=m/\vB n=pre++vB m/\b.oneCell'=true/\vs=[.int .u64 m,b]/\L'=bB b pre::M) n ⟨n,_,[],d,rfl,rfl,rfl,rfl,rfl⟩ ?_;rintro q vs g L' ⟨_,b,pre,j,rfl,a,o,rfl,rfl⟩;refine bp [0,3] rG (λi=>?_);have f:=cn List.length a;rw[bo]at f;have l:=uO q;by_cases c:q<128
 ·rw[qw c]at a;refine rn ?_;(repeat(first|intro(v:Value)|intro h));refine fr ?_;rw[a];exact⟨_,rB,by assumption,rfl⟩
 ·rw[uk c]at a;refine rn ?_;(repeat(first|intro(v:Value)|intro h));refine cH J J J (Jt J J U U U) ?_;refine rn ?_;(repeat(first|intro(v:Value)|intro h));have e:((q:Int)%128+128).toNat=q%128+128:=U;rw[e,show((q:Int)/128)=((q/128:Nat):Int)by omega];exact aS ⟨q/128,bB v (pre++[UInt8.ofNat (q%128+128)])::M,U,rB,q/128,v,_,U,rfl,by rw[a];simp,by assumption,av rfl (av rfl rfl),rfl⟩
theorem wX(v0:Value)(l:List UInt8)(M:List aa)(y:aI M v0 l)(hl:l.length<=1000000000):Fn prog 247 #[v0] M λv L'=>v=oB (iQ l)/\L'=M:=by
 have w:iQ l=iQ (l.take 10):=Pd l;have H:(l.take 10).length<=10:=by rw[dy];omega
 refine fo func247 ntmps247 ?_;refine pW 2 [0,2] (λvs L'=>∃r:Value,aI M r (l.take 10)/\vs=[r,.int .u64 0]/\L'=M) ?_ ?_
 ·rintro vs R z ⟨r,I,rfl,rfl⟩;rw[w];generalize l.take 10=b at I H;clear w y;refine rn ?_;(repeat(first|intro(j:_=List.set _ _ _)|intro h));refine bm [2,14] (λq vs L'=>∃(i f:Nat),i<=b.length/\q=b.length-i/\iQ b=vT i f (b.drop i)/\(i<=9->f<2^(7*i))/\f<2^65/\vs=[.int .u64 f,.int .i64 i]/\L'=z) b.length ⟨0,0,U,rfl,rfl,λ_=>by simp,by decide,rfl,rfl⟩ ?_;rintro q vs P L ⟨i,f,hi,rfl,c,k,V,rfl,rfl⟩;refine bp [0,2,12,13,14] rG (λQ=>?_);by_cases a:i<b.length
  ·have W:=(b[i]'a).toNat_lt;have k:=k U;rw[vV a,vT,ai U]at c;by_cases t:128<=(b[i]'a).toNat
   ·rw[an t]at c;obtain⟨x,hx⟩:∃x:Nat,((b[i]'a).toNat:Int)-128=x:=⟨(b[i]'a).toNat-128,U⟩;have m:=JJ (x:=x) (show i<=9 by omega) k;have p:(b[i]'a).toNat-128=x:=U;rw[p]at c;have A:i+1<=9->f+x*2^(7*i)%2^64<2^(7*(i+1)):=λc7=>by
     have d:x*2^(7*i)%2^64<=x*2^(7*i):=Nat.mod_le _ _;have g:x*2^(7*i)<=127*2^(7*i):=iW _ U;have o:2^(7*(i+1))=128*2^(7*i):=by rw[show 7*(i+1)=7+7*i by omega,qX]
     omega
    have C:f+x*2^(7*i)%2^64<2^65:=by have d:x*2^(7*i)%2^64<2^64:=zk _ (by decide);have g:2^(7*i)<=2^63:=vY U U;omega
    refine rn ?_;(repeat(first|intro(j:_=List.set _ _ _)|intro h));rw[hx,BR (show(0:Int)<=x by omega) U,qs (show(0:Int)<=x by omega) U,m];exact aS ⟨b.length-(i+1),_,U,rB,i+1,_,U,rfl,c,A,C,av rfl (av (aQ U) rfl),rfl⟩
   ·rw[ai t]at c;by_cases u:(0<i/\(b[i]'a).toNat=0)\/(i=9/\1<(b[i]'a).toNat)
    ·rw[an u]at c;rw[c];have j:(0<i/\(b[i]'a).toNat=0)\/(i=9/\1<(b[i]'a).toNat/\¬(b[i]'a).toNat=0):=U;rcases j with⟨d,g⟩|⟨d,g,o⟩
     all_goals
      refine rn ?_;(repeat(first|intro(j:_=List.set _ _ _)|intro h));refine fr ?_;exact⟨_,rB,rfl,rfl⟩
    ·rw[ai u]at c;obtain⟨x,hx⟩:∃x:Nat,((b[i]'a).toNat:Int)=x:=⟨(b[i]'a).toNat,rfl⟩;have p:(b[i]'a).toNat=x:=U;have m:=JJ (x:=x) (show i<=9 by omega) k;have F:x*2^(7*i)<2^64:=by
      rcases(show i<=8\/(i=9/\x<=1)by omega)with h|⟨rfl,h⟩
      ·have d:x*2^(7*i)<=127*2^(7*i):=iW _ U;have g:2^(7*i)<=2^56:=vY U U;omega
      ·have d:x*2^(7*9)<=1*2^(7*9):=iW _ h;omega
     rw[uB F]at m;rw[p]at c;rw[c];have j:i=0\/(0<i/\¬(b[i]'a).toNat=0/\i≠9)\/(0<i/\¬(b[i]'a).toNat=0/\i=9/\¬1<(b[i]'a).toNat):=U;rcases j with d|⟨d,g,o⟩|⟨d,g,o,S⟩
     all_goals
      refine rn ?_;intros;refine fr ?_;refine⟨_,rB,?_,rfl⟩;rw[hx,m];rfl
  ·obtain rfl:i=b.length:=U;rw[List.drop_length,vT]at c;by_cases n:b.length=10
   ·refine rn ?_;intros;refine fr ?_;rw[c,an n];exact⟨_,rB,rfl,rfl⟩
   ·refine rn ?_;intros;refine fr ?_;rw[c,ai n];exact⟨_,rB,rfl,rfl⟩
 ·intro s;by_cases n:10<l.length
  ·refine rn ?_;intros;exact s _ _ ⟨_,bW _,_,rD,rfl,rfl⟩
  ·have e:l.take 10=l:=ic U;refine rn ?_;intros;exact s _ _ ⟨_,bW _,_,by rw[e];exact y,rfl,rfl⟩
end
end
section
def jK(r:Nat):Nat:=if r%2=1 then(r/2)^^^3988292384 else r/2
def gE:Nat->Nat->Nat
 |0,r=>r
 |k+1,r=>jK (gE k r)
def kD(r:Nat)(c:UInt8):Nat:=gE 8 (r^^^c.toNat)
def kP(l:List UInt8):Nat:=4294967295^^^l.foldl kD 4294967295
theorem W5{r:Nat}(h:r<2^32):jK r<2^32:=by
 unfold jK;split
 ·exact vS U (by decide)
 ·omega
theorem zf{r:Nat}(h:r<2^32):∀k,gE k r<2^32
 |0=>h
 |k+1=>W5 (zf h k)
theorem VX{r:Nat}(h:r<2^32)(c:UInt8):kD r c<2^32:=zf (vS h (by have:=c.toNat_lt;omega)) 8
theorem Cj{r:Nat}(h:r<2^32):∀l:List UInt8,l.foldl kD r<2^32
 |[]=>h
 |c::l=>Cj (VX h c) l
theorem CX(l:List UInt8):kP l<2^32:=vS (by decide) (Cj (by decide) l)
def lY(l:List UInt8):List UInt8:=[UInt8.ofNat (kP l/2^(8*0)%256),UInt8.ofNat (kP l/2^(8*1)%256),UInt8.ofNat (kP l/2^(8*2)%256),UInt8.ofNat (kP l/2^(8*3)%256)]
def dN(l:List UInt8):List UInt8:=l++lY l
def gL(b:List UInt8):Option (List UInt8):=if 4<=b.length/\b.drop (b.length-4)=lY (b.take (b.length-4))then some (b.take (b.length-4))else none
theorem Aa(l:List UInt8):(lY l).length=4:=rfl
theorem nJ(l:List UInt8):(dN l).length=l.length+4:=by simp[dN,Aa]
theorem uU(l:List UInt8):gL (dN l)=some l:=by unfold gL;have h:=nJ l;rw[h,show l.length+4-4=l.length by omega];unfold dN;rw[jL,rA,an ⟨U,rfl⟩]
theorem EV{b l:List UInt8}(h:gL b=some l):b=dN l:=by
 unfold gL at h;split at h
 ·rename_i a;simp only[iE]at h;subst h;unfold dN;rw[<-a.2,mi]
 ·cases h
end
section
instance:hQ prog 5 UInt8:=⟨0,by kernel_rfl,by kernel_rfl⟩
theorem u32_xor{a b:Nat}(e:a<2^32)(f:b<2^32):bits .xor .u32 (a:Int) (b:Int)=((a^^^b:Nat):Int):=by have c:((a:Int)%((2^32:Nat):Int)).toNat=a:=U;have d:((b:Int)%((2^32:Nat):Int)).toNat=b:=U;show IntKind.u32.wrap ((BitVec.ofInt 32 a^^^BitVec.ofInt 32 b).toNat:Nat)=_;have h:=vS e f;rw[D1,vL,vL,c,d,wB U U]
theorem WK{a:Nat}(d:a<2^32):bits .and .u32 (a:Int) 1=((a%2:Nat):Int):=by
 have b:((a:Int)%((2^32:Nat):Int)).toNat=a:=U;show IntKind.u32.wrap ((BitVec.ofInt 32 a&&& BitVec.ofInt 32 1).toNat:Nat)=_;have c:(BitVec.ofInt 32 1).toNat=1:=by decide
 rw[F5,vL,b,c,Nat.and_one_is_mod,wB U U]
theorem XG(a:Nat):(a:Int).fdiv (2^(min (Int.toNat 1) IntKind.u32.bits))=((a/2:Nat):Int):=by
 have:min (Int.toNat 1) IntKind.u32.bits=1:=by decide
 rw[this,Gt _ (by decide)];omega
theorem SX{P:Program}{f:Nat->Value}{L:List aa}{d:Nat}{ty:TypeId}{pos:String}{af:Array Edge}{gd:Option (Nat×Bool)}{a:Nat}(hx:aH f x=.int .u32 a)(b:a<2^32):aP P ⟨some d,.unOp .xor t x,ty,pos,af,gd⟩ f L (.int .u32 ((4294967295^^^a:Nat):Int)):=by have h:=u32_xor (show 4294967295<2^32 by decide) b;intro F w s;rw[<-h];simp[execOp,hx,Op.unary,Op.intBits,bits];rfl
def Sa(s:Nat):Nat->List UInt8
 |0=>[0,0,0,0]
 |1=>[UInt8.ofNat (s/2^(8*0)%256),0,0,0]
 |2=>[UInt8.ofNat (s/2^(8*0)%256),UInt8.ofNat (s/2^(8*1)%256),0,0]
 |3=>[UInt8.ofNat (s/2^(8*0)%256),UInt8.ofNat (s/2^(8*1)%256),UInt8.ofNat (s/2^(8*2)%256),0]
 |_=>[UInt8.ofNat (s/2^(8*0)%256),UInt8.ofNat (s/2^(8*1)%256),UInt8.ofNat (s/2^(8*2)%256),UInt8.ofNat (s/2^(8*3)%256)]
theorem BC(s k:Nat)(c:k<=3):IntKind.u8.wrap ((s:Int).fdiv (2^(min ((8*(k:Int)).toNat) IntKind.u32.bits)))=((UInt8.ofNat (s/2^(8*k)%256)).toNat:Int):=by
 have a:min ((8*(k:Int)).toNat) IntKind.u32.bits=8*k:=by show min ((8*(k:Int)).toNat) 32=8*k;omega
 have b:(UInt8.ofNat (s/2^(8*k)%256)).toNat=s/2^(8*k)%256:=by simp
 rw[a,b,IntKind.wrap_u8,Gt _ (by exact Int.le_of_lt (Int.pow_pos (by decide)))];simp
set_option maxRecDepth 20000 attribute [local irreducible] Ex aM Fn bI bJ bV fin meet ch aX bZ aP aN aI Rd aK Row ao Sub bk bP bS bN bg bR Hid bY
section
theorem Ua(r:Nat)(c:UInt8)(M:List aa)(d:r<2^32):Fn prog 318 #[.int .u32 r,.int .u8 c.toNat] M λv L'=>v=.int .u32 (kD r c)/\L'=M:=by
 have n:=c.toNat_lt;have hx:=u32_xor d (show c.toNat<2^32 by omega);have h:r^^^c.toNat<2^32:=vS d U;refine fo func318 ntmps318 ?_;refine rn ?_;intros;rw[hx];refine bm [0,9] (λq vs L'=>∃(k:Nat),k<=8/\q=8-k/\vs=[.int .u32 (gE k (r^^^c.toNat)),.int .i64 k]/\L'=M) 8 ⟨0,U,rfl,rfl,rfl⟩ ?_;rintro q vs j i ⟨k,o,rfl,rfl,rfl⟩;refine bp [0,9] rG (λl=>?_);have b:=zf h k;by_cases p:k<8
 ·have a:gE (k+1) (r^^^c.toNat)=jK (gE k (r^^^c.toNat)):=rfl;generalize gE k (r^^^c.toNat)=z at b a⊢
  have m:=WK b;have e:=XG z;by_cases f:z%2=1
  ·rw[jK,an f]at a;have g:=u32_xor (show z/2<2^32 by omega) (show 3988292384<2^32 by decide);refine rn ?_;intros;rw[e];exact aS ⟨8-(k+1),_,U,bW _,k+1,U,rfl,by rw[a,<-g];exact av rfl (av (aQ U) rfl),rfl⟩
  ·rw[jK,ai f]at a;refine rn ?_;intros;rw[e];exact aS ⟨8-(k+1),_,U,bW _,k+1,U,rfl,by rw[a];exact av rfl (av (aQ U) rfl),rfl⟩
 ·obtain rfl:k=8:=U;refine rn ?_;intros;refine fr ?_;exact⟨_,bW _,rfl,rfl⟩
theorem Ub(v0:Value)(l:List UInt8)(M:List aa)(i:aI M v0 l)(h:l.length<=1000000000):Fn prog 284 #[v0] M λv L'=>v=.int .u32 (kP l)/\L'=M:=by
 refine fo func284 ntmps284 ?_;refine rn ?_;intros;refine bm [3,8] (λq vs L'=>∃(k:Nat),k<=l.length/\q=l.length-k/\vs=[.int .u32 ((l.take k).foldl kD 4294967295:Nat),.int .i64 k]/\L'=M) l.length ⟨0,U,rfl,rfl,rfl⟩ ?_;rintro q vs e d ⟨k,g,rfl,rfl,rfl⟩;refine bp [3,6,7,8] rG (λf=>?_);have a:=Cj (show 4294967295<2^32 by decide) (l.take k);by_cases b:k<l.length
 ·have c:(l.take (k+1)).foldl kD 4294967295=kD ((l.take k).foldl kD 4294967295) (l[k]'b):=by rw[da b,js];rfl
  generalize (l.take k).foldl kD 4294967295=z at a c⊢
  refine rn ?_;intros;refine ca [] call318 (Ua z (l[k]'b) _ a) ?_;rintro _ _ ⟨rfl,rfl⟩;refine rn ?_;intros;exact aS ⟨l.length-(k+1),_,U,rB,k+1,U,rfl,by rw[c];exact av rfl (av (aQ U) rfl),rfl⟩
 ·obtain rfl:k=l.length:=U;rw[dI]at a⊢
  refine rn ?_;intros;refine cH J J J (SX J a) ?_;exact bh
theorem Hi(v0:Value)(l:List UInt8)(M:List aa)(m:aI M v0 l)(c:l.length<=1000000000):Fn prog 245 #[v0] M λv L'=>v=.agg (cellsOf (lY l)).toArray/\L'=M:=by
 refine fo func245 ntmps245 ?_;refine rn ?_;(repeat(first|intro(g:Nat)|intro h));revert g;intro b;revert g;intro a;refine bc [] J call284 J J (Ub v0 l _ rD c) ?_;rintro _ _ ⟨rfl,rfl⟩;have d:=CX l;unfold lY;generalize kP l=s at d⊢
 refine rn ?_;intros;refine bm [8] (λq vs L'=>∃(k:Nat),k<=4/\q=4-k/\vs=[.int .i64 k]/\L'=ao b 334 (cellsOf (Sa s k))::ao a 334 [.int .u8 0,.int .u8 0,.int .u8 0,.int .u8 0]::M) 4 ⟨0,U,rfl,rfl,rfl⟩ ?_;rintro q vs f e ⟨k,j,rfl,rfl,rfl⟩;refine bp [2,3,4,8] rG (λi=>?_);rcases(show k=0\/k=1\/k=2\/k=3\/k=4 by omega)with rfl|rfl|rfl|rfl|rfl
 ·refine rn ?_;intros;rw[BC s 0 U];exact aS ⟨3,_,U,rB,1,U,rfl,av (aQ U) rfl,rfl⟩
 ·refine rn ?_;intros;rw[BC s 1 U];exact aS ⟨2,_,U,rB,2,U,rfl,av (aQ U) rfl,rfl⟩
 ·refine rn ?_;intros;rw[BC s 2 U];exact aS ⟨1,_,U,rB,3,U,rfl,av (aQ U) rfl,rfl⟩
 ·refine rn ?_;intros;rw[BC s 3 U];exact aS ⟨0,_,U,rB,4,U,rfl,av (aQ U) rfl,rfl⟩
 ·exact bh
theorem KM(v0:Value)(l:List UInt8)(M:List aa)(f:aI M v0 l)(e:l.length<=1000000000):Fn prog 180 #[v0] M λv L'=>O1 v/\L'=bB v (dN l)::M:=by
 refine fo func180 ntmps180 ?_;refine rn ?_;(repeat(first|intro(g:Nat)|intro(v:Value)|intro(o:O1 _)|intro h));refine bc [] J call245 J J (Hi v0 l _ rD U) ?_;rintro _ c ⟨rfl,rfl⟩;have d:=Aa l;refine rn ?_;(repeat(first|intro(g:Nat)|intro(v:Value)|intro(o:O1 _)|intro h));revert g;intro b;generalize hT:lY l=a at d⊢
 refine Py J J J J rE J U (by show((l.length:Int)+4)*1<=_;omega) (λv o=>?_);revert o;revert v;intro k j;refine rn ?_;(repeat(first|intro(v:Value)|intro h));refine cb (L':=bB v l::ao b 334 (cellsOf a)::c) ?_ rB;have i:aI (bB v l::ao b 334 (cellsOf a)::c) (.slice (some ⟨b,0,none⟩) 4 4) a:=Xr 1 a rfl d rfl;refine rn ?_;intros;refine fr ?_;unfold dN;rw[hT];exact⟨_,rB,by assumption,rfl⟩
structure Q4 where
 a:UInt8
 b:UInt8
 c:UInt8
 d:UInt8
deriving DecidableEq
def Q4.l(q:Q4):List UInt8:=[q.a,q.b,q.c,q.d]
instance:ab Q4:=⟨4,λq=>cellsOf q.l,by decide,λ_=>rfl,λ_=>rfl⟩
instance:pV prog 334 Q4:=⟨6,[.i .u8,.i .u8,.i .u8,.i .u8],by kernel_rfl,by kernel_rfl,by kernel_rfl,by kernel_rfl,λ_=>rfl,λa b h=>by obtain⟨c,d,e,f⟩:=a;obtain⟨g,j,k,l⟩:=b;have h':cellsOf [c,d,e,f]=cellsOf [g,j,k,l]:=h;simp[cellsOf,ab.cells]at h';obtain⟨m,n,o,p⟩:=h';rw[zb.1 (yT m),zb.1 (yT n),zb.1 (yT o),zb.1 (yT p)]⟩
theorem Kn(v0:Value)(l:List UInt8)(M:List aa)(t:aI M v0 l)(s:l.length<=1000000000):Fn prog 194 #[v0] M λv L'=>(gL l=none/\v=.tuple #[.slice none 0 0,.bool false]/\L'=M)\/∃b u,gL l=some b/\O1 u/\v=.tuple #[u,.bool true]/\L'=bB u b::M:=by
 refine fo func194 ntmps194 ?_;by_cases r:l.length<4
 ·have f:gL l=none:=by unfold gL;rw[ai U]
  refine rn ?_;intros;refine zL ?_;intros;refine rn ?_;intros;refine fr ?_;exact⟨_,rB,.inl ⟨f,rfl,rfl⟩⟩
 ·obtain⟨n,f⟩:∃n:Nat,(n:Int)=(l.length:Int)-4:=⟨l.length-4,U⟩;have i:l.length-4=n:=U;refine rn ?_;intros;rw[<-f];refine zL ?_;intros;have o:(List.drop n l).length=4:=by rw[ew];omega
  obtain⟨a,b,c,d,hd⟩:∃a b c d,List.drop n l=[a,b,c,d]:=by
   match e:List.drop n l,o with
   |[a,b,c,d],_=>exact⟨a,b,c,d,rfl⟩
  obtain⟨q,e⟩:∃q:Q4,q.l=lY (List.take n l):=⟨⟨_,_,_,_⟩,rfl⟩;have j:cellsOf (List.take 4 (List.drop (n:Int).toNat l))=ab.cells (⟨a,b,c,d⟩:Q4):=by rw[dc,hd];rfl
  have k:cellsOf (lY (List.take n l))=ab.cells q:=by rw[<-e];rfl
  rw[j];refine bX J J J ?_;refine bc [] J call245 rE J (Hi _ (List.take n l) _ rD (by rw[dy];omega)) ?_;rintro _ p ⟨rfl,rfl⟩;rw[k];by_cases h:(⟨a,b,c,d⟩:Q4)=q
  ·have m:gL l=some (List.take n l):=by unfold gL;rw[i,hd,<-e,<-h,an ⟨U,rfl⟩]
   refine mw ?_;intros;refine rn ?_;intros;refine fr ?_;exact⟨_,rB,.inr ⟨_,_,m,by assumption,rfl,rfl⟩⟩
  ·have hN:gL l=none:=by unfold gL;rw[i,hd,<-e,ai];rintro⟨_,g⟩;apply h;obtain⟨w,x,y,z⟩:=q;simp only[Q4.l,jH]at g;obtain⟨rfl,rfl,rfl,rfl,_⟩:=g;rfl
   refine mw ?_;intros;refine rn ?_;intros;refine fr ?_;exact⟨_,rB,.inl ⟨hN,rfl,rfl⟩⟩
end
end
section
structure Ed where
 kind:Int
 key:List UInt8
 label:Int
 value:List UInt8
deriving DecidableEq
def Ed.cells(e:Ed):List Value:=[.int .i64 e.kind,.string (S e.key),.int .i64 e.label,.string (S e.value)]
def Ed.val(e:Ed):Value:=.agg e.cells.toArray
instance:ab Ed:=⟨4,Ed.cells,by decide,λ_=>rfl,λ_=>rfl⟩
def kI(l:List UInt8):Int:=(l.map λb=>(b.toNat:Int)).sum
theorem Mu(l:List UInt8):0<=kI l/\kI l<=255*l.length:=by
 induction l with
 |nil=>simp[kI]
 |cons a l ih=>have:=a.toNat_lt;simp[kI]at ih⊢;omega
theorem K1(l:List UInt8)(k:Nat)(h:k<l.length):kI (l.take (k+1))=kI (l.take k)+(l[k].toNat:Int):=by rw[da h];simp only[kI,dA,List.sum_append];simp
def yc(j:Int):List UInt8:=if j=0 then[97,110,110]else if j=1 then[98,111,98]else[99,121]
def Mn(j:Int):List UInt8:=if j=0 then[49]else if j=1 then[116,119,111]else if j=2 then[0,255]else[116,119,101,108,118,101,32,98,121,116,101,115]
def Ed.fit(e:Ed):Ed:=
 ⟨1+(e.kind.tmod 5+5)%5,yc (kI e.key%3),if 2<1+(e.kind.tmod 5+5)%5 then e.label%2 else 0,if 2<1+(e.kind.tmod 5+5)%5 then Mn (kI e.value%4)else[]⟩
theorem VY(n:Int):-5<n.tmod 5/\n.tmod 5<5:=⟨zO n (by decide),yX n (by decide)⟩
end
section
structure aj where
 a:Int
 b:Int
 c:Int
 d:Int
 e:Int
 deriving DecidableEq
def aj.get(k:aj)(i:Nat):Int:=match i with|0=>k.a|1=>k.b|2=>k.c|3=>k.d|4=>k.e|_=>0
@[reducible] def aj.val(k:aj):Value:=.agg #[.int .i64 k.a,.int .i64 k.b,.int .i64 k.c,.int .i64 k.d,.int .i64 k.e]
def aj.join(x y:aj):aj:=⟨max x.a y.a,max x.b y.b,max x.c y.c,max x.d y.d,max x.e y.e⟩
def aj.le(x y:aj):Bool:=x.a<=y.a&&x.b<=y.b&&x.c<=y.c&&x.d<=y.d&&x.e<=y.e
def aj.set(k:aj)(i:Nat)(v:Int):aj:=match i with|0=>{k with a:=v}|1=>{k with b:=v}|2=>{k with c:=v}|3=>{k with d:=v}|4=>{k with e:=v}|_=>k
def aj.zero:aj:=⟨0,0,0,0,0⟩
def aj.next(k:aj)(r:Int):aj×Int:=if r<0\/5<=r then(aj.zero,1)else if 1048576<=k.get r.toNat then(aj.zero,25)else(k.set r.toNat (k.get r.toNat+1),0)
def aj.has(k:aj)(r n:Int):Bool:=0<=r&&r<5&&1<=n&&n<=k.get r.toNat
end
section
structure Ev where
 r:Int
 n:Int
 c:aj
 h:Int
 ed:Ed
deriving DecidableEq
instance:ab aj:=⟨5,λk=>[.int .i64 k.a,.int .i64 k.b,.int .i64 k.c,.int .i64 k.d,.int .i64 k.e],by decide,λ_=>rfl,λ_=>rfl⟩
instance:ab Ev:=⟨12,λe=>[.int .i64 e.r,.int .i64 e.n,.int .i64 e.c.a,.int .i64 e.c.b,.int .i64 e.c.c,.int .i64 e.c.d,.int .i64 e.c.e,.int .i64 e.h,.int .i64 e.ed.kind,.string (S e.ed.key),.int .i64 e.ed.label,.string (S e.ed.value)],by decide,λ_=>rfl,λ_=>rfl⟩
def Ev.zero:Ev:=⟨0,0,⟨0,0,0,0,0⟩,0,⟨0,[],0,[]⟩⟩
instance:Inhabited Ev:=⟨Ev.zero⟩
instance:pV prog 80 Ev:=⟨6,[.i .i64,.i .i64,.i .i64,.i .i64,.i .i64,.i .i64,.i .i64,.i .i64,.i .i64,.s,.i .i64,.s],by kernel_rfl,by kernel_rfl,by kernel_rfl,by kernel_rfl,λ_=>rfl,λa b h=>by obtain⟨c,g,⟨j,k,l,m,n⟩,o,⟨p,d,e,f⟩⟩:=a;obtain⟨q,v,⟨w,x,y,z,A⟩,C,⟨F,r,t,u⟩⟩:=b;simp only[ab.cells,jH,uh,Value.string.injEq,W6,qy,nV]at h;simp[h]⟩
instance:hQ prog 80 Ev:=⟨Ev.zero,by kernel_rfl,by kernel_rfl⟩
end
section
@[reducible] def aL(v:Value)(l:List Ev):aa:=aK v 80 l
end
section
set_option maxRecDepth 20000 attribute [local irreducible] Ex aM Fn bI bJ bV fin meet ch aX bZ aP aN aI Rd aK Row ao Sub bk bP bS bN bg bR Hid bY
section
theorem KF(v0:Value)(xs:List Ev)(L:List aa)(e:aI L v0 xs)(f:xs.length<=1000000000):Fn prog 181 #[v0] L λr L'=>O1 r/\L'=aL r xs::L:=by
 refine fo func181 ntmps181 ?_;refine Ex.xH e.ca ?_;rintro⟨a,c,rfl,d⟩;cases a with
 |none=>
  obtain⟨rfl,b⟩:=d rfl;obtain rfl:=dZ b;refine rn ?_;intros;refine fr ?_;exact⟨_,cA none _ _,rfl,rfl⟩
 |some a=>exact yl
end
end
section
structure Mk where
 r:Int
 n:Int
deriving DecidableEq
instance:ab Mk:=⟨2,λm=>[.int .i64 m.r,.int .i64 m.n],by decide,λ_=>rfl,λ_=>rfl⟩
def Ev.cj(e:Ev):Mk:=⟨e.r,e.n⟩
def Ev.dY(c:aj)(e:Ev):Prop:=0<=e.r/\e.r<5/\1<=e.n/\e.n-1=c.get e.r.toNat/\e.c.le c=true
def fG(l:List Ev):Prop:=l.Pairwise λa b=>a.cj≠b.cj
theorem fG.inj{l:List Ev}(h:fG l){j:Nat}(hi:i<l.length)(a:j<l.length)(e:(l[i]'hi).cj=(l[j]'a).cj):i=j:=by
 rcases EB i j with d|b|c
 ·exact absurd e (Cp.1 h i j hi a d)
 ·exact b
 ·exact absurd e.symm (Cp.1 h j i a hi c)
theorem fG.erase{l:List Ev}(h:fG l)(i:Nat):fG (l.eraseIdx i):=h.sublist (xh ..)
def jm(c:aj)(l:List Ev)(i:Nat):Prop:=∃h:i<l.length,(l[i]'h).dY c/\∀j (hj:j<l.length),(l[j]'hj).dY c->(l[i]'h).r<=(l[j]'hj).r
theorem jm.unique{c:aj}{l:List Ev}(hd:fG l){j:Nat}(h:jm c l i)(k:jm c l j):i=j:=by
 obtain⟨hi,f,o⟩:=h;obtain⟨d,g,p⟩:=k;have e:=Int.le_antisymm (o j d g) (p i hi f);refine hd.inj hi d ?_;have m:(l[i]'hi).n=(l[j]'d).n:=by have a:=f.2.2.2.1;have b:=g.2.2.2.1;rw[e]at a;omega
 simp only[Ev.cj,e,m]
open Classical in
noncomputable def zR:Nat->aj->List Ev->List Ev×List Ev×aj
 |0,c,l=>([],l,c)
 |n+1,c,l=>if h:∃i,jm c l i then
   let e:=l[Classical.choose h]'(E3 h).1;let r:=zR n (c.set e.r.toNat e.n) (l.eraseIdx (Classical.choose h))
   (e::r.1,r.2)
  else([],l,c)
noncomputable def drain(c:aj)(l:List Ev):List Ev×List Ev×aj:=zR l.length c l
theorem qL{c:aj}{l:List Ev}(hd:fG l)(hi:i<l.length)(h:jm c l i):
  drain c l=((l[i]'hi)::(drain (c.set (l[i]'hi).r.toNat (l[i]'hi).n) (l.eraseIdx i)).1,(drain (c.set (l[i]'hi).r.toNat (l[i]'hi).n) (l.eraseIdx i)).2):=by
 obtain⟨m,e⟩:∃m,l.length=m+1:=⟨l.length-1,U⟩;have a:∃i,jm c l i:=⟨i,h⟩;have b:Classical.choose a=i:=jm.unique hd (E3 a) h;have d:(l.eraseIdx i).length=m:=by rw[uZ,an hi];omega
 unfold drain;rw[e]
 conv=>lhs;unfold zR
 rw[BS a];simp only[b,d]
theorem oZ{c:aj}{l:List Ev}(h:∀i,¬jm c l i):drain c l=([],l,c):=by
 unfold drain;cases hl:l.length with
 |zero=>rfl
 |succ m=>unfold zR;rw[dif_neg (λ⟨i,hi⟩=>h i hi)]
theorem xu{motive:aj->List Ev->Prop}(b:∀c l,(∀i,¬jm c l i)->motive c l)
  (d:∀c l i (hi:i<l.length),jm c l i->motive (c.set (l[i]'hi).r.toNat (l[i]'hi).n) (l.eraseIdx i)->motive c l):∀c l,motive c l:=by
 intro c l
 induction hn:l.length generalizing c l with
 |zero=>exact b c l λi ⟨hi,_⟩=>by omega
 |succ m ih=>
  by_cases h:∃i,jm c l i
  ·obtain⟨i,hi⟩:=h;obtain⟨a,_⟩:=id hi;exact d c l i a hi (ih _ _ (by rw[uZ,an a];omega))
  ·exact b c l λi hi=>h ⟨i,hi⟩
theorem QX(c:aj)(l:List Ev):fG l->(drain c l).2.1.Sublist l:=by
 refine xu (motive:=λc l=>fG l->(drain c l).2.1.Sublist l) (λc l h _=>?_) (λc l i hi h a hd=>?_) c l
 ·rw[oZ h];exact Gr _
 ·rw[qL hd hi h];exact(a (hd.erase i)).trans (xh ..)
theorem BD(c:aj)(l:List Ev):fG l->(drain c l).1.length+(drain c l).2.1.length=l.length:=by
 refine xu (motive:=λc l=>fG l->(drain c l).1.length+(drain c l).2.1.length=l.length) (λc l h _=>?_) (λc l i hi h a hd=>?_) c l
 ·rw[oZ h];simp
 ·rw[qL hd hi h];have:=a (hd.erase i);rw[uZ,an hi]at this;simp only[dL];omega
theorem Ux{s l:List Ev}(h:s.Sublist l)(hd:fG l):l.filter (λe=>s.any λx=>decide (x.cj=e.cj))=s:=by
 induction h with
 |slnil=>rfl
 |cons a hs ih=>
  rename_i s l;rw[List.filter_cons_of_neg,ih (km.1 hd).2];intro c;obtain⟨x,hx,d⟩:=eR.1 c;exact(km.1 hd).1 x (hs.subset hx) (rU d).symm
 |cons_cons a hs ih=>rename_i s l;rw[List.filter_cons_of_pos (by simp)];congr 1;have b:=ih (km.1 hd).2;refine Eq.trans (tX λx hx=>?_) b;have f:¬a.cj=x.cj:=(km.1 hd).1 x hx;simp[f]
def kO(c:aj)(a:List Ev)(e:Ev):List Ev:=if(a.any λx=>decide (x.cj=e.cj))=true\/c.has e.r e.n=true then a else a++[e]
def cK(c:aj)(l:List Ev):List Ev:=l.foldl (kO c) []
theorem Kr(c:aj)(l:List Ev)(i:Nat)(h:i<l.length):cK c (l.take (i+1))=kO c (cK c (l.take i)) (l[i]'h):=by rw[da h];unfold cK;rw[js];rfl
theorem qE(c:aj):∀(l d:List Ev),fG d->fG (l.foldl (kO c) d)
 |[],d,h=>h
 |e::l,d,h=>by
  refine qE c l _ ?_;unfold kO;split
  ·exact h
  ·rename_i hx;refine tJ.2 ⟨h,by simp,λa i b f=>?_⟩;simp only[mJ]at f;subst f;intro g;exact hx (.inl (eR.2 ⟨a,i,bf g⟩))
theorem rT(c:aj)(l:List Ev):(cK c l).length<=l.length:=by
 have b:∀(l a:List Ev),(l.foldl (kO c) a).length<=a.length+l.length:=by
  intro l
  induction l with
  |nil=>intro a;simp
  |cons e l ih=>
   intro a;have:=ih (kO c a e);have d:(kO c a e).length<=a.length+1:=by unfold kO;split<;>simp
   simp only[qa,dL];omega
 simpa[cK]using b l []
theorem xN(c:aj)(l:List Ev):∀e∈cK c l,e∈l:=by
 have f:∀(l d:List Ev),∀e∈l.foldl (kO c) d,e∈d\/e∈l:=by
  intro l
  induction l with
  |nil=>intro d e b;exact .inl b
  |cons a l ih=>
   intro d e b;rcases ih _ e b with h|h
   ·unfold kO at h;split at h
    ·exact .inl h
    ·rcases ct.1 h with h|h
     ·exact .inl h
     ·right;simp at h;simp[h]
   ·exact .inr (eu _ h)
 intro e b;rcases f l [] e b with h|h
 ·simp at h
 ·exact h
theorem Sc(c:aj)(l:List Ev)(x:Ev)(hx:c.has x.r x.n=false):((cK c l).any λy=>decide (y.cj=x.cj))=(l.any λy=>decide (y.cj=x.cj)):=by
 have i:∀(l d:List Ev),((l.foldl (kO c) d).any λy=>decide (y.cj=x.cj))=((d.any λy=>decide (y.cj=x.cj))||(l.any λy=>decide (y.cj=x.cj))):=by
  intro l
  induction l with
  |nil=>intro d;simp
  |cons a l ih=>
   intro d;rw[qa,ih];unfold kO;by_cases b:a.cj=x.cj
   ·have g:c.has a.r a.n=false:=by have e:a.r=x.r:=cn Mk.r b;have f:a.n=x.n:=cn Mk.n b;rw[e,f];exact hx
    simp only[b,g,List.any_cons,uH,Bool.true_or,Bool.or_true,od,or_false];split
    ·rename_i h;simp[h]
    ·simp[b]
   ·simp only[List.any_cons,b,decide_false,Dx];split
    ·rfl
    ·simp[b]
 simpa[cK]using i l []
def mg(l:List Ev):List (Mk×Ev):=l.map λe=>(e.cj,e)
theorem uf(k:Mk):∀(l:List Ev) (s:Nat),(jO k (mg l) s=none/\∀e∈l,e.cj≠k)\/∃i,∃h:i<l.length,(l[i]'h).cj=k/\jO k (mg l) s=some (s+i,l[i]'h)
 |[],s=>.inl ⟨rfl,by simp⟩
 |e::l,s=>by
  by_cases a:k=e.cj
  ·exact .inr ⟨0,by simp,a.symm,an a⟩
  ·rcases uf k l (s+1)with⟨b,c⟩|⟨i,hi,b,c⟩
   ·refine .inl ⟨(ai a).trans b,λx hx=>?_⟩;rcases gA.1 hx with rfl|hx
    ·exactλh=>a h.symm
    ·exact c x hx
   ·refine .inr ⟨i+1,by simp;omega,by simpa using b,(ai a).trans ?_⟩;show jO k (mg l) (s+1)=_;rw[c];simp;omega
theorem Zl{l:List Ev}(hd:fG l)(hi:i<l.length):jO (l[i]'hi).cj (mg l) 0=some (i,l[i]'hi):=by
 rcases uf (l[i]'hi).cj l 0 with⟨_,a⟩|⟨j,c,b,a⟩
 ·exact absurd rfl (a _ (bT hi))
 ·have:=hd.inj c hi b;subst this;rw[a,mL]
theorem PC(l:List Ev)(e:Ev):mg (l++[e])=mg l++[(e.cj,e)]:=by simp[mg]
theorem Wj(l:List Ev)(i:Nat):mg (l.eraseIdx i)=(mg l).eraseIdx i:=tF _ l i
theorem Lv(k:Ev)(l:List Ev):(l.any λx=>decide (x.cj=k.cj))=(jO k.cj (mg l) 0).isSome:=by
 rcases uf k.cj l 0 with⟨a,b⟩|⟨i,hi,a,b⟩
 ·rw[a];simp only[Option.isSome_none];rw[ra];intro x hx;simpa using b x hx
 ·rw[b];simp only[Option.isSome_some];exact eR.2 ⟨_,bT hi,bf a⟩
end
section
theorem aj.getD_eq(k:aj)(i:Nat):[k.a,k.b,k.c,k.d,k.e].getD i 0=k.get i:=by
 match i with
 |0=>rfl
 |1=>rfl
 |2=>rfl
 |3=>rfl
 |4=>rfl
 |i+5=>simp[aj.get]
theorem aj.le_iff(x y:aj):x.le y=true↔∀j,j<5->x.get j<=y.get j:=by
 simp only[aj.le,dT,kZ];constructor
 ·rintro⟨⟨⟨⟨a,b⟩,c⟩,d⟩,e⟩ j f
  match j,f with
  |0,_=>exact a
  |1,_=>exact b
  |2,_=>exact c
  |3,_=>exact d
  |4,_=>exact e
 ·intro h;exact⟨⟨⟨⟨h 0 U,h 1 U⟩,h 2 U⟩,h 3 U⟩,h 4 U⟩
theorem aj.FN(x:aj)(r n:Int):x.has r n=true↔0<=r/\r<5/\1<=n/\n<=x.get r.toNat:=by simp[aj.has,BH]
theorem aj.qo{x:aj}{n:Int}(h:¬(0<=r/\r<5/\1<=n/\n<=x.get r.toNat)):x.has r n=false:=by
 cases hh:x.has r n
 ·rfl
 ·exact absurd ((aj.FN x r n).1 hh) h
def aj.I(c:aj):Prop:=∀i,i<5->cD (c.get i)
theorem aj.El(c:aj)(i j:Nat)(v:Int)(hi:i<5):(c.set i v).get j=if j=i then v else c.get j:=by
 match i,hi with
 |0,_=>match j with|0=>rfl|1=>rfl|2=>rfl|3=>rfl|4=>rfl|j+5=>simp[aj.set,aj.get]
 |1,_=>match j with|0=>rfl|1=>rfl|2=>rfl|3=>rfl|4=>rfl|j+5=>simp[aj.set,aj.get]
 |2,_=>match j with|0=>rfl|1=>rfl|2=>rfl|3=>rfl|4=>rfl|j+5=>simp[aj.set,aj.get]
 |3,_=>match j with|0=>rfl|1=>rfl|2=>rfl|3=>rfl|4=>rfl|j+5=>simp[aj.set,aj.get]
 |4,_=>match j with|0=>rfl|1=>rfl|2=>rfl|3=>rfl|4=>rfl|j+5=>simp[aj.set,aj.get]
theorem aj.I.set{c:aj}(h:c.I){i:Nat}(hi:i<5){v:Int}(b:cD v):(c.set i v).I:=λj a=>by
 rw[aj.El _ _ _ _ hi];split
 ·exact b
 ·exact h j a
theorem aj.zH(c:aj)(i:Nat)(hi:i<5)(v:Int):(ab.cells c).set i (.int .i64 v)=ab.cells (c.set i v):=by
 match i,hi with
 |0,_=>rfl
 |1,_=>rfl
 |2,_=>rfl
 |3,_=>rfl
 |4,_=>rfl
theorem aj.HK(a b:aj)(j:Nat)(h:j<5):(a.join b).get j=max (a.get j) (b.get j):=by
 match j,h with
 |0,_=>rfl
 |1,_=>rfl
 |2,_=>rfl
 |3,_=>rfl
 |4,_=>rfl
set_option maxRecDepth 20000 attribute [local irreducible] Ex aM Fn bI bJ bV fin meet ch aX bZ aP aN aI Rd aK Row ao Sub bk bP bS bN bg bR Hid bY
section
theorem Ew(x:aj)(r n:Int)(M:List aa):Fn prog 171 #[x.val,.int .i64 r,.int .i64 n] M λv L'=>v=.bool (x.has r n)/\L'=M:=by
 refine fo func171 ntmps171 ?_;by_cases a:0<=r
 ·by_cases b:r<5
  ·by_cases c:1<=n
   ·have e:=aj.getD_eq x r.toNat;by_cases d:n<=x.get r.toNat
    ·rw[(aj.FN x r n).2 ⟨a,b,c,d⟩];exact bh
    ·rw[aj.qo (λh=>d h.2.2.2)];exact bh
   ·rw[aj.qo (λh=>c h.2.2.1)];exact bh
  ·rw[aj.qo (λh=>b h.2.1)];exact bh
 ·rw[aj.qo (λh=>a h.1)];exact bh
theorem Gq(x:aj)(r n:Int)(M:List aa):Fn prog 148 #[x.val,.int .i64 r,.int .i64 n] M λv L'=>v=.bool (x.has r n)/\L'=M:=by
 refine fo func148 ntmps148 ?_;by_cases a:0<=r
 ·by_cases b:r<5
  ·by_cases c:1<=n
   ·have e:=aj.getD_eq x r.toNat;by_cases d:n<=x.get r.toNat
    ·rw[(aj.FN x r n).2 ⟨a,b,c,d⟩];exact bh
    ·rw[aj.qo (λh=>d h.2.2.2)];exact bh
   ·rw[aj.qo (λh=>c h.2.2.1)];exact bh
  ·rw[aj.qo (λh=>b h.2.1)];exact bh
 ·rw[aj.qo (λh=>a h.1)];exact bh
theorem N0(x y:aj)(M:List aa):Fn prog 312 #[x.val,y.val] M λv L'=>v=.bool (x.le y)/\L'=M:=by
 refine fo func312 ntmps312 ?_;refine rn ?_;intros;refine ll [6] (λm vs=>∃(i:Nat),i<=5/\m=5-i/\vs=[.int .i64 i]/\∀j,j<i->x.get j<=y.get j) 5 ⟨0,U,U,rfl,λj c=>by omega⟩ ?_;rintro m vs l ⟨i,hi,rfl,rfl,a⟩;refine bp [2,3,6] rG (λn=>?_);by_cases k:i<5
 ·have d:=aj.getD_eq x (i:Int).toNat;have e:=aj.getD_eq y (i:Int).toNat;rw[show x.get (i:Int).toNat=x.get i from rfl]at d;rw[show y.get (i:Int).toNat=y.get i from rfl]at e;by_cases b:x.get i<=y.get i
  ·have f:∀j,j<i+1->x.get j<=y.get j:=λj c=>by
    by_cases h:j=i
    ·subst h;exact b
    ·exact a j U
   clear a;refine rn ?_;intros;refine pS ?_;intros;refine rn ?_;intros;exact aS ⟨5-(i+1),_,U,bW _,⟨i+1,U,U,av (aQ U) rfl,f⟩,rfl⟩
  ·have g:x.le y=false:=by
    cases hh:x.le y
    ·rfl
    ·exact absurd ((aj.le_iff x y).1 hh i k) b
   clear a;rw[g];refine rn ?_;intros;refine pS ?_;intros;exact bh
 ·rw[(aj.le_iff x y).2 (λj c=>a j U)];exact bh
theorem Mt(x y:aj)(M:List aa):Fn prog 217 #[x.val,y.val] M λv L'=>v=.bool (x.le y)/\L'=M:=by
 refine fo func217 ntmps217 ?_;refine rn ?_;intros;refine ll [5] (λm vs=>∃(i:Nat),i<=5/\m=5-i/\vs=[.int .i64 i]/\∀j,j<i->x.get j<=y.get j) 5 ⟨0,U,U,rfl,λj c=>by omega⟩ ?_;rintro m vs l ⟨i,hi,rfl,rfl,a⟩;refine bp [2,3,5] rG (λn=>?_);by_cases k:i<5
 ·have d:=aj.getD_eq x (i:Int).toNat;have e:=aj.getD_eq y (i:Int).toNat;rw[show x.get (i:Int).toNat=x.get i from rfl]at d;rw[show y.get (i:Int).toNat=y.get i from rfl]at e;by_cases b:x.get i<=y.get i
  ·have f:∀j,j<i+1->x.get j<=y.get j:=λj c=>by
    by_cases h:j=i
    ·subst h;exact b
    ·exact a j U
   clear a;refine rn ?_;intros;refine pS ?_;intros;refine rn ?_;intros;exact aS ⟨5-(i+1),_,U,bW _,⟨i+1,U,U,av (aQ U) rfl,f⟩,rfl⟩
  ·have g:x.le y=false:=by
    cases hh:x.le y
    ·rfl
    ·exact absurd ((aj.le_iff x y).1 hh i k) b
   clear a;rw[g];refine rn ?_;intros;refine pS ?_;intros;exact bh
 ·rw[(aj.le_iff x y).2 (λj c=>a j U)];exact bh
end
end
section
theorem Kw(c:aj):c.le c=true:=(aj.le_iff c c).2 λj _=>eH _
end
section
def lU(c:UInt8):Bool:=97<=c.toNat&&c.toNat<=122
def ku(s:ByteArray):Int:=if 1<=s.size/\s.size<=8/\s.data.toList.all lU=true then 0 else 10
def vn(n:Int):Int:=if 0<=n/\n<2 then 0 else 11
def rZ(s:ByteArray):Int:=if 1<=s.size/\s.size<=12 then 0 else 12
theorem decode_high(s:ByteArray)(i:Nat)(h:i<s.size)(a:128<=(s[i]'h).toNat):128<=(Utf8.decode s i).1:=by
 have e:s.get! (i+0)=s[i]'h:=by show s.get! i=_;simp[ByteArray.get!,getElem!_pos,h];rfl
 simp only[Utf8.decode,e];rw[ai U];split
 ·split<;>simp_all [Utf8.runeError]
 ·split
  ·split<;>simp_all [Utf8.runeError];omega
  ·split
   ·split<;>simp_all [Utf8.runeError];omega
   ·simp[Utf8.runeError]
theorem run_next_any{P:Program}(w:World)(s:ByteArray)(pos:Nat)(ty:TypeId)(h:pos<s.size):
  (Instr.next (.pointer (some ⟨w.heap.size,0,none⟩)) true ty).run P (w.iter s pos)=
   .ok (.tuple #[.bool true,.int .i64 pos,.int .i32 (Utf8.decode s pos).1]) (w.iter s (pos+(Utf8.decode s pos).2)):=by
 simp only[Instr.next,getObj,setObj,fe,Sem.run,World.iter_heap,Result.andThen,h,jn,World.iter_set];simp[goInt,Sem.run,World.iter_heap,World.iter_set]
theorem KA(l:List UInt8)(k:Nat)(h:k<l.length)(p:UInt8->Bool)(b:(l.take k).all p=true)(a:p l[k]=true):(l.take (k+1)).all p=true:=by rw[da h,ta,b];simp[a]
theorem Ek(s:ByteArray)(k:Nat)(h:k<s.size):s[k]'h∈s.data.toList:=by show s.data[k]'h∈_;simp
theorem J9(s:ByteArray)(k c:Nat)(h:k<s.size)(a:c=(s[k]'h).toNat)(b:97<=c/\c<=122):lU (s.data.toList[k]'(by simpa using h))=true:=by
 have e:(s.data.toList[k]'(by simpa using h))=s[k]'h:=by simp;rfl
 rw[e];simp[lU];omega
def ED(w:World)(b:Nat):Nat:=match w.heap[b]? with|some (.stringIter _ p)=>p|_=>0
theorem LQ(w:World)(s:ByteArray)(k:Nat):ED (w.iter s k) w.heap.size=k:=by unfold ED;rw[World.iter_heap]
theorem Kp.iter{a w:World}(h:Kp a w)(s:ByteArray)(k:Nat):Kp a (w.iter s k):=kg h _
theorem WD(s:ByteArray)(w:World)(A:s.size<=9223372036854775807):
  Calls prog 222 #[.string s] w λe w'=>e=.returned (.int .i64 (ku s))/\Kp w w':=by
 by_cases f:1<=s.size/\s.size<=8
 ·obtain⟨x,y⟩:=f;have r:=Lib.hid (show s.data.toList.all lU=true->ku s=0 fromλh=>by unfold ku;rw[an ⟨x,y,h⟩]);have o:=Lib.hid (show s.data.toList.all lU=false->ku s=10 fromλh=>by unfold ku;rw[ai (λk=>by rw[h]at k;exact absurd k.2.2 (by decide))])
  go_enter func222,ntmps222
  go_wp2_with fail
  go_loopw [4] (λ_ m=>∃k:Nat,k<=s.size/\m=w.iter s k/\RowKit.Hid ((s.data.toList.take k).all lU=true)) (λ_ m=>s.size-ED m w.heap.size)
  case atStart=>exact⟨0,eM _,rfl,Lib.hid (by simp)⟩
  case round=>
   obtain⟨k,z,rfl,H⟩:=hrel;by_cases a:k<s.size
   ·by_cases i:(s[k]'a).toNat<128
    ·have g:=λty=>run_next_ascii (P:=prog) w s k ty a i;obtain⟨c,j⟩:∃c:Nat,c=(s[k]'a).toNat:=⟨_,rfl⟩;rw[<-j]at i g;have n:=Lib.hid j;clear j;by_cases q:97<=c/\c<=122
     ·obtain⟨t,u⟩:=q
      go_wp2_with fail
      go_roundw
      case rel=>exact⟨k+1,U,rfl,Lib.hid (KA _ _ (by simpa using a) _ H.out (J9 s k c a n.out ⟨t,u⟩))⟩
      case measure=>rw[LQ,LQ];omega
     ·have l:c<97\/122<c:=U;clear q;have e:ku s=10:=o.out (by
       cases e:s.data.toList.all lU with
       |false=>rfl
       |true=>have:=kW.1 e (s[k]'a) (Ek s k a);have:=n.out;simp[lU]at*;omega)
      have b:=Lib.hid e;clear e;rcases l with l|l
      all_goals
       go_wp2_with fail
       go_returns
       rw[b.out];exact⟨rfl,by(repeat' (first|(with_reducible exact jl _)|(with_reducible refine Kp.iter ?_ _ _)))⟩
    ·have g:=λty=>run_next_any (P:=prog) w s k ty a;have hd:=decode_high s k a U;obtain⟨d,p⟩:∃d,d=Utf8.decode s k:=⟨_,rfl⟩;rw[<-p]at hd g;have e:ku s=10:=o.out (by
      cases e:s.data.toList.all lU with
      |false=>rfl
      |true=>have:=kW.1 e (s[k]'a) (Ek s k a);simp[lU]at*;omega)
     have b:=Lib.hid e;clear e p i
     go_wp2_with fail
     all_goals
      go_returns
      rw[b.out];exact⟨rfl,by(repeat' (first|(with_reducible exact jl _)|(with_reducible refine Kp.iter ?_ _ _)))⟩
   ·have g:=λty=>run_next_end (P:=prog) w s k ty a;have b:=Lib.hid (r.out (by have:=H.out;rwa[ic (by simp;omega)]at this))
    go_wp2_with fail
    go_returns
    rw[b.out];exact⟨rfl,by(repeat' (first|(with_reducible exact jl _)|(with_reducible refine Kp.iter ?_ _ _)))⟩
 ·have e:ku s=10:=by unfold ku;rw[ai (λh=>f ⟨h.1,h.2.1⟩)]
  rw[e];have v:s.size<1\/8<s.size:=U;clear f e;rcases v with f|f
  all_goals
   go_enter func222,ntmps222
   go_wp2_with fail
   go_returns
   exact⟨rfl,by(repeat' (first|(with_reducible exact jl _)|(with_reducible assumption)|(with_reducible refine kg ?_ _)|(with_reducible refine kN ?_ _)|(with_reducible refine lb ?_ _ _ _ ?_)|(with_reducible refine kT ?_)|(with_reducible refine kM ?_ _)|(with_reducible refine kX ?_ ?_ _)|(with_reducible refine kG ?_ (by assumption))|(with_reducible exact bj _)|omega|(simp only[kh,kV,kU,kH];omega)|(simp;omega)|(simp;done)))⟩
theorem NQ:vn 0=0:=rfl
theorem G5:vn 1=0:=rfl
theorem BK(n:Int)(h:n<0\/2<=n):vn n=11:=by unfold vn;rw[ai U]
theorem Mq(s:ByteArray)(h:1<=s.size)(h':s.size<=12):rZ s=0:=by unfold rZ;rw[an ⟨h,h'⟩]
theorem AM(s:ByteArray)(h:s.size<1\/12<s.size):rZ s=12:=by unfold rZ;rw[ai U]
theorem Se(n:Int)(w:World):
  Calls prog 223 #[.int .i64 n] w λe w'=>e=.returned (.int .i64 (vn n))/\Kp w w':=by
 have c:n=0\/n=1\/n<0\/2<=n:=U;rcases c with rfl|rfl|h|h
 ·rw[NQ]
  (go_enter func223,ntmps223;go_wp2_with fail;go_returns;exact⟨rfl,by(repeat' (first|(with_reducible exact jl _)|(with_reducible assumption)|(with_reducible refine kg ?_ _)|(with_reducible refine kN ?_ _)|(with_reducible refine lb ?_ _ _ _ ?_)|(with_reducible refine kT ?_)|(with_reducible refine kM ?_ _)|(with_reducible refine kX ?_ ?_ _)|(with_reducible refine kG ?_ (by assumption))|(with_reducible exact bj _)|omega|(simp only[kh,kV,kU,kH];omega)|(simp;omega)|(simp;done)))⟩)
 ·rw[G5]
  (go_enter func223,ntmps223;go_wp2_with fail;go_returns;exact⟨rfl,by(repeat' (first|(with_reducible exact jl _)|(with_reducible assumption)|(with_reducible refine kg ?_ _)|(with_reducible refine kN ?_ _)|(with_reducible refine lb ?_ _ _ _ ?_)|(with_reducible refine kT ?_)|(with_reducible refine kM ?_ _)|(with_reducible refine kX ?_ ?_ _)|(with_reducible refine kG ?_ (by assumption))|(with_reducible exact bj _)|omega|(simp only[kh,kV,kU,kH];omega)|(simp;omega)|(simp;done)))⟩)
 ·rw[BK n (.inl h)];have a:(n==0)=false:=by simp;omega
  have b:(n==1)=false:=by simp;omega
  (go_enter func223,ntmps223;go_wp2_with fail;go_returns;exact⟨rfl,by(repeat' (first|(with_reducible exact jl _)|(with_reducible assumption)|(with_reducible refine kg ?_ _)|(with_reducible refine kN ?_ _)|(with_reducible refine lb ?_ _ _ _ ?_)|(with_reducible refine kT ?_)|(with_reducible refine kM ?_ _)|(with_reducible refine kX ?_ ?_ _)|(with_reducible refine kG ?_ (by assumption))|(with_reducible exact bj _)|omega|(simp only[kh,kV,kU,kH];omega)|(simp;omega)|(simp;done)))⟩)
 ·rw[BK n (.inr h)];have a:(n==0)=false:=by simp;omega
  have b:(n==1)=false:=by simp;omega
  (go_enter func223,ntmps223;go_wp2_with fail;go_returns;exact⟨rfl,by(repeat' (first|(with_reducible exact jl _)|(with_reducible assumption)|(with_reducible refine kg ?_ _)|(with_reducible refine kN ?_ _)|(with_reducible refine lb ?_ _ _ _ ?_)|(with_reducible refine kT ?_)|(with_reducible refine kM ?_ _)|(with_reducible refine kX ?_ ?_ _)|(with_reducible refine kG ?_ (by assumption))|(with_reducible exact bj _)|omega|(simp only[kh,kV,kU,kH];omega)|(simp;omega)|(simp;done)))⟩)
theorem YK(s:ByteArray)(w:World)(d:s.size<=9223372036854775807):
  Calls prog 224 #[.string s] w λe w'=>e=.returned (.int .i64 (rZ s))/\Kp w w':=by
 have c:(1<=s.size/\s.size<=12)\/s.size<1\/12<s.size:=U;rcases c with⟨a,b⟩|h|h
 ·rw[Mq s a b]
  (go_enter func224,ntmps224;go_wp2_with fail;go_returns;exact⟨rfl,by(repeat' (first|(with_reducible exact jl _)|(with_reducible assumption)|(with_reducible refine kg ?_ _)|(with_reducible refine kN ?_ _)|(with_reducible refine lb ?_ _ _ _ ?_)|(with_reducible refine kT ?_)|(with_reducible refine kM ?_ _)|(with_reducible refine kX ?_ ?_ _)|(with_reducible refine kG ?_ (by assumption))|(with_reducible exact bj _)|omega|(simp only[kh,kV,kU,kH];omega)|(simp;omega)|(simp;done)))⟩)
 ·rw[AM s (.inl h)]
  (go_enter func224,ntmps224;go_wp2_with fail;go_returns;exact⟨rfl,by(repeat' (first|(with_reducible exact jl _)|(with_reducible assumption)|(with_reducible refine kg ?_ _)|(with_reducible refine kN ?_ _)|(with_reducible refine lb ?_ _ _ _ ?_)|(with_reducible refine kT ?_)|(with_reducible refine kM ?_ _)|(with_reducible refine kX ?_ ?_ _)|(with_reducible refine kG ?_ (by assumption))|(with_reducible exact bj _)|omega|(simp only[kh,kV,kU,kH];omega)|(simp;omega)|(simp;done)))⟩)
 ·rw[AM s (.inr h)]
  (go_enter func224,ntmps224;go_wp2_with fail;go_returns;exact⟨rfl,by(repeat' (first|(with_reducible exact jl _)|(with_reducible assumption)|(with_reducible refine kg ?_ _)|(with_reducible refine kN ?_ _)|(with_reducible refine lb ?_ _ _ _ ?_)|(with_reducible refine kT ?_)|(with_reducible refine kM ?_ _)|(with_reducible refine kX ?_ ?_ _)|(with_reducible refine kG ?_ (by assumption))|(with_reducible exact bj _)|omega|(simp only[kh,kV,kU,kH];omega)|(simp;omega)|(simp;done)))⟩)
end
section
def iH(l:List UInt8):Int:=if 1<=l.length/\l.length<=8/\l.all lU=true then 0 else 10
def nm(n:Int):Int:=if 0<=n/\n<2 then 0 else 11
def mR(l:List UInt8):Int:=if 1<=l.length/\l.length<=12 then 0 else 12
def Ed.err(e:Ed):Int:=
 if e.kind<1\/5<e.kind then 1 else if iH e.key≠0 then iH e.key
 else if e.kind=1\/e.kind=2 then(if e.label≠0 then 11 else if e.value≠[]then 12 else 0)
 else if nm e.label≠0 then nm e.label else mR e.value
theorem KN(l:List UInt8):ku (S l)=iH l:=by simp[ku,iH,sF]
theorem Ny(l:List UInt8):rZ (S l)=mR l:=by simp[rZ,mR,sF]
theorem JU(s:List UInt8)(L:List aa)(a:s.length<=9223372036854775807):Fn prog 222 #[.string (S s)] L λv L'=>v=.int .i64 (iH s)/\L'=L:=by rw[<-KN];exact wH λw=>WD _ w (by rw[sF];exact a)
theorem Sk(n:Int)(L:List aa):Fn prog 223 #[.int .i64 n] L λv L'=>v=.int .i64 (nm n)/\L'=L:=wH λw=>Se n w
theorem Lf(s:List UInt8)(L:List aa)(a:s.length<=9223372036854775807):Fn prog 224 #[.string (S s)] L λv L'=>v=.int .i64 (mR s)/\L'=L:=by rw[<-Ny];exact wH λw=>YK _ w (by rw[sF];exact a)
set_option maxRecDepth 20000 attribute [local irreducible] Ex aM Fn bI bJ bV fin meet ch aX bZ aP aN aI Rd aK Row ao Sub bk bP bS bN bg bR Hid bY
section
theorem N4(e:Ed)(L:List aa)(a:e.key.length<=9223372036854775807)(b:e.value.length<=9223372036854775807):Fn prog 163 #[.agg (ab.cells e).toArray] L λv L'=>v=.int .i64 e.err/\L'=L:=by
 have c:iH e.key=0\/iH e.key=10:=by unfold iH;split<;>simp
 have d:nm e.label=0\/nm e.label=11:=by unfold nm;split<;>simp
 refine fo func163 ntmps163 ?_
 (repeat' (first|(refine r1 ?_;intros)|(refine fx J (λh=>?_) (λh=>?_)<;>try(exfalso;omega))|(apply fw;refine fH J J J (λh=>?_) (λh=>?_)<;>try(exfalso;omega))))
 ·refine fr ?_;exact⟨_,rB,aQ (by unfold Ed.err;rw[an U]),rfl⟩
 ·refine fr ?_;exact⟨_,rB,aQ (by unfold Ed.err;rw[an U]),rfl⟩
 refine bc [] J call222 J J (JU _ _ a) ?_;rintro _ _ ⟨rfl,rfl⟩
 (repeat' (first|(refine r1 ?_;intros)|(refine fx J (λh=>?_) (λh=>?_)<;>try(exfalso;omega))|(apply fw;refine fH J J J (λh=>?_) (λh=>?_)<;>try(exfalso;omega))))
 all_goals first
  |((refine bc [] J call223 J J (Sk _ _) ?_;rintro _ _ ⟨rfl,rfl⟩);(repeat' (first|(refine r1 ?_;intros)|(refine fx J (λh=>?_) (λh=>?_)<;>try(exfalso;omega))|(apply fw;refine fH J J J (λh=>?_) (λh=>?_)<;>try(exfalso;omega)))))
  |skip
 all_goals first
  |((refine bc [] J call224 J J (Lf _ _ b) ?_;rintro _ _ ⟨rfl,rfl⟩);(refine rn ?_;intros))
  |skip
 all_goals
  refine fr ?_;refine⟨_,rB,aQ ?_,rfl⟩;unfold Ed.err
  repeat(first|rw[an (by first|omega|assumption)]|rw[ai (by first|omega|assumption)])
end
section
theorem xB(e:Ed)(L:List aa)(i:e.key.length<=140737488355328)(r:e.value.length<=140737488355328):Fn prog 26 #[e.val] L λv L'=>v=e.fit.val/\L'=L:=by
 obtain⟨f,b,s,a⟩:=e;have q:=VY f;simp only[Ed.val,Ed.cells]at*
 refine fo func26 ntmps26 ?_;refine rn ?_;intros;refine ll [5,6] (λm vs=>∃k:Nat,k<=b.length/\m=b.length-k/\vs=[.int .i64 (kI (b.take k)),.int .i64 k]) b.length ?_ ?_
 ·exact⟨0,U,U,rfl⟩
 rintro m vs l ⟨k,i,rfl,rfl⟩;have n:=Mu (b.take k);simp only[dy]at n;by_cases g:k<b.length
 ·have:=b[k].toNat_lt;refine rn ?_;intros;exact aS ⟨b.length-(k+1),_,U,bW _,⟨k+1,U,rfl,av (aQ (K1 b k g).symm) (av (aQ U) rfl)⟩,rfl⟩
 refine rn ?_;intros;obtain rfl:k=b.length:=U;rw[dI]at*
 refine ll [7,8] (λm vs=>∃k:Nat,k<=a.length/\m=a.length-k/\vs=[.int .i64 (kI (a.take k)),.int .i64 k]) a.length ?_ ?_
 ·exact⟨0,U,U,rfl⟩
 rintro m vs l ⟨k,i,rfl,rfl⟩;have o:=Mu (a.take k);simp only[dy]at o;by_cases g:k<a.length
 ·have:=a[k].toNat_lt;refine rn ?_;intros;exact aS ⟨a.length-(k+1),_,U,bW _,⟨k+1,U,rfl,av (aQ (K1 a k g).symm) (av (aQ U) rfl)⟩,rfl⟩
 refine rn ?_;intros;obtain rfl:k=a.length:=U;rw[dI]at*
 have d:kI b%3=0\/kI b%3=1\/kI b%3=2:=U;have c:kI a%4=0\/kI a%4=1\/kI a%4=2\/kI a%4=3:=U;have p:2<1+(f.tmod 5+5)%5\/¬2<1+(f.tmod 5+5)%5:=U;rcases d with d|d|d
 all_goals
  refine mX ?_;intros
  (repeat' (first|(refine r1 ?_;intros)|(refine fx J (λh=>?_) (λh=>?_)<;>try(exfalso;omega))|(apply fw;refine fH J J J (λh=>?_) (λh=>?_)<;>try(exfalso;omega))))
 all_goals by_cases j:2<1+(f.tmod 5+5)%5
 all_goals first|(exfalso;omega)|skip
 all_goals first|((refine fr ?_);exact⟨_,rB,by simp only[Ed.fit,Ed.val,Ed.cells,d,ai j];rfl,rfl⟩)|skip
 all_goals
  rcases c with c|c|c|c<;>rw[c]
  all_goals
   refine rn ?_;intros
   skip
   refine fr ?_;exact⟨_,rB,by simp only[Ed.fit,Ed.val,Ed.cells,d,c,an j,uL.Yd];rfl,rfl⟩
end
end
section
theorem PJ(e:Ed):e.fit.key=[97,110,110]\/e.fit.key=[98,111,98]\/e.fit.key=[99,121]:=by
 show yc _=_\/yc _=_\/yc _=_;unfold yc;split
 ·simp
 ·split<;>simp
theorem Ph(e:Ed):e.fit.value=[]\/e.fit.value=[49]\/e.fit.value=[116,119,111]\/e.fit.value=[0,255]\/e.fit.value=[116,119,101,108,118,101,32,98,121,116,101,115]:=by
 simp only[Ed.fit];split
 ·unfold Mn;split
  ·simp
  ·split
   ·simp
   ·split<;>simp
 ·simp
end
section
structure Ch where
 r:Int
 from_:Int
 sync:Bool
 ed:Ed
instance:ab Ch:=⟨7,λc=>[.int .u8 c.r,.int .u8 c.from_,.bool c.sync,.int .i64 c.ed.kind,.string (S c.ed.key),.int .i64 c.ed.label,.string (S c.ed.value)],by decide,λ_=>rfl,λ_=>rfl⟩
structure Ch.Ok(c:Ch):Prop where
 r:0<=c.r/\c.r<=255
 f:0<=c.from_/\c.from_<=255
 k:c.ed.key.length<=140737488355328
 v:c.ed.value.length<=140737488355328
def fg(c:aj)(s:Int×Bool)(e:Ev):Int×Bool:=if c.has e.r e.n=true/\(s.2=false\/s.1<e.h)then(e.h,true)else s
def lq(a:List Ev)(c:aj):Int:=(a.foldl (fg c) (0,false)).1+1
structure aao(m:Int)(s:List Ev×List aj):Prop where
 aak:s.2.length=5
 aT:∀c∈s.2,∀j,0<=c.get j/\c.get j<=m
 len:(s.1.length:Int)<=m
 n:∀e∈s.1,1<=e.n/\e.n<=m
 r:∀e∈s.1,0<=e.r/\e.r<5
 h:∀e∈s.1,1<=e.h/\e.h<=m
variable{A:List Ev}
theorem VN{c:aj}(h:∀e∈A,1<=e.h/\e.h<=m)(f:0<=m):0<=(A.foldl (fg c) (0,false)).1/\(A.foldl (fg c) (0,false)).1<=m:=by
 have i:∀(l:List Ev) (s:Int×Bool),(∀e∈l,1<=e.h/\e.h<=m)->0<=s.1/\s.1<=m->0<=(l.foldl (fg c) s).1/\(l.foldl (fg c) s).1<=m:=by
  intro l
  induction l with
  |nil=>intro s _ h;exact h
  |cons a l ih=>
   intro s b g;refine ih _ (λe d=>b e (eu _ d)) ?_;have:=b a (fP ..);unfold fg;split
   ·exact⟨by show 0<=a.h;omega,this.2⟩
   ·exact g
 exact i A (0,false) h ⟨eH _,f⟩
end
section
def marks(l:List Ev):List Mk:=l.map Ev.cj
theorem nT(i:Nat):aj.zero.get i=0:=by
 match i with
 |0=>rfl
 |1=>rfl
 |2=>rfl
 |3=>rfl
 |4=>rfl
 |i+5=>simp[aj.get]
structure Ev.aW(e:Ev):Prop where
 r:0<=e.r/\e.r<5
 n:1<=e.n/\e.n<=1048576
 h:1<=e.h/\e.h<=16777216
 c:∀i,i<5->0<=e.c.get i/\e.c.get i<=1048576
 own:e.c.get e.r.toNat=e.n-1
 ed:e.ed.err=0
def Rh(l:List Ev)(c:aj)(h:Int):Prop:=(∀a∈l,c.has a.r a.n=true->a.h<h)/\((h=1/\∀a∈l,c.has a.r a.n=false)\/∃a∈l,c.has a.r a.n=true/\a.h+1=h)
structure aaf(l:List Ev):Prop where
 may:∀e∈l,e.aW
 dst:fG l
 all:∀e∈l,∀r n,e.c.has r n=true->∃a∈l,a.cj=⟨r,n⟩/\a.c.le e.c=true
 high:∀e∈l,Rh l e.c e.h
def St(l:List Ev):Prop:=∀a e b,l=a++e::b->∀r n,e.c.has r n=true->(⟨r,n⟩:Mk)∈marks a
structure Dlv(w log:List Ev):Prop where
 sub:∀e∈log,e∈w
 dst:fG log
 ord:St log
end
section
section
variable{P:Program}{f:Nat->Value}{L:List aa}{d:Nat}{ty:TypeId}{pos:String}{af:Array Edge}{gd:Option (Nat×Bool)}
theorem extract_toArray(cs:List Value)(o m:Nat):cs.toArray.extract o (o+m)=((cs.drop o).take m).toArray:=by simp[List.take_drop]
theorem Cu{s:TypeId}{m:Nat}{fs:Array Field}{a:Field}{ws:List Value}(hx:aH f x=.agg cs.toArray)(j:P.underlying s=some (.struct fs))(c:fs[k]?=some a)(b:cR P a.type=some true)(g:P.cellsOf a.type=m)
  (i:Nat.blt 0 m=true)(e:kF ((cs.drop a.offset).take m)=some ws):aP P ⟨some d,.field s x k,ty,pos,af,gd⟩ f L (.agg ws.toArray):=λF w h=>by
 rw[<-pJ e,<-extract_toArray];simp[execOp,hx,Instr.field,cX j,c,asAgg,part,sM w b,gQ w g (cT i)]
theorem pU{k:IntKind}{c:Int}(hx:aH f x=.agg [.int .i64 a,.int .i64 b,.int .i64 c,.int .i64 r,.int .i64 m].toArray)(hy:aH f y=.int k j)(p:P.underlying t=some (.array 5 e))(l:cR P e=some false)(o:P.cellsOf e=1)(g:0<=j)(q:j<5):
  aP P ⟨some d,.index t x y,ty,pos,af,gd⟩ f L (.int .i64 ((⟨a,b,c,r,m⟩:aj).get j.toNat)):=λF w h=>by
 obtain⟨i,rfl⟩:=jF g;have hi:i<5:=U;have n:[Value.int .i64 a,.int .i64 b,.int .i64 c,.int .i64 r,.int .i64 m][i]?=some (.int .i64 ((⟨a,b,c,r,m⟩:aj).get i)):=by
  match i,hi with
  |0,_=>rfl
  |1,_=>rfl
  |2,_=>rfl
  |3,_=>rfl
  |4,_=>rfl
 simp[execOp,hx,hy,Instr.index,cX p,asIntOf,part,sM w l,gQ w o (Nat.succ_pos 0),hi];exact(iA.1 n).2
end
end
section
theorem BX(k:aj)(x y:Int)(h:i<5):[k.a,k.b,k.c,k.d,k.e,x,y].getD i 0=k.get i:=by
 match i,h with
 |0,_=>rfl
 |1,_=>rfl
 |2,_=>rfl
 |3,_=>rfl
 |4,_=>rfl
set_option maxRecDepth 20000 attribute [local irreducible] Ex aM Fn bI bJ bV fin meet ch aX bZ aP aN aI Rd aK Row ao Sub bk bP bS bN bg bR Hid bY
section
theorem xQ(n a b:Int)(M:List aa):Fn prog 274 #[.int .i64 n,.int .i64 a,.int .i64 b] M λv L'=>v=.bool (decide (a<=n/\n<=b))/\L'=M:=by
 refine fo func274 ntmps274 ?_;by_cases c:a<=n
 ·by_cases d:n<=b
  ·rw[bf (⟨c,d⟩:a<=n/\n<=b)];exact bh
  ·rw[bd (λh:a<=n/\n<=b=>d h.2)];exact bh
 ·rw[bd (λh:a<=n/\n<=b=>c h.1)];exact bh
theorem Bm(a e:Ev)(M:List aa):Fn prog 308 #[.agg (ab.cells a).toArray,.agg (ab.cells e).toArray] M λv L'=>v=.bool (e.c.has a.r a.n)/\L'=M:=by refine fo func308 ntmps308 ?_;refine rn ?_;intros;refine ca [] call171 (Ew e.c a.r a.n _) ?_;rintro _ _ ⟨rfl,rfl⟩;exact bh
theorem xU(e:Ev)(M:List aa)(r:e.ed.key.length<=9223372036854775807)(y:e.ed.value.length<=9223372036854775807):Fn prog 236 #[.agg (ab.cells e).toArray] M λv L'=>(∃x:Int,(x=0↔e.aW)/\v=.int .i64 x)/\L'=M:=by
 have a:¬e.aW->∃x:Int,(x=0↔e.aW)/\Value.int .i64 1=.int .i64 x:=λh=>⟨1,⟨λx=>absurd x (by decide),λk=>(h k).elim⟩,rfl⟩;refine fo func236 ntmps236 ?_;refine rn ?_;(repeat(first|intro(g:Nat)|intro h));refine ca [] call274 (xQ e.r 0 4 _) ?_;rintro _ _ ⟨rfl,rfl⟩;by_cases l:0<=e.r/\e.r<=4
 ·rw[bf l];refine rn ?_;(repeat(first|intro(g:Nat)|intro h));refine ca [] call274 (xQ e.n 1 1048576 _) ?_;rintro _ _ ⟨rfl,rfl⟩;by_cases f:1<=e.n/\e.n<=1048576
  ·rw[bf f];refine rn ?_;(repeat(first|intro(g:Nat)|intro h));refine ca [] call274 (xQ e.h 1 16777216 _) ?_;rintro _ _ ⟨rfl,rfl⟩;by_cases d:1<=e.h/\e.h<=16777216
   ·rw[bf d];refine rn ?_;(repeat(first|intro(g:Nat)|intro h));revert g;intro A;refine ll [23] (λm vs=>∃(i:Nat),i<=5/\m=5-i/\vs=[.int .i64 i]/\∀j,j<i->0<=e.c.get j/\e.c.get j<=1048576) 5 ⟨0,U,U,rfl,λj n=>by omega⟩ ?_;rintro m vs C ⟨i,hi,rfl,rfl,b⟩;refine bp [1,22,23] rG (λF=>?_);by_cases s:i<5
    ·have u:¬(0<=e.c.get i/\e.c.get i<=1048576)->¬e.aW:=λh k=>h (k.c i s);refine rn ?_;intros;refine cH J J J (pU J J J J J U U) ?_;rw[show(⟨e.c.a,e.c.b,e.c.c,e.c.d,e.c.e⟩:aj).get (i:Int).toNat=e.c.get i from rfl];refine rn ?_;intros;refine ca [] call274 (xQ (e.c.get i) 0 1048576 _) ?_;rintro _ _ ⟨rfl,rfl⟩;by_cases c:0<=e.c.get i/\e.c.get i<=1048576
     ·have p:∀j,j<i+1->0<=e.c.get j/\e.c.get j<=1048576:=λj n=>by
       by_cases q:j=i
       ·subst q;exact c
       ·exact b j U
      clear b;rw[bf c];refine rn ?_;intros;exact aS ⟨5-(i+1),_,U,rB,⟨i+1,U,U,av (aQ U) rfl,p⟩,rfl⟩
     ·rw[bd c];clear b;refine rn ?_;intros;refine fr ?_;exact⟨_,rB,a (u c),rfl⟩
    ·have w:e.r.toNat<5:=U;have z:[e.c.a,e.c.b,e.c.c,e.c.d,e.c.e,e.h,e.ed.kind].getD e.r.toNat 0=e.c.get e.r.toNat:=BX e.c _ _ w;by_cases o:e.c.get e.r.toNat=e.n-1
     ·refine rn ?_;intros;refine oE ?_;intros;refine rn ?_;intros;refine ca [] call163 (N4 e.ed _ r y) ?_;rintro _ _ ⟨rfl,rfl⟩;refine rn ?_;intros;refine fr ?_;exact⟨_,rB,⟨e.ed.err,⟨λh=>⟨⟨l.1,U⟩,f,d,λj n=>b j U,o,h⟩,λk=>k.ed⟩,rfl⟩,rfl⟩
     ·have t:¬e.aW:=λk=>o k.own;refine rn ?_;intros;refine oE ?_;intros;refine rn ?_;intros;refine fr ?_;exact⟨_,rB,a t,rfl⟩
   ·rw[bd d];refine rn ?_;intros;refine fr ?_;exact⟨_,rB,a λk=>d k.h,rfl⟩
  ·rw[bd f];refine rn ?_;intros;refine fr ?_;exact⟨_,rB,a λk=>f k.n,rfl⟩
 ·rw[bd l];refine rn ?_;intros;refine fr ?_;exact⟨_,rB,a λk=>l ⟨k.r.1,by have:=k.r.2;omega⟩,rfl⟩
end
section
def sB(s:List UInt8):List UInt8:=UInt8.ofNat s.length::s
theorem T6(n a:Nat)(v0:Value)(l:List UInt8)(M:List aa)(e:O1 v0)(b:n<2^63)(c:l.length<=1000000):Fn prog 242 #[.int .i64 n,.pointer (some ⟨a,0,none⟩)] (bB v0 l::ao a 45 [v0]::M) λ_ L'=>∃v,O1 v/\L'=bB v (l++vB n)::ao a 45 [v]::M:=by have d:=wR 9 n (by simpa using b) U;refine fo func242 ntmps242 ?_;refine bU 5 (ao a 45 [v0]::M) rfl rQ rF ?_;refine mn ?_;(repeat(first|intro(v:Value)|intro h));refine ma [] call179 (Md n _ b) ?_;rintro g _ ⟨f,rfl⟩;refine bn ?_;refine br rF ?_;refine mn ?_;(repeat(first|intro(v:Value)|intro h));refine rn ?_;(repeat(first|intro(v:Value)|intro h));refine fr ?_;exact⟨_,rB,v,by assumption,rfl⟩
theorem MH(s:List UInt8)(a:Nat)(v0:Value)(l:List UInt8)(M:List aa)(d:O1 v0)(c:s.length<=12)(b:l.length<=1000000):Fn prog 243 #[.string (S s),.pointer (some ⟨a,0,none⟩)] (bB v0 l::ao a 45 [v0]::M) λ_ L'=>∃v,O1 v/\L'=bB v (l++sB s)::ao a 45 [v]::M:=by refine fo func243 ntmps243 ?_;refine rn ?_;(repeat(first|intro(v:Value)|intro(o:O1 _)|intro h));refine GW 1 (s:=s) J J J J (by simp) J J J J J J (by simp;omega) (λv o=>?_);refine rn ?_;(repeat(first|intro(v:Value)|intro h));refine fr ?_;rw[show l++sB s=l++[UInt8.ofNat (s.length:Int).toNat]++s by simp[sB]];exact⟨_,rB,v,by assumption,rfl⟩
theorem JB(k:Int)(M:List aa):Fn prog 244 #[.int .i64 k] M λv L'=>v=.bool (decide (k≠1/\k≠2))/\L'=M:=by
 refine fo func244 ntmps244 ?_;by_cases a:k=1
 ·subst a;exact bh
 ·by_cases b:k=2
  ·subst b;exact bh
  ·refine rn ?_;intros;refine fr ?_;exact⟨_,rB,by rw[bf ⟨a,b⟩],rfl⟩
def cP(c:aj)(r:Int)(m:Nat):List UInt8:=(List.range m).flatMap λ(i:Nat)=>if(i:Int)=r then[]else vB (c.get i).toNat
def jQ(e:Ed):List UInt8:=sB e.key++if e.kind=1\/e.kind=2 then[]else UInt8.ofNat e.label.toNat::sB e.value
def Ev.bytes(e:Ev):List UInt8:=[UInt8.ofNat e.ed.kind.toNat,UInt8.ofNat e.r.toNat]++vB e.n.toNat++cP e.c e.r 5++vB e.h.toNat++jQ e.ed
theorem px(c:aj)(r:Int)(m:Nat):cP c r (m+1)=cP c r m++if(m:Int)=r then[]else vB (c.get m).toNat:=by unfold cP;rw[wx,C3];simp
theorem fy{n:Nat}(h:n<=16777216):(vB n).length<=4:=wR 4 n (by simp;omega) U
theorem zC(c:aj)(r:Int)(a:∀i,i<5->0<=c.get i/\c.get i<=1048576):∀m,m<=5->(cP c r m).length<=4*m
 |0,_=>by simp[cP]
 |m+1,hm=>by
  have d:=zC c r a m U;have b:=a m U;have:=fy (n:=(c.get m).toNat) U;rw[px,bo];split
  ·simp;omega
  ·omega
end
section
theorem Ed.vO{e:Ed}(h:e.err=0):(1<=e.kind/\e.kind<=5)/\(1<=e.key.length/\e.key.length<=8)/\(e.label=0\/e.label=1)/\e.value.length<=12/\(e.kind=1\/e.kind=2->e.label=0/\e.value=[])/\(¬(e.kind=1\/e.kind=2)->1<=e.value.length):=by
 unfold Ed.err at h;by_cases j:e.kind<1\/5<e.kind
 ·rw[an j]at h;omega
 ·rw[ai j]at h;by_cases b:iH e.key≠0
  ·rw[an b]at h;exact absurd h b
  ·rw[ai b]at h;have f:1<=e.key.length/\e.key.length<=8:=by
    unfold iH at b;split at b
    ·rename_i i;exact⟨i.1,i.2.1⟩
    ·exact absurd (by decide) b
   by_cases d:e.kind=1\/e.kind=2
   ·rw[an d]at h;by_cases a:e.label≠0
    ·rw[an a]at h;omega
    ·rw[ai a]at h;by_cases c:e.value≠[]
     ·rw[an c]at h;omega
     ·have g:e.value=[]:=Bs.1 c;exact⟨U,f,.inl U,by rw[g];simp,λ_=>⟨U,g⟩,λk=>absurd d k⟩
   ·rw[ai d]at h;by_cases a:nm e.label≠0
    ·rw[an a]at h;exact absurd h a
    ·rw[ai a]at h;have c:1<=e.value.length/\e.value.length<=12:=by
      unfold mR at h;split at h
      ·assumption
      ·omega
     have l:0<=e.label/\e.label<2:=by
      unfold nm at a;split at a
      ·assumption
      ·exact absurd (by decide) a
     exact⟨U,f,U,c.2,λk=>absurd k d,λ_=>c.1⟩
theorem DO(n:Int)(a:Nat)(v0:Value)(l:List UInt8)(M:List aa)(d:O1 v0)(c:0<=n/\n<=16777216)(b:l.length<=1000000):Fn prog 242 #[.int .i64 n,.pointer (some ⟨a,0,none⟩)] (bB v0 l::ao a 45 [v0]::M) λ_ L'=>∃v,O1 v/\L'=bB v (l++vB n.toNat)::ao a 45 [v]::M:=by obtain⟨k,rfl⟩:=jF c.1;rw[dc];exact T6 k a v0 l M d U b
theorem Ky(e:Ev)(M:List aa)(z:e.ed.key.length<=9223372036854775807)(F:e.ed.value.length<=9223372036854775807):Fn prog 178 #[.agg (ab.cells e).toArray] M λr L'=>(¬e.aW/\(∃x:Int,x≠0/\r=.tuple #[.slice none 0 0,.int .i64 x])/\L'=M)\/(e.aW/\∃v,O1 v/\r=.tuple #[v,.int .i64 0]/\L'=bB v e.bytes::M):=by
 refine fo func178 ntmps178 ?_;refine rn ?_;(repeat(first|intro(g:Nat)|intro(v:Value)|intro(o:O1 _)|intro(cs:List Value)|intro(c:_=List.set _ _ _)|intro(zs:List _)|intro h));refine ca [] call236 (xU e _ z F) ?_;rintro _ _ ⟨⟨x,hx,rfl⟩,rfl⟩;by_cases b:e.aW
 ·have k:=hx.2 b;subst k;have hl:=Ed.vO b.ed;have hr:=b.r;have hn:=b.n;have hh:=b.h;refine rn ?_;(repeat(first|intro(g:Nat)|intro(v:Value)|intro(o:O1 _)|intro(cs:List Value)|intro(c:_=List.set _ _ _)|intro(zs:List _)|intro h));rename_i w W;revert g;intro a;refine iL [1] (xs:=[.tmp 26]) (fs:=[]) (us:=[.pointer (some ⟨a,0,none⟩)]) (vs:=[.int .i64 e.n]) J J call242 rE J (DO e.n a _ _ _ rfl U (by simp)) ?_;rintro _ _ ⟨P,H,rfl⟩;have j1:=fy (n:=e.n.toNat) U;generalize hP:[UInt8.ofNat e.ed.kind.toNat,UInt8.ofNat e.r.toNat]++vB e.n.toNat=f;have c9:f.length<=6:=by rw[<-hP];simp;omega
  refine rn ?_;(repeat(first|intro(v:Value)|intro(o:O1 _)|intro(c:_=List.set _ _ _)|intro h));refine bm [30] (λq vs L'=>∃(i:Nat) (v:Value),i<=5/\q=5-i/\v.oneCell'=true/\vs=[.int .i64 i]/\L'=bB v (f++cP e.c e.r i)::ao a 45 [v]::ao w 80 (ab.cells e)::M) 5 ⟨0,P,U,rfl,H,rfl,by simp[cP];rfl⟩ ?_;rintro q vs V R ⟨i,Q,hi,rfl,l,rfl,rfl⟩;refine bp [1,5,6,7,29,30] rG (λgk=>?_);have d8:=zC e.c e.r b.c i hi;by_cases C:i<5
  ·have d7:=b.c i C;have c:=px e.c e.r i;have d6:=fy (n:=(e.c.get i).toNat) U;refine rn ?_;(repeat(first|intro(v:Value)|intro(o:O1 _)|intro(c:_=List.set _ _ _)|intro h));refine cH J J J (pU J J J J J U U) ?_;rw[show(⟨e.c.a,e.c.b,e.c.c,e.c.d,e.c.e⟩:aj).get (i:Int).toNat=e.c.get i from rfl];by_cases p:(i:Int)=e.r
   ·rw[an p,ck]at c;rw[<-c];refine rn ?_;(repeat(first|intro(v:Value)|intro(o:O1 _)|intro(c:_=List.set _ _ _)|intro h));exact aS ⟨5-(i+1),_,U,rB,i+1,Q,U,rfl,l,av (aQ U) rfl,rfl⟩
   ·rw[ai p]at c;refine rn ?_;(repeat(first|intro(v:Value)|intro(o:O1 _)|intro(c:_=List.set _ _ _)|intro h));refine iL [] (xs:=[.tmp 39]) (fs:=[]) (us:=[.pointer (some ⟨a,0,none⟩)]) (vs:=[.int .i64 (e.c.get i)]) J J call242 rE J (DO (e.c.get i) a _ _ _ l U (by rw[bo];omega)) ?_;rintro _ _ ⟨t,m,rfl⟩;rw[dB,<-c];refine rn ?_;(repeat(first|intro(v:Value)|intro(o:O1 _)|intro h));exact aS ⟨5-(i+1),_,U,rB,i+1,t,U,rfl,m,av (aQ U) rfl,rfl⟩
  ·have y:i=5:=U;subst y;have e8:=fy (n:=e.h.toNat) U;refine rn ?_;(repeat(first|intro(v:Value)|intro(o:O1 _)|intro h));refine iL [] (xs:=[.tmp 44]) (fs:=[]) (us:=[.pointer (some ⟨a,0,none⟩)]) (vs:=[.int .i64 e.h]) J J call242 rE J (DO e.h a _ _ _ l U (by rw[bo];omega)) ?_;rintro _ _ ⟨t,m,rfl⟩;generalize hP2:f++cP e.c e.r 5++vB e.h.toNat=d;have c8:d.length<=50:=by rw[<-hP2,bo,bo];omega
   refine rn ?_;(repeat(first|intro(v:Value)|intro(o:O1 _)|intro h));refine iL [] (xs:=[.tmp 48]) (fs:=[]) (us:=[.pointer (some ⟨a,0,none⟩)]) (vs:=[.string (S e.ed.key)]) J J call243 rE J (MH e.ed.key a _ _ _ m U U) ?_;rintro _ _ ⟨v4,I,rfl⟩;refine rn ?_;(repeat(first|intro(v:Value)|intro(o:O1 _)|intro h));refine ca [] call244 (JB e.ed.kind _) ?_;rintro _ _ ⟨rfl,rfl⟩;by_cases s:e.ed.kind=1\/e.ed.kind=2
   ·rw[show decide (e.ed.kind≠1/\e.ed.kind≠2)=false from bd U];have j:e.bytes=d++sB e.ed.key:=by rw[<-hP2,<-hP];simp[Ev.bytes,jQ,an s]
    rw[j];refine rn ?_;(repeat(first|intro(v:Value)|intro(o:O1 _)|intro h));refine fr ?_;exact⟨_,rB,.inr ⟨b,_,I,rfl,rfl⟩⟩
   ·rw[show decide (e.ed.kind≠1/\e.ed.kind≠2)=true from bf U];have j:e.bytes=d++sB e.ed.key++[UInt8.ofNat e.ed.label.toNat]++sB e.ed.value:=by rw[<-hP2,<-hP];simp[Ev.bytes,jQ,ai s]
    rw[j];have A:(d++sB e.ed.key).length<=60:=by simp[sB];omega
    generalize d++sB e.ed.key=u at A⊢
    refine rn ?_;(repeat(first|intro(v:Value)|intro(o:O1 _)|intro h));refine iL [2,2] (xs:=[.tmp 61]) (fs:=[]) (us:=[.pointer (some ⟨a,0,none⟩)]) (vs:=[.string (S e.ed.value)]) J J call243 rE J (MH e.ed.value a v (u++[UInt8.ofNat e.ed.label.toNat]) _ o U (by simp;omega)) ?_;rintro _ _ ⟨v5,L,rfl⟩;refine rn ?_;intros;refine fr ?_;exact⟨_,rB,.inr ⟨b,_,L,rfl,rfl⟩⟩
 ·have k:x≠0:=λh=>b (hx.1 h);refine rn ?_;intros;refine fr ?_;exact⟨_,rB,.inl ⟨b,⟨x,k,rfl⟩,rfl⟩⟩
end
section
abbrev Rs:=Int×Nat
def jD(b:List UInt8)(s:Rs)(lo hi:Int):Int×Rs:=
 if s.1≠0 then(0,s)else match b[s.2]? with
  |none=>(0,(2,s.2))
  |some c=>if lo<=(c.toNat:Int)/\(c.toNat:Int)<=hi then(c.toNat,(0,s.2+1))else(0,(3,s.2+1))
def hU(b:List UInt8)(s:Rs)(lo hi:Int):Int×Rs:=
 if s.1≠0 then(0,s)else match iQ (b.drop s.2)with
  | .error x=>(0,(x,s.2))
  | .ok (n,k)=>if(n:Int)<lo\/hi<(n:Int)then(0,(3,s.2))else(n,(0,s.2+k))
def lQ(b:List UInt8)(s:Rs)(n:Int)(a:List UInt8->Int):List UInt8×Rs:=
 if s.1≠0 then([],s)else if(b.length:Int)-s.2<n then([],(2,s.2))else
  ((b.drop s.2).take n.toNat,(if a ((b.drop s.2).take n.toNat)=0 then 0 else 3,s.2+n.toNat))
@[reducible] def fF(c b a:Nat)(s:Rs)(v:Value)(M:List aa):List aa:=ao c 57 [.int .i64 s.1]::ao b 3 [.int .i64 s.2]::ao a 45 [v]::M
theorem xW(lo hi:Int)(h g f:Nat)(s:Rs)(v0:Value)(b:List UInt8)(M:List aa)(p:O1 v0)(o:aI M v0 b)(m:b.length<=1000000000)(l:s.2<=b.length):
  Fn prog 319 #[.int .i64 lo,.int .i64 hi,.pointer (some ⟨h,0,none⟩),.pointer (some ⟨g,0,none⟩),.pointer (some ⟨f,0,none⟩)] (fF h g f s v0 M) λr L'=>r=.int .i64 (jD b s lo hi).1/\L'=fF h g f (jD b s lo hi).2 v0 M:=by
 obtain⟨e,ps⟩:=s;simp only at l;unfold fF;simp only;refine fo func319 ntmps319 ?_;by_cases j:e=0
 ·subst j;by_cases k:ps<b.length
  ·obtain⟨c,i⟩:∃c,c=b[ps]'k:=⟨_,rfl⟩;have n:=c.toNat_lt;have a:jD b (0,ps) lo hi=if lo<=(c.toNat:Int)/\(c.toNat:Int)<=hi then((c.toNat:Int),(0,ps+1))else(0,(3,ps+1)):=by unfold jD;simp[gV k,i]
   rw[a];refine rn ?_;intros;rw[<-i];refine ca [] call274 (xQ (c.toNat:Int) lo hi _) ?_;rintro _ _ ⟨rfl,rfl⟩;by_cases d:lo<=(c.toNat:Int)/\(c.toNat:Int)<=hi
   ·rw[an d,bf d];exact bh
   ·rw[ai d,bd d];exact bh
  ·have a:jD b (0,ps) lo hi=(0,(2,ps)):=by unfold jD;simp[pG (show b.length<=ps by omega)]
   rw[a];exact bh
 ·have a:jD b (e,ps) lo hi=(0,(e,ps)):=by unfold jD;rw[an j]
  rw[a];exact bh
theorem th:∀(l:List UInt8) (i a:Nat),match vT i a l with
  | .error x=>x=2\/x=3
  | .ok (n,k)=>i<k/\k<=i+l.length
 |[],i,a=>by
  unfold vT;split
  ·rename_i h;split at h<;>simp_all
  ·rename_i h;split at h<;>simp_all
 |c::l,i,a=>by
  have b:=th l (i+1) (a+((c.toNat-128)*2^(7*i))%2^64);unfold vT;by_cases d:i=10
  ·rw[an d];simp
  ·rw[ai d];by_cases e:128<=c.toNat
   ·rw[an e];revert b;generalize vT (i+1) (a+((c.toNat-128)*2^(7*i))%2^64) l=q;rcases q with x|⟨n,k⟩
    ·exact id
    ·intro b;simp only[dL]at b⊢
     omega
   ·rw[ai e];split
    ·rename_i h;split at h<;>simp_all
    ·rename_i n k h;split at h
     ·cases h
     ·simp only[Except.ok.injEq,kR]at h;simp only[dL];omega
theorem Gv(lo hi:Int)(g f e:Nat)(s:Rs)(v0:Value)(b:List UInt8)(M:List aa)(v:O1 v0)(u:aI M v0 b)(o:b.length<=1000000000)(m:s.2<=b.length)(t:0<=lo/\lo<=100)(p:0<=hi/\hi<=100000000):
  Fn prog 320 #[.int .i64 lo,.int .i64 hi,.pointer (some ⟨g,0,none⟩),.pointer (some ⟨e,0,none⟩),.pointer (some ⟨f,0,none⟩)] (fF g f e s v0 M) λr L'=>r=.int .i64 (hU b s lo hi).1/\L'=fF g f e (hU b s lo hi).2 v0 M:=by
 obtain⟨d,ps⟩:=s;simp only at m;unfold fF;simp only;refine fo func320 ntmps320 ?_;by_cases i:d=0
 ·subst i;refine rn ?_;intros;refine bc [] J call247 J J (wX _ (b.drop ps) _ rD (by rw[ew];omega)) ?_;rintro _ _ ⟨rfl,rfl⟩;have a:=th (b.drop ps) 0 0;rw[ew]at a;rcases hv:iQ (b.drop ps)with x|⟨n,k⟩
  ·have h:vT 0 0 (b.drop ps)=.error x:=hv;rw[h]at a;have c:hU b (0,ps) lo hi=(0,(x,ps)):=by unfold hU;simp[hv]
   rw[c];have hx:x=2\/x=3:=a;clear a;unfold oB;exact bh
  ·have h:vT 0 0 (b.drop ps)=.ok (n,k):=hv;rw[h]at a;have q:0<k/\k<=0+(b.length-ps):=a;clear a;have c:hU b (0,ps) lo hi=if(n:Int)<lo\/hi<(n:Int)then(0,(3,ps))else((n:Int),(0,ps+k)):=by unfold hU;simp[hv]
   rw[c];unfold oB;by_cases j:(n:Int)<lo
   ·rw[an (.inl j)];exact bh
   ·by_cases l:hi<(n:Int)
    ·rw[an (.inr l)];exact bh
    ·rw[ai U];exact bh
 ·have c:hU b (d,ps) lo hi=(0,(d,ps)):=by unfold hU;rw[an i]
  rw[c];exact bh
theorem MX(n:Int)(fn:FuncId)(a:List UInt8->Int)(p:∀(xs:Array Value) (w:World),(callFunc fn xs).run prog w=.ok (.enter fn xs) w)(k:∀(s:List UInt8) (L:List aa),s.length<=100->Fn prog fn #[.string (S s)] L λv L'=>v=.int .i64 (a s)/\L'=L)
  (g f e:Nat)(s:Rs)(v0:Value)(b:List UInt8)(M:List aa)(y:O1 v0)(x:aI M v0 b)(u:b.length<=1000000000)(t:s.2<=b.length)(l:0<=n/\n<=12):
  Fn prog 321 #[.int .i64 n,.func (.func fn) #[] #[],.pointer (some ⟨g,0,none⟩),.pointer (some ⟨e,0,none⟩),.pointer (some ⟨f,0,none⟩)] (fF g f e s v0 M) λr L'=>r=.string (S (lQ b s n a).1)/\L'=fF g f e (lQ b s n a).2 v0 M:=by
 obtain⟨d,ps⟩:=s;simp only at t;unfold fF;simp only;refine fo func321 ntmps321 ?_;by_cases h:d=0
 ·subst h;by_cases i:(b.length:Int)-ps<n
  ·have c:lQ b (0,ps) n a=([],(2,ps)):=by unfold lQ;simp[i]
   rw[c];exact bh
  ·obtain⟨m,rfl⟩:=jF l.1;have c:lQ b (0,ps) m a=((b.drop ps).take m,(if a ((b.drop ps).take m)=0 then 0 else 3,ps+m)):=by unfold lQ;simp[i]
   rw[c];refine rn ?_;intros;rw[show((ps:Int)+m).toNat-(ps:Int).toNat=m by omega,dc];generalize hq:(b.drop ps).take m=q;have o:q.length<=100:=by rw[<-hq,dy];omega
   refine iL [] (xs:=[.tmp 32]) (fs:=[]) (us:=[]) (vs:=[.string (S q)]) J J p rE J (k q _ o) ?_;rintro _ _ ⟨rfl,rfl⟩;by_cases j:a q=0
   ·rw[an j];exact bh
   ·rw[ai j];exact bh
 ·have c:lQ b (d,ps) n a=([],(d,ps)):=by unfold lQ;rw[an h]
  rw[c];exact bh
end
end
def zZ:=@aj.getD_eq
end Go.Proofs.YtogcfijlhpaeeaaGreat
