/- Texts. No condition. -/
import Derived.Test.YtogcfijlhpaeeaaGreatYpag
open Go.RowKit Go.Proofs.Tryz
set_option linter.all false
set_option maxHeartbeats 32000000
namespace Go.Proofs.YtogcfijlhpaeeaaGreat
variable{k i:Nat}{r:Int}{t:TypeId}{L:List aa}{v:Value}{α:Type}{bs:List Bv}
section
def qT(b:List UInt8)(q:Nat):Bool:=(b.getD (q/8) 0).toNat.testBit (q%8)
def rv(b:List UInt8)(p:Nat):List UInt8:=b.set (p/8) (b.getD (p/8) 0^^^UInt8.ofNat (2^(p%8)))
def ij(b:List UInt8)(k mask:Nat):Nat->List UInt8
 |0=>b
 |i+1=>if mask.testBit i=true/\k+i<8*b.length then rv (ij b k mask i) (k+i)else ij b k mask i
@[reducible] def ib(b:List UInt8)(k mask:Nat):List UInt8:=ij b k mask 32
theorem Xw(b:List UInt8)(p:Nat):(rv b p).length=b.length:=by simp[rv]
theorem pg(b:List UInt8)(k mask:Nat):∀i,(ij b k mask i).length=b.length
 |0=>rfl
 |i+1=>by
  simp only[ij];split
  ·rw[Xw,pg b k mask i]
  ·exact pg b k mask i
theorem YM{m:Nat}(h:m<8):(UInt8.ofNat (2^m)).toNat=2^m:=by have:m=0\/m=1\/m=2\/m=3\/m=4\/m=5\/m=6\/m=7:=U;rcases this with rfl|rfl|rfl|rfl|rfl|rfl|rfl|rfl<;>rfl
theorem MP{b:List UInt8}{p:Nat}(d:p<8*b.length)(q:Nat):qT (rv b p) q=(qT b q^^decide (q=p)):=by
 unfold qT rv;by_cases a:q/8=p/8
 ·rw[a];have c:p/8<b.length:=U;simp only[cu,tM c,AH,UInt8.toNat_xor,zI,YM (show p%8<8 by omega),Nat.testBit_two_pow];congr 1;by_cases h:q=p
  ·subst h;simp
  ·rw[bd h,bd U]
 ·rw[bd (by intro h;subst h;exact a rfl)];simp only[cu,Ac (ur a),BQ]
theorem ME{b:List UInt8}{k mask:Nat}(q:Nat):∀i,qT (ij b k mask i) q=(qT b q^^(decide (k<=q/\q<k+i/\q<8*b.length)&&mask.testBit (q-k)))
 |0=>by
  rw[bd U];simp[ij]
 |i+1=>by
  have a:=ME (b:=b) (k:=k) (mask:=mask) q i;simp only[ij];by_cases d:q=k+i
  ·subst d;rw[bd U]at a;simp only[sb,BQ]at a;by_cases c:k+i<8*b.length
   ·rw[bf U,pK,show k+i-k=i by omega];cases hm:mask.testBit i with
    |true=>rw[an ⟨rfl,c⟩,MP (by rw[pg];exact c),a,bf rfl]
    |false=>rw[ai (by simp),a,BQ]
   ·rw[bd U,ai U,a];simp
  ·have hd:decide (k<=q/\q<k+(i+1)/\q<8*b.length)=decide (k<=q/\q<k+i/\q<8*b.length):=by apply Bf.2;omega
   rw[hd,<-a];split
   ·rename_i h;rw[MP (by rw[pg];exact h.2),bd d,BQ]
   ·rfl
theorem zu(n m:Nat):BitVec.ofInt n (m:Int)=BitVec.ofNat n m:=by apply BitVec.eq_of_toNat_eq;simp
theorem Yq(x y:UInt8):bits .xor .u8 (x.toNat:Int) (y.toNat:Int)=((x^^^y).toNat:Int):=by
 have hx:=x.toNat_lt;have hy:=y.toNat_lt;have:(BitVec.ofInt 8 (x.toNat:Int)^^^BitVec.ofInt 8 (y.toNat:Int)).toNat=(x^^^y).toNat:=by rw[D1,zu,zu,zg,zg,UInt8.toNat_xor,uB hx,uB hy]
 show IntKind.u8.wrap ((BitVec.ofInt 8 (x.toNat:Int)^^^BitVec.ofInt 8 (y.toNat:Int)).toNat:Nat)=_;rw[this];exact BR U (by have:=(x^^^y).toNat_lt;omega)
theorem PO{z:Int}{m:Nat}(a:z=(m:Int))(b:m<8):IntKind.u8.wrap (1*2^(min z.toNat IntKind.u8.bits))=((UInt8.ofNat (2^m)).toNat:Int):=by subst a;rw[dc,show min m IntKind.u8.bits=m from qf (show m<=8 by omega)];have:m=0\/m=1\/m=2\/m=3\/m=4\/m=5\/m=6\/m=7:=U;rcases this with rfl|rfl|rfl|rfl|rfl|rfl|rfl|rfl<;>rfl
theorem Xx(k:IntKind)(a:k.bits=8\/k.bits=32)(b:∀z:Int,0<=z->z<=1->k.wrap z=z)(N:Nat):bits .and k (N:Int) 1=((N%2:Nat):Int):=by
 have:(BitVec.ofInt k.bits (N:Int)&&& BitVec.ofInt k.bits 1).toNat=N%2:=by rw[F5,zu,show(1:Int)=((1:Nat):Int)from rfl,zu,zg,zg];rcases a with a|a<;>rw[a]<;>simp only[Nat.reducePow,Nat.one_mod,Nat.reduceMod,Nat.and_one_is_mod]<;>omega
 show k.wrap ((BitVec.ofInt k.bits (N:Int)&&& BitVec.ofInt k.bits 1).toNat:Nat)=_;rw[this];exact b _ U U
theorem RL{N:Nat}(hi:i<=k){z:Int}(a:z=(i:Int)):Int.fdiv (N:Int) (2^(min z.toNat k))=((N>>>i:Nat):Int):=by subst a;rw[dc,qf hi,Nat.shiftRight_eq_div_pow,Gt _ (Int.pow_nonneg U)];simp
theorem WH(N i:Nat):((N>>>i)%2:Nat)=if N.testBit i=true then 1 else 0:=by
 rw[Nat.testBit_eq_decide_div_mod_eq,Nat.shiftRight_eq_div_pow];by_cases h:N/2^i%2=1
 ·rw[bf h,an rfl];exact h
 ·rw[bd h,ai (by simp)];omega
theorem Lo{N:Nat}(hi:i<=32){z:Int}(d:z=(i:Int)):bits .and .u32 (Int.fdiv (N:Int) (2^(min z.toNat IntKind.u32.bits))) 1=if N.testBit i=true then 1 else 0:=by have a:=RL (N:=N) (k:=32) hi d;have b:=Xx .u32 (.inr rfl) (λz c a=>wB c U) (N>>>i);rw[WH]at b;rw[show IntKind.u32.bits=32 from rfl,a,b];split<;>rfl
end
section
theorem Ue(a b:Nat):(a^^^b)/2=a/2^^^b/2:=by have:=@Nat.xor_div_two a b;exact this
theorem ZQ(a b:Nat):(a^^^b)%2=(a%2+b%2)%2:=by have h:=zI a b 0;simp only[Nat.testBit_zero]at h;rcases xS a with c|c<;>rcases xS b with d|d<;>rcases xS (a^^^b)with e|e<;>simp[c,d,e]at h⊢
theorem VF(a b:Nat):jK (a^^^b)=jK a^^^jK b:=by
 have f:=ZQ a b;have c:=Ue a b;unfold jK;rcases xS a with d|d<;>rcases xS b with e|e
 ·rw[ai U,ai U,ai U,c]
 ·rw[an U,ai U,an e,c,oa]
 ·rw[an U,an d,ai U,c,oa,oa,zc (b/2)]
 ·rw[ai U,an d,an e,c,oa,<-oa (3988292384) (b/2),zc 3988292384 (b/2),oa (b/2),yp,Nat.xor_zero]
theorem Fj(a b:Nat):∀k,gE k (a^^^b)=gE k a^^^gE k b
 |0=>rfl
 |k+1=>by show jK (gE k (a^^^b))=_;rw[Fj a b k,VF];rfl
theorem zj(x:Nat)(j:Nat):∀k,gE (j+k) x=gE k (gE j x)
 |0=>rfl
 |k+1=>by show jK (gE (j+k) x)=_;rw[zj x j k];rfl
theorem Qe(x:Nat):jK (2*x)=x:=by unfold jK;rw[ai U];omega
theorem DR(x:Nat):∀k,gE k (2^k*x)=x
 |0=>by simp[gE]
 |k+1=>by
  have:gE (1+k) (2^(k+1)*x)=x:=by
   rw[zj];have a:gE 1 (2^(k+1)*x)=2^k*x:=by show jK (2^(k+1)*x)=_;rw[show 2^(k+1)*x=2*(2^k*x)by rw[xM,pE (2^k) 2,Nat.mul_assoc],Qe]
   rw[a,DR x k]
  rwa[Ez]at this
theorem Ov{r:Nat}(h:r<2^32)(e:jK r=0):r=0:=by
 unfold jK at e;split at e
 ·have a:r/2=3988292384:=by have:=cn (·^^^3988292384) e;simp only[oa,yp,Nat.xor_zero,FI]at this;exact this
  omega
 ·omega
theorem IY{r:Nat}(h:r<2^32):∀k,gE k r=0->r=0
 |0,e=>e
 |k+1,e=>IY h k (Ov (zf h k) e)
def ey:List UInt8->Nat
 |[]=>0
 |c::l=>c.toNat+256*ey l
theorem Xo(c x:Nat)(h:c<256):c^^^(256*x)=c+256*x:=by
 apply Nat.eq_of_testBit_eq;intro i;rw[zI];have e:c+256*x=2^8*x+c:=U;rw[e,Nat.testBit_two_pow_mul_add x (show c<2^8 by omega),show 256*x=2^8*x by omega,Nat.testBit_two_pow_mul];by_cases hi:i<8
 ·rw[an hi,bd U];simp
 ·rw[ai hi,bf U,Nat.testBit_lt_two_pow (x:=c) (i:=i) (Nat.lt_of_lt_of_le h (by exact vY (n:=2) U (show 8<=i by omega)))];simp
theorem zS:∀(l:List UInt8) (r:Nat),l.foldl kD r=gE (8*l.length) (r^^^ey l)
 |[],r=>by simp[gE,ey]
 |c::l,r=>by
  rw[qa,zS l];unfold kD;rw[dL,show 8*(l.length+1)=8+8*l.length by omega,zj];congr 1;have a:ey (c::l)=c.toNat^^^256*ey l:=by rw[Xo _ _ c.toNat_lt];rfl
  rw[a,<-oa,Fj (r^^^c.toNat),show 256*ey l=2^8*ey l by omega,DR]
theorem F3:∀(l:List UInt8) (q:Nat),(ey l).testBit q=qT l q
 |[],q=>by simp[ey,qT]
 |c::l,q=>by
  show(c.toNat+256*ey l).testBit q=_;rw[show c.toNat+256*ey l=2^8*ey l+c.toNat by omega,Nat.testBit_two_pow_mul_add _ (show c.toNat<2^8 from c.toNat_lt)];by_cases a:q<8
  ·rw[an a];unfold qT;rw[show q/8=0 by omega,show q%8=q by omega];simp
  ·rw[ai a,F3 l];unfold qT;rw[show q/8=(q-8)/8+1 by omega,show(q-8)%8=q%8 by omega];simp
theorem Y2(s:Nat)(h:s<2^32):ey [UInt8.ofNat (s/2^(8*0)%256),UInt8.ofNat (s/2^(8*1)%256),UInt8.ofNat (s/2^(8*2)%256),UInt8.ofNat (s/2^(8*3)%256)]=s:=by simp only[ey,UInt8.toNat_ofNat'];omega
theorem LH(l:List UInt8):(dN l).foldl kD 4294967295=gE 32 4294967295:=by unfold dN;rw[js,zS (lY l)];have a:ey (lY l)=kP l:=Y2 _ (CX l);rw[a,Aa];unfold kP;rw[zc 4294967295,<-oa,yp,FI]
theorem OP{b:List UInt8}{mask:Nat}(v:k<8*b.length)(e:gL b≠none)(p:ib b k mask≠b):gL (ib b k mask)=none:=by
 cases h2:gL (ib b k mask)with
 |none=>rfl
 |some l2=>
  exfalso;obtain⟨t,e⟩:=Option.ne_none_iff_exists'.1 e;have g:=LH t;have h:=LH l2;rw[<-EV e,zS]at g;rw[<-EV h2,zS,pg]at h;have i:gE (8*b.length) (ey b^^^ey (ib b k mask))=0:=by
   have n:(4294967295^^^ey b)^^^(4294967295^^^ey (ib b k mask))=ey b^^^ey (ib b k mask):=by rw[zc 4294967295 (ey b),oa,<-oa 4294967295,yp,FI]
   rw[<-n,Fj,g,h,yp]
  have j:∀q,(ey b^^^ey (ib b k mask)).testBit q=(decide (k<=q/\q<k+32/\q<8*b.length)&&mask.testBit (q-k)):=λq=>by rw[zI,F3,F3,ME,<-Bool.xor_assoc,Bool.xor_self,Bool.false_xor]
  have hx:ey b^^^ey (ib b k mask)=2^k*((ey b^^^ey (ib b k mask))/2^k):=by
   apply Nat.eq_of_testBit_eq;intro q;rw[Nat.testBit_two_pow_mul,Nat.testBit_div_two_pow];by_cases f:k<=q
   ·rw[bf f,pK,show q-k+k=q by omega]
   ·rw[bd f,j,bd U];rfl
  have o:(ey b^^^ey (ib b k mask))/2^k<2^32:=by apply Nat.lt_pow_two_of_testBit;intro q f;rw[Nat.testBit_div_two_pow,j,bd U];rfl
  rw[hx,show 8*b.length=k+(8*b.length-k)by omega,zj,DR]at i;have l:=IY o _ i;rw[l,Nat.mul_zero]at hx;have m:ey b=ey (ib b k mask):=by have:=cn (·^^^ey (ib b k mask)) hx;simpa[oa]using this
  apply p;have s:∀(x y:List UInt8),x.length=y.length->ey x=ey y->x=y:=by
   intro x
   induction x with
   |nil=>intro y a _;cases y with
    |nil=>rfl
    |cons=>simp at a
   |cons c x ih=>
    intro y a r;cases y with
    |nil=>simp at a
    |cons d y=>have w:c.toNat+256*ey x=d.toNat+256*ey y:=r;have u:=c.toNat_lt;have hd:=d.toNat_lt;have:c=d:=zb.1 U;subst this;rw[ih y (by simpa using a) U]
  exact s _ _ (pg b k mask 32) m.symm
end
section
def Reads{α:Type}[ab α](h:aU)(v:Value)(xs:List α):Prop:=∀w:World,(∀n o,h n=some o->w.heap[n]?=some o)->Sl w v (ab.sz α) xs.length (cellsOf xs)
def cE(bs:List Bv):aa:=λh=>∀b∈bs,Reads h b.v b.l
theorem Sz{A:aa}{h:aU}(a:A h){w:World}(b:∀n o,h n=some o->w.heap[n]?=some o):aN w [A] (λ_=>none):=by
 refine⟨h,a,λn=>.inr rfl,λn o e=>b n o ?_⟩;unfold aU.add at e;cases hh:h n with
 |none=>rw[hh]at e;exact e
 |some x=>rw[hh]at e;exact e
theorem aK.reads[ab α]{xs:List α}{h:aU}(a:aK v t xs h):Reads h v xs:=λw b=>gr (L:=[aK v t xs]) 0 rfl w _ (Sz a b)
theorem Reads.left[ab α]{h k:aU}{xs:List α}(r:Reads h v xs):Reads (h.add k) v xs:=λw a=>r w λn o e=>a n o (by unfold aU.add;rw[e])
theorem Reads.right[ab α]{h k:aU}{xs:List α}(d:h.iN k)(r:Reads k v xs):Reads (h.add k) v xs:=λw a=>r w λn o e=>a n o (by
 unfold aU.add;rcases d n with h'|h'
 ·rw[h'];exact e
 ·rw[h']at e;cases e)
theorem aI.AF{b:Bv}(i:Nat)(hi:L[i]?=some (cE bs))(c:b∈bs):aI L b.v b.l:=λw F s=>by obtain⟨h,a,d,e⟩:=vW hi s;exact a b c w (ue e)
theorem cE.nil(L:List aa):Sub (cE []::L) L:=λw F s=>by
 refine⟨λ_=>none,λb a=>(by cases a),λn=>Or.inl rfl,?_⟩;have:aU.add (λ_=>none) F=F:=by funext n;rfl
 rw[this];exact s
theorem Tq{a b c:aU}(d:b.iN a):(a.add b).add c=b.add (a.add c):=by
 funext n;unfold aU.add;rcases d n with h|h
 ·rw[h];try(cases a n<;>rfl)
 ·rw[h];try(cases b n<;>rfl)
theorem cE.TN{A:aa}{b:Bv}(i:∀h,A h->Reads h b.v b.l)(L:List aa):Sub (cE (b::bs)::L) (A::cE bs::L):=λw F ⟨h,a,d,k,g,c,s⟩=>by
 rw[aU.lL]at c;refine⟨h.add k,λx hx=>?_,?_,?_⟩
 ·rcases gA.1 hx with rfl|hx
  ·exact(i h a).left
  ·exact(g x hx).right (vJ c.1)
 ·intro n;rcases d n with e|e
  ·rcases c.2 n with f|f
   ·left;unfold aU.add;rw[e];exact f
   ·exact .inr f
  ·exact .inr e
 ·rw[Tq c.1];exact s
theorem cE.add{b:Bv}{l:List UInt8}(d:b.v=v)(c:b.l=l)(L:List aa):Sub (cE (b::bs)::L) (aK v t l::cE bs::L):=by subst d;subst c;exact cE.TN (λh a=>a.reads) L
end
section
structure Fl where
 to:Int
 b:Bv
instance:ab Fl:=⟨2,λf=>[.int .i64 f.to,f.b.v],by decide,λ_=>rfl,λf=>by simp[f.b.one];rfl⟩
instance:hQ prog 47 Fl:=⟨⟨0,⟨.slice none 0 0,rfl,[]⟩⟩,by kernel_rfl,by kernel_rfl⟩
@[reducible] def Fl.key(f:Fl):Int×List UInt8:=(f.to,f.b.l)
@[reducible] def mP(g:Nat)(v:Value):aa:=ao g 197 [v]
@[reducible] def gD(g:Nat)(v:Value):aa:=ao g 39 [v]
@[reducible] def dH(v:Value)(fs:List Fl):aa:=aK v 47 fs
@[reducible] def By(v:Value)(b:List UInt8):aa:=aK v 5 b
def lF(fs:List Fl)(i:Int):Int×List UInt8×Int:=if h:0<=i/\i<fs.length then((fs[i.toNat]'U).to,(fs[i.toNat]'U).b.l,0)else(0,[],24)
def lf(fs:List Fl)(i:Int):List Fl:=if 0<=i/\i<fs.length then fs.take i.toNat++fs.drop (i.toNat+1)else fs
theorem xx{fs:List Fl}{i:Int}(h:0<=i/\i<fs.length):lF fs i=((fs[i.toNat]'U).to,(fs[i.toNat]'U).b.l,0):=by unfold lF;rw[BS h]
theorem yj{fs:List Fl}{i:Int}(h:¬(0<=i/\i<fs.length)):lF fs i=(0,[],24):=by unfold lF;rw[dif_neg h]
theorem ID{fs:List Fl}{i:Int}(h:0<=i/\i<fs.length):lf fs i=fs.take i.toNat++fs.drop (i.toNat+1):=by unfold lf;rw[an h]
theorem MD{fs:List Fl}{i:Int}(h:¬(0<=i/\i<fs.length)):lf fs i=fs:=by unfold lf;rw[ai h]
theorem Kf{fs:List Fl}{i:Int}{f:Fl}(h:f∈lf fs i):f∈fs:=by
 unfold lf at h;split at h
 ·rcases ct.1 h with h|h
  ·exact mM h
  ·exact py h
 ·exact h
set_option maxRecDepth 20000 attribute [local irreducible] Ex aM Fn bI bJ bV fin meet ch aX bZ aP aN aI Rd aK Row ao Sub bk bP bS bN bg bR Hid bY
section
theorem RO(L:List aa):Fn prog 56 #[] L λv L'=>∃g,v=.pointer (some ⟨g,0,none⟩)/\L'=mP g (.slice none 0 0)::dH (.slice none 0 0) []::L:=by refine fo func56 ntmps56 ?_;refine rn ?_;intros;refine fr ?_;exact⟨_,bl _ (cA none _ _),_,rfl,rfl⟩
theorem V5(g:Nat)(v0:Value)(fs:List Fl)(M:List aa):Fn prog 85 #[.pointer (some ⟨g,0,none⟩)] (mP g v0::dH v0 fs::M)
  λr L'=>r=.int .i64 fs.length/\L'=mP g v0::dH v0 fs::M:=by
 refine fo func85 ntmps85 ?_;exact bh
theorem T1(c:Nat)(e:Int)(v0 x:Value)(fs:List Fl)(xs:List UInt8)(bs:List Bv)(M:List aa)(hx:aI M x xs)(j:fs.length<=1000000000)(i:xs.length<=140737488355328)(k:O1 v0):Fn prog 107 #[.pointer (some ⟨c,0,none⟩),.int .i64 e,x] (mP c v0::dH v0 fs::cE bs::M)
  λr L'=>∃(f:Value) (b:Bv),O1 f/\b.l=xs/\L'=mP c f::dH f (fs++[⟨e,b⟩])::cE (b::bs)::M:=by
 refine fo func107 ntmps107 ?_;refine fh [1] rE ?_;refine bU 11 (_::_::M) rfl rQ rF ?_;refine mn ?_;(repeat(first|intro(g:Nat)|intro(v:Value)|intro h));refine bX J J J ?_;refine bc [] J call162 rE J (AD x xs _ rD i) ?_;rintro r _ ⟨d,rfl⟩;refine bn ?_;refine br rF ?_;refine mn ?_;(repeat(first|intro(g:Nat)|intro(v:Value)|intro h));refine xr (a:=(⟨e,⟨r,d,xs⟩⟩:Fl)) J J J J (λg=>?_);refine mn ?_;(repeat(first|intro(v:Value)|intro h));refine rn ?_;(repeat(first|intro(v:Value)|intro h));refine fr ?_;refine⟨_,?_,v,⟨r,d,xs⟩,by assumption,rfl,rfl⟩;refine cW [2,4] rE (ar ?_ (cE.add (b:=⟨r,d,xs⟩) rfl rfl _));exact cW [3,2] rE rB
theorem HT(c:Nat)(d:Int)(v0 x:Value)(fs:List Fl)(xs:List UInt8)(bs:List Bv)(M:List aa)(hx:aI M x xs)(f:fs.length<=1000000000)(i:xs.length<=140737488355328)(j:O1 v0):Fn prog 117 #[.pointer (some ⟨c,0,none⟩),.int .i64 d,x] (gD c v0::dH v0 fs::cE bs::M)
  λr L'=>∃(e:Value) (b:Bv),O1 e/\b.l=xs/\L'=gD c e::dH e (fs++[⟨d,b⟩])::cE (b::bs)::M:=by
 refine fo func117 ntmps117 ?_;refine fh [1] rE ?_;refine bU 12 (_::_::M) rfl rQ rF ?_;refine mn ?_;(repeat(first|intro(g:Nat)|intro(v:Value)|intro h))
 rename Value=>v1
 rename v1.oneCell'=true=>o1
 refine xr (a:=(⟨d,⟨v1,o1,xs⟩⟩:Fl)) J J J J (λg=>?_);refine mn ?_;(repeat(first|intro(v:Value)|intro h));refine rn ?_;(repeat(first|intro(v:Value)|intro h));refine fr ?_;refine⟨_,?_,v,⟨v1,o1,xs⟩,by assumption,rfl,rfl⟩;refine cW [2,4] rE (ar ?_ (cE.add (b:=⟨v1,o1,xs⟩) rfl rfl _));exact cW [3,2] rE rB
theorem Ks(a:Nat)(i:Int)(v0:Value)(fs:List Fl)(bs:List Bv)(M:List aa)(d:∀f∈fs,f.b∈bs)(e:∀f∈fs,f.b.l.length<=140737488355328):Fn prog 94 #[.pointer (some ⟨a,0,none⟩),.int .i64 i] (mP a v0::dH v0 fs::cE bs::M)
  λr L'=>∃u:Value,O1 u/\r=.tuple #[.agg [.int .i64 (lF fs i).1,u].toArray,.int .i64 (lF fs i).2.2]/\L'=By u (lF fs i).2.1::mP a v0::dH v0 fs::cE bs::M:=by
 refine fo func94 ntmps94 ?_;by_cases h:0<=i/\i<fs.length
 ·rw[xx h];have c:fs[i.toNat]'U∈fs:=bT _;have k:aI [cE bs] (fs[i.toNat]'U).b.v (fs[i.toNat]'U).b.l:=aI.AF 0 rfl (d _ c);have g:=e _ c;refine rn ?_;intros;refine wk ?_;intros;refine ma [] call162 (AD _ _ _ (k.sub rB) g) ?_;rintro r _ ⟨j,rfl⟩;refine mw ?_;intros;refine rn ?_;intros;refine fr ?_;exact⟨_,rB,r,j,rfl,rfl⟩
 ·rw[yj h];by_cases l:i<0
  ·refine rn ?_;intros;refine fr ?_;exact⟨_,ar (cA none _ _) rB,.slice none 0 0,rfl,rfl,rfl⟩
  ·refine rn ?_;intros;refine fr ?_;exact⟨_,ar (cA none _ _) rB,.slice none 0 0,rfl,rfl,rfl⟩
theorem Kl(a:Nat)(i:Int)(v0:Value)(fs:List Fl)(bs:List Bv)(M:List aa)(c:∀f∈fs,f.b∈bs):Fn prog 112 #[.pointer (some ⟨a,0,none⟩),.int .i64 i] (gD a v0::dH v0 fs::cE bs::M)
  λr L'=>∃u:Value,O1 u/\aI [cE bs] u (lF fs i).2.1/\r=.tuple #[.agg [.int .i64 (lF fs i).1,u].toArray,.int .i64 (lF fs i).2.2]/\L'=gD a v0::dH v0 fs::cE bs::M:=by
 refine fo func112 ntmps112 ?_;by_cases h:0<=i/\i<fs.length
 ·rw[xx h];have d:fs[i.toNat]'U∈fs:=bT _;have e:aI [cE bs] (fs[i.toNat]'U).b.v (fs[i.toNat]'U).b.l:=aI.AF 0 rfl (c _ d);refine rn ?_;intros;refine fr ?_;exact⟨_,rB,_,(fs[i.toNat]'U).b.one,e,rfl,rfl⟩
 ·rw[yj h];by_cases g:i<0
  ·refine rn ?_;intros;refine fr ?_;exact⟨_,rB,.slice none 0 0,rfl,mC _,rfl,rfl⟩
  ·refine rn ?_;intros;refine fr ?_;exact⟨_,rB,.slice none 0 0,rfl,mC _,rfl,rfl⟩
theorem Vp(v0:Value)(xs:List Fl)(i j:Nat)(M:List aa)(g:i<=j)(k:j<=xs.length)(e:xs.length<=1000000000)(b:O1 v0):Fn prog 161 #[v0,.int .i64 i,.int .i64 j] (dH v0 xs::M)
  λr L'=>O1 r/\L'=dH r (xs.take i++xs.drop j)::M:=by
 refine fo func161 ntmps161 ?_;by_cases h:i=j
 ·subst h;refine rn ?_;(repeat(first|intro(zs:List _)|intro h));refine fr ?_;exact⟨_,rB,b,by rw[mi]⟩
 ·refine Ex.xH (gr (xs:=xs) 0 rfl).wv ?_;intro f;refine rn ?_;(repeat(first|intro(zs:List _)|intro h));refine bU 7 M rfl rQ rF ?_;refine mn ?_;(repeat(first|intro(zs:List _)|intro h));refine rn ?_;(repeat(first|intro(zs:List _)|intro h));refine fr ?_;refine⟨_,?_,jB b,rfl⟩;have c:∀zs:List Fl,((xs.take i++xs.drop j++xs.drop (i+(xs.length-j))).take (i+(xs.length-j))++zs).take (i+(xs.length-j))=xs.take i++xs.drop j:=λzs=>by
   have d:(xs.take i++xs.drop j).length=i+(xs.length-j):=by simp;omega
   rw[<-d,jL,jL]
  have a:=xD (α:=Fl) (L:=dH v0 ((xs.take i++xs.drop j++xs.drop (i+(xs.length-j))).take (i+(xs.length-j))++List.replicate ((xs.take i++xs.drop j++xs.drop (i+(xs.length-j))).length-(i+(xs.length-j))) (hQ.z 47))::M) 0 rfl (h:=i+(xs.length-j)) (by simp;omega) (sz:=2) rfl;rw[c]at a;exact a
theorem Ss(a:Nat)(i:Int)(v0:Value)(fs:List Fl)(bs:List Bv)(M:List aa)(e:∀f∈fs,f.b∈bs)(g:∀f∈fs,f.b.l.length<=140737488355328)(d:fs.length<=1000000000)(c:O1 v0):Fn prog 93 #[.pointer (some ⟨a,0,none⟩),.int .i64 i] (mP a v0::dH v0 fs::cE bs::M)
  λr L'=>∃u b:Value,O1 u/\O1 b/\r=.tuple #[.agg [.int .i64 (lF fs i).1,u].toArray,.int .i64 (lF fs i).2.2]/\L'=By u (lF fs i).2.1::mP a b::dH b (lf fs i)::cE bs::M:=by
 refine fo func93 ntmps93 ?_;refine rn ?_;intros;refine ca [3,3,3] call94 (Ks a i v0 fs bs _ e g) ?_;rintro _ _ ⟨u,k,rfl,rfl⟩;by_cases h:0<=i/\i<fs.length
 ·rw[xx h,ID h];obtain⟨n,rfl⟩:=jF h.1;refine rn ?_;intros;refine ca [3] call161 (Vp v0 fs n (n+1) _ U U d c) ?_;rintro l _ ⟨j,rfl⟩;refine rn ?_;intros;refine fr ?_;exact⟨_,ar rB (iT [2,4,4,5] _),u,l,k,j,rfl,rfl⟩
 ·rw[yj h,MD h];refine rn ?_;intros;refine fr ?_;exact⟨_,ar (cA none _ _) rB,.slice none 0 0,v0,rfl,c,rfl,rfl⟩
theorem Pm(a:Nat)(i:Int)(v0:Value)(fs:List Fl)(bs:List Bv)(M:List aa)(e:∀f∈fs,f.b∈bs)(j:fs.length<=1000000000)(g:O1 v0):Fn prog 114 #[.pointer (some ⟨a,0,none⟩),.int .i64 i] (gD a v0::dH v0 fs::cE bs::M)
  λr L'=>∃u c:Value,O1 u/\O1 c/\aI [cE bs] u (lF fs i).2.1/\r=.tuple #[.agg [.int .i64 (lF fs i).1,u].toArray,.int .i64 (lF fs i).2.2]/\L'=gD a c::dH c (lf fs i)::cE bs::M:=by
 refine fo func114 ntmps114 ?_;refine rn ?_;(repeat(first|intro(v:Value)|intro h));refine ca [3,3,3] call112 (Kl a i v0 fs bs _ e) ?_;rintro _ _ ⟨u,d,b,rfl,rfl⟩;by_cases h:0<=i/\i<fs.length
 ·rw[xx h]at b⊢
  rw[ID h];obtain⟨n,rfl⟩:=jF h.1;refine rn ?_;(repeat(first|intro(v:Value)|intro h));refine pj ?_;(repeat(first|intro(v:Value)|intro h));refine rn ?_;(repeat(first|intro(v:Value)|intro h));refine fr ?_;rw[show(n:Int).toNat+1=((n:Int)+1).toNat by omega];exact⟨_,cW [2] rE rB,u,v,d,by assumption,b,rfl,rfl⟩
 ·rw[yj h]at b⊢
  rw[MD h];refine rn ?_;intros;refine fr ?_;exact⟨_,rB,u,v0,d,g,b,rfl,rfl⟩
end
section
theorem LC{b:List UInt8}{k mask i:Nat}(h:8*b.length<=k+i):∀j,ij b k mask (i+j)=ij b k mask i
 |0=>rfl
 |j+1=>by show ij b k mask ((i+j)+1)=_;simp only[ij];rw[ai U,LC h j]
theorem Nh{b:List UInt8}{mask:Nat}(h:mask.testBit i=true)(a:k+i<8*b.length):ij b k mask (i+1)=rv (ij b k mask i) (k+i):=by simp only[ij];rw[an ⟨h,a⟩]
theorem CU{b:List UInt8}{mask:Nat}(h:¬(mask.testBit i=true/\k+i<8*b.length)):ij b k mask (i+1)=ij b k mask i:=by simp only[ij];rw[ai h]
theorem Io(k mask:Nat):ib [] k mask=[]:=dZ (by rw[pg];rfl)
theorem Qd(x:UInt8):UInt8.ofNat ((x.toNat:Int)).toNat=x:=by simp
theorem I0{b:List UInt8}{p:Nat}(e:p<8*b.length){z:Int}{j:Nat}(d:j=p/8)(a:j<b.length)(c:z=((p%8:Nat):Int)):bits .xor .u8 ((b[j]'a).toNat:Int) (IntKind.u8.wrap (1*2^(min z.toNat IntKind.u8.bits)))=(((b[j]'a)^^^UInt8.ofNat (2^(p%8))).toNat:Int):=by rw[PO c U,Yq]
theorem HE{b:List UInt8}{p:Nat}{j:Nat}(c:j=p/8)(a:j<b.length):b.set j (UInt8.ofNat ((((b[j]'a)^^^UInt8.ofNat (2^(p%8))).toNat:Int)).toNat)=rv b p:=by subst c;rw[Qd,rv];congr 2;simp[cu,a]
theorem NA{n:Int}(b:0<n)(a:(k:Int)=r%n):r.tmod n=k\/(r.tmod n=k-n/\(k:Int)-n<0):=by
 have c:=yL r b;rw[Int.tmod_eq_emod,<-a];split
 ·left;omega
 ·right;omega
theorem Tj(x:Value)(b:List UInt8)(e:Int)(k mask:Nat)(L:List aa)(M:aI L x b)(A:b.length<=1000000)(I:mask<4294967296)(g:cD e)(a:b.length≠0->(k:Int)=e%(8*b.length)):
  Fn prog 95 #[x,.int .i64 e,.int .u32 mask] L λr L'=>O1 r/\L'=By r (ib b k mask)::L:=by
 unfold cD at g;refine fo func95 ntmps95 ?_;by_cases o:b.length=0
 ·obtain rfl:=dZ o;rw[Io];refine rn ?_;intros;refine fr ?_;exact⟨_,cA none _ _,rfl,rfl⟩
 have a:=a o;have n:(0:Int)<8*b.length:=U;have F:(k:Int)<8*b.length:=by rw[a];exact yL _ n
 have d:=NA n a;clear a g;rcases d with d|⟨d,H⟩
 all_goals
  refine rn ?_;intros;rw[d];refine rn ?_;intros
  try rw[show(k:Int)-8*b.length+8*b.length=k by omega]
  refine bc [] J call162 rE J (AD x b _ rD U) ?_;rintro u _ ⟨q,rfl⟩;refine rn ?_;intros;refine bm [10] (λm vs L'=>∃(i:Nat),i<=32/\m=32-i/\vs=[.int .i64 i]/\L'=By u (ij b k mask i)::L) 32 ⟨0,U,rfl,rfl,rfl⟩ ?_;rintro m vs w L' ⟨i,hi,rfl,rfl,rfl⟩;have C:=pg b k mask i;by_cases v:i<32/\k+i<8*b.length
  ·obtain⟨f,s⟩:=v;have l:=Lo (N:=mask) (i:=i) (z:=(i:Int)) U rfl;by_cases c:mask.testBit i=true
   ·rw[an c]at l;refine rn ?_;intros;refine tR ?_;intros;rw[I0 (b:=ij b k mask i) (p:=k+i) U (z:=((k:Int)+i)%8) (j:=(k+i)/8) rfl U U];have y:=UInt8.toNat_lt ((ij b k mask i)[(k+i)/8]'U^^^UInt8.ofNat (2^((k+i)%8)));refine rn ?_;intros;exact aS ⟨32-(i+1),_,U,rB,i+1,U,rfl,av (aQ U) rfl,by rw[Nh c s,<-HE rfl U];rfl⟩
   ·rw[ai c]at l;refine rn ?_;intros;exact aS ⟨32-(i+1),_,U,rB,i+1,U,rfl,av (aQ U) rfl,by rw[CU (λh=>c h.1)]⟩
  ·have t:ij b k mask i=ib b k mask:=by
    by_cases f:i=32
    ·rw[f]
    ·have:=LC (b:=b) (k:=k) (mask:=mask) (i:=i) U (32-i);rw[show i+(32-i)=32 by omega]at this;exact this.symm
   rw[<-t];by_cases f:i<32
   ·refine rn ?_;intros;refine fr ?_;exact⟨_,rB,q,rfl⟩
   ·refine rn ?_;intros;refine fr ?_;exact⟨_,rB,q,rfl⟩
theorem HD(x:Value)(b:List UInt8)(e:Int)(k mask:Nat)(L:List aa)(H:aI L x b)(y:b.length<=1000000)(F:mask<4294967296)(g:cD e)(a:b.length≠0->(k:Int)=e%(8*b.length)):
  Fn prog 14 #[x,.int .i64 e,.int .u32 mask] L λr L'=>O1 r/\L'=By r (ib b k mask)::L:=by
 unfold cD at g;refine fo func14 ntmps14 ?_;by_cases q:b.length=0
 ·obtain rfl:=dZ q;rw[Io];exact yl
 have a:=a q;have o:(0:Int)<8*b.length:=U;have l:(k:Int)<8*b.length:=by rw[a];exact yL _ o
 have d:=NA o a;clear a g;rcases d with d|⟨d,C⟩
 all_goals
  refine rn ?_;intros;rw[d]
  first
   |rw[show((k:Int)+8*b.length)%(8*b.length)=k by rw[Int.add_emod_right];exact Int.emod_eq_of_lt U l]
   |rw[show((k:Int)-8*b.length+8*b.length)%(8*b.length)=k by rw[Int.sub_add_cancel];exact Int.emod_eq_of_lt U l]
  rename Value=>u
  rename u.oneCell'=true=>ou
  refine bm [10] (λm vs L'=>∃(i:Nat),i<=32/\m=32-i/\vs=[.int .i64 i]/\L'=By u (ij b k mask i)::L) 32 ⟨0,U,rfl,rfl,rfl⟩ ?_;rintro m vs s L' ⟨i,hi,rfl,rfl,rfl⟩;refine bp [2,7,8,9,10] rG (λt=>?_);have A:=pg b k mask i;by_cases v:i<32
  ·have n:=Lo (N:=mask) (i:=i) (z:=(i:Int)) U rfl;by_cases c:mask.testBit i=true
   ·rw[an c]at n;by_cases f:k+i<8*b.length
    ·refine rn ?_;intros;refine uN ?_;intros;rw[I0 (b:=ij b k mask i) (p:=k+i) U (z:=((k:Int)+i)%8) (j:=(k+i)/8) rfl U U];have w:=UInt8.toNat_lt ((ij b k mask i)[(k+i)/8]'U^^^UInt8.ofNat (2^((k+i)%8)));refine rn ?_;intros;exact aS ⟨32-(i+1),_,U,rB,i+1,U,rfl,av (aQ U) rfl,by rw[Nh c f,<-HE rfl U];rfl⟩
    ·refine rn ?_;intros;exact aS ⟨32-(i+1),_,U,rB,i+1,U,rfl,av (aQ U) rfl,by rw[CU (λh=>f h.2)]⟩
   ·rw[ai c]at n;refine rn ?_;intros;exact aS ⟨32-(i+1),_,U,rB,i+1,U,rfl,av (aQ U) rfl,by rw[CU (λh=>c h.1)]⟩
  ·obtain rfl:i=32:=U;refine rn ?_;intros;refine fr ?_;exact⟨_,rB,ou,rfl⟩
end
end
end Go.Proofs.YtogcfijlhpaeeaaGreat
