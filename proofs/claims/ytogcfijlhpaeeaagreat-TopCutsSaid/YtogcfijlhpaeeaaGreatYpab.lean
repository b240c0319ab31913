/- Texts. No condition. -/
import Derived.ChangeKeysEq
import Derived.ChangeOld
import Derived.Deep.CondSized
import Derived.Defers
import Derived.JoinedCond
import Derived.Laws.MakeOwn
import Derived.Laws.StructEq
import Derived.Lib.SmallJoins
import Derived.OpenShut
import Derived.ProofKit
import Derived.SizedLaws
import Derived.Test.YtogcfijlhpaeeaaGreatYpaa
open Go.RowKit
set_option linter.all false
set_option maxHeartbeats 32000000
namespace Go.Proofs.YtogcfijlhpaeeaaGreat
variable{k g sz:Nat}{b a j m h:Int}{e xt bt:TypeId}{z:Operand}{M L' L1:List aa}{u:Value}{zs us fs:List Value}{G' p:Prop}{k':IntKind}{fn kf:FuncId}{R:Value->List aa->Prop}{A0 A1 A2 A3 A4 A5:aa}{up:Bool}{ts:Array TypeId}{ae:String}{ak:List Operand}
section
inductive gY where
 |b
 |i(k:IntKind)
 |s
def gY.ok:gY->Value->Bool
 | .b,.bool _=>true
 | .i k,.int k' _=>decide (k=k')
 | .s,.string _=>true
 |_,_=>false
def fY:List gY->List Value->Bool
 |[],[]=>true
 |l::ls,v::vs=>l.ok v&&fY ls vs
 |_,_=>false
def xV(g:TypeId->Option (List gY)):List Field->Nat->Option (List gY)
 |[],_=>some []
 |f::fs,o=>if f.offset=o/\f.name≠ "_" then(g f.type).bind λl=>(xV g fs (o+l.length)).map (l++·)else none
def leaves(P:Program):Nat->TypeId->Option (List gY)
 |0,_=>none
 |d+1,t=>((match P.underlying t with
  |some .bool=>some [.b]
  |some (.int k)=>some [.i k]
  |some .string=>some [.s]
  |some (.struct fs)=>if P.stoodInHeld t=true then none else xV (leaves P d) fs.toList 0
  |some (.array n e)=>(leaves P d e).map λl=>(List.replicate n l).flatten
  |_=>none):Option (List gY)).bind λl=>if l.length=P.cellsOf t/\0<l.length then some l else none
theorem uv:∀{a:List gY} {vs:List Value},fY a vs=true->vs.length=a.length
 |[],[],_=>rfl
 |_::_,_::_,h=>by simp[fY]at h;simp[uv h.2]
 |[],_::_,h=>by simp[fY]at h
 |_::_,[],h=>by simp[fY]at h
theorem yE:∀{a b:List gY} {vs:List Value},fY (a++b) vs=true->fY a (vs.take a.length)=true/\fY b (vs.drop a.length)=true
 |[],b,vs,h=>by simpa[fY]using h
 |l::a,b,v::vs,h=>by
  simp[fY]at h;obtain⟨c,d⟩:=yE h.2;simp[fY,h.1,c,d]
 |_::_,_,[],h=>by simp[fY]at h
section
variable{P:Program}
theorem zG{d:Nat}{t:TypeId}{l:List gY}(h:leaves P d t=some l):l.length=P.cellsOf t/\0<l.length/\(cR P t=some true\/(cR P t=some false/\l.length=1)):=by
 cases d with
 |zero=>simp[leaves]at h
 |succ d=>
  simp only[leaves,Fp]at h;obtain⟨e,a,b⟩:=h;split at b
  ·cases b;rename_i c;refine⟨c.1,c.2,?_⟩;unfold cR;cases hu:P.underlying t with
   |none=>rw[hu]at a;cases a
   |some k=>rw[hu]at a;cases k<;>simp at a⊢<;>subst a<;>rfl
  ·cases b
def yV(P:Program)(e:TypeId)(a:Value)(cs:List Value):Prop:=(cR P e=some true/\a=.agg cs.toArray)\/(cR P e=some false/\cs=[a])
theorem Cb{d:Nat}{l:List gY}(k:leaves P d e=some l){xs:Array Value}{off:Nat}(m:fY l ((xs.toList.drop off).take l.length)=true)(w:World):∃a,(part e xs off).run P w=.ok a w/\yV P e a ((xs.toList.drop off).take l.length):=by
 obtain⟨g,h,i⟩:=zG k;have c:=uv m;rcases i with b|⟨b,n⟩
 ·refine⟨.agg (xs.extract off (off+l.length)),?_,.inl ⟨b,?_⟩⟩
  ·simp[part,sM w b,gQ w g.symm h]
  ·congr 1;apply Array.ext';rw[Array.toList_extract];simp[List.extract]
 ·rw[n]at c⊢
  obtain⟨v,f⟩:∃v,(xs.toList.drop off).take 1=[v]:=by
   match hx:(xs.toList.drop off).take 1,c with
   |[v],_=>exact⟨v,rfl⟩
  have j:xs[off]?=some v:=by have:=cn (λl:List Value=>l[0]?) f;simp only[mz,tg]at this;simpa using this
  exact⟨v,by simp[part,sM w b,j],.inr ⟨b,f⟩⟩
def ES(P:Program)(dd:Nat)(e:TypeId)(l:List gY):Prop:=∀(w:World) (a b:Value) (xs ys:List Value),yV P e a xs->yV P e b ys->fY l xs=true->fY l ys=true->∃r:Bool,(Op.equalIn dd e a b).run P w=.ok r w/\(r=true↔xs=ys)
theorem Mf{xs:List Value}{m:Nat}:xs=zs↔xs.take m=zs.take m/\xs.drop m=zs.drop m:=
 ⟨λh=>by rw[h];exact⟨rfl,rfl⟩,λ⟨a,b⟩=>by rw[<-mi m xs,a,b,mi]⟩
theorem K2{d dd:Nat}(k:∀t l,leaves P d t=some l->ES P dd t l)(c e:Array Value)(w:World):∀(fs:List Field) (o:Nat) (l:List gY),xV (leaves P d) fs o=some l->fY l (c.toList.drop o)=true->fY l (e.toList.drop o)=true->
  ∃r:Bool,(Op.eqFields dd c e fs).run P w=.ok r w/\(r=true↔c.toList.drop o=e.toList.drop o)
 |[],o,l,h,h1,h2=>by
  simp[xV]at h;subst h;have z:=dZ (uv h1);have A:=dZ (uv h2);exact⟨true,by simp[Op.eqFields],by rw[z,A];simp⟩
 |f::fs,o,l,h,h1,h2=>by
  simp only[xV]at h;split at h
  ·rename_i H;obtain⟨Q,u⟩:=H;simp only[Fp,Option.map_eq_some_iff]at h;obtain⟨V,g,S,M,rfl⟩:=h;obtain⟨n,p⟩:=yE h1;obtain⟨q,s⟩:=yE h2;obtain⟨a,i,C⟩:=Cb g (xs:=c) (off:=o) n w;obtain⟨b,j,F⟩:=Cb g (xs:=e) (off:=o) q w;obtain⟨r,v,I⟩:=k _ _ g w a b _ _ C F n q;rw[mO]at p s;obtain⟨y,R,L⟩:=K2 k c e w fs _ S M p s;rw[<-Q]at i j;have x:(c.toList.drop o=e.toList.drop o)↔(r=true/\y=true):=by rw[Mf (m:=V.length),I,L,mO,mO]
   cases r
   ·exact⟨false,by simp only[Op.eqFields,u,ne_eq,not_false_eq_true,jn,fe,i,j,v,fE,ui,fT],by rw[x];simp⟩
   ·exact⟨y,by simpa only[Op.eqFields,u,ne_eq,not_false_eq_true,jn,fe,i,j,v,fE,yv,od,oz]using R,by rw[x];simp⟩
  ·cases h
theorem Il{d dd:Nat}{e:TypeId}{le:List gY}(g:leaves P d e=some le)(j:ES P dd e le)(c f:Array Value)(w:World):∀(m k:Nat),fY (List.replicate m le).flatten (c.toList.drop (k*le.length))=true->fY (List.replicate m le).flatten (f.toList.drop (k*le.length))=true->
  ∃r:Bool,(Op.eqItems dd e (P.cellsOf e) c f (List.range' k m)).run P w=.ok r w/\(r=true↔c.toList.drop (k*le.length)=f.toList.drop (k*le.length))
 |0,k,h1,h2=>by
  have v:=dZ (uv h1);have x:=dZ (uv h2);exact⟨true,by simp[Op.eqItems],by rw[v,x];simp⟩
 |m+1,k,h1,h2=>by
  rw[CT,List.flatten_cons]at h1 h2;obtain⟨l,n⟩:=yE h1;obtain⟨o,p⟩:=yE h2;obtain⟨a,h,y⟩:=Cb g (xs:=c) (off:=k*le.length) l w;obtain⟨b,i,z⟩:=Cb g (xs:=f) (off:=k*le.length) o w;obtain⟨r,s,A⟩:=j w a b _ _ y z l o;have q:k*le.length+le.length=(k+1)*le.length:=by rw[jr];omega
  rw[mO,q]at n p;obtain⟨u,F,C⟩:=Il g j c f w m (k+1) n p;rw[(zG g).1]at h i;have t:(c.toList.drop (k*le.length)=f.toList.drop (k*le.length))↔(r=true/\u=true):=by rw[Mf (m:=le.length),A,C,mO,mO,q]
  rw[List.range'_succ];cases r
  ·exact⟨false,by simp only[Op.eqItems,fe,h,i,s,fE,ui,jn,fT],by rw[t];simp⟩
  ·exact⟨u,by simpa only[Op.eqItems,fe,h,i,s,fE,yv,od,oz]using F,by rw[t];simp⟩
theorem Gm(j:Nat):∀(d:Nat) (t:TypeId) (l:List gY),leaves P d t=some l->ES P (j+d) t l
 |0,_,_,h=>by simp[leaves]at h
 |d+1,t,l,h=>by
  intro w a b xs ys m o f g;have M:=h;simp only[leaves,Fp]at h;obtain⟨Q,c,y⟩:=h;split at y
  case isFalse=>cases y
  cases y;have s:∀v cs,yV P t v cs->cR P t=some true->v=.agg cs.toArray:=λv cs F C=>by
   rcases F with⟨_,h⟩|⟨h,_⟩
   ·exact h
   ·rw[C]at h;cases h
  have one:∀v cs,yV P t v cs->cR P t=some false->cs=[v]:=λv cs F C=>by
   rcases F with⟨h,_⟩|⟨_,h⟩
   ·rw[C]at h;cases h
   ·exact h
  cases hu:P.underlying t with
  |none=>rw[hu]at c;cases c
  |some k=>
   rw[hu]at c;cases k<;>simp only[reduceCtorEq,iE]at c
   case bool=>
    subst c;obtain rfl:=one a xs m (by simp[cR,hu]);obtain rfl:=one b ys o (by simp[cR,hu]);cases a<;>simp[fY,gY.ok]at f;cases b<;>simp[fY,gY.ok]at g;exact⟨_,run_equalIn_bool' w (j+d) t _ _ hu,by simp⟩
   case int q=>
    subst c;obtain rfl:=one a xs m (by simp[cR,hu]);obtain rfl:=one b ys o (by simp[cR,hu]);cases a<;>simp[fY,gY.ok]at f;cases b<;>simp[fY,gY.ok]at g;subst f;subst g;exact⟨_,run_equalIn_int w (j+d) t _ _ _ _ hu,by simp⟩
   case string=>
    subst c;obtain rfl:=one a xs m (by simp[cR,hu]);obtain rfl:=one b ys o (by simp[cR,hu]);cases a<;>simp[fY,gY.ok]at f;cases b<;>simp[fY,gY.ok]at g;exact⟨_,run_equalIn_string w (j+d) t _ _ hu,by simp[ByteArray.toList_eq,ByteArray.ext_iff]⟩
   case struct fs=>
    split at c
    ·cases c
    ·rename_i L;have p:cR P t=some true:=by simp[cR,hu]
     obtain rfl:=s a xs m p;obtain rfl:=s b ys o p;have H:P.fieldsOf t=fs:=by simp[Program.fieldsOf,hu]
     obtain⟨r,A,z⟩:=K2 (λt l h=>Gm j d t l h) xs.toArray ys.toArray w fs.toList 0 l c (by simpa using f) (by simpa using g);refine⟨r,?_,by simpa using z⟩;rw[show j+(d+1)=(j+d)+1 from rfl,run_equalIn_struct w (j+d) t _ _ (by rw[H];exact hu) (by simpa using L),H];exact A
   case array n e=>
    simp only[Option.map_eq_some_iff]at c;obtain⟨le,u,rfl⟩:=c;have p:cR P t=some true:=by simp[cR,hu]
    obtain rfl:=s a xs m p;obtain rfl:=s b ys o p;have I:∃i,P.info? e=some i:=by
     have:=(zG u).1;have x:=(zG u).2.1;rw[this]at x;unfold Program.cellsOf at x;cases hi:P.info? e with
     |none=>rw[hi]at x;simp at x
     |some i=>exact⟨i,rfl⟩
    obtain⟨i,hi⟩:=I;obtain⟨r,A,z⟩:=Il u (Gm j d e le u) xs.toArray ys.toArray w n 0 (by simpa using f) (by simpa using g);refine⟨r,?_,by simpa using z⟩;rw[show j+(d+1)=(j+d)+1 from rfl,run_equalIn_array w (j+d) _ _ hu hi,List.range_eq_range'];exact A
class pV(P:outParam Program)(t:TypeId)(α:outParam Type)[ab α] where
 depth:Nat
 ls:List gY
 small:Nat.ble depth 10000=true
 leaves:leaves P depth t=some ls
 agg:cR P t=some true
 guard:P.eqGuardType P.depth t=false
 ok:∀a:α,fY ls (ab.cells a)=true
 inj:∀a b:α,ab.cells a=ab.cells b->a=b
section
variable{α:Type}[ab α]{t:TypeId}[E:pV P t α]
theorem Bc[DecidableEq α](a b:α)(w:World):(Op.equal t (.agg (ab.cells a).toArray) (.agg (ab.cells b).toArray)).run P w=.ok (decide (a=b)) w:=by
 have e:=cT E.small;obtain⟨r,d,c⟩:=Gm (P:=P) (10000-E.depth) E.depth t E.ls E.leaves w _ _ _ _ (.inl ⟨E.agg,rfl⟩) (.inl ⟨E.agg,rfl⟩) (E.ok a) (E.ok b);rw[show 10000-E.depth+E.depth=10000 by omega]at d;show(Op.equalIn 10000 t _ _).run P w=_;rw[d];congr 1;by_cases h:a=b
 ·subst h;simpa using c
 ·rw[bd h];cases r
  ·rfl
  ·exact absurd (E.inj _ _ (c.1 rfl)) h
variable{f:Nat->Value}{L:List aa}{d:Nat}{ty:TypeId}{pos:String}{af:Array Edge}{gd:Option (Nat×Bool)}{yt:TypeId}{x y:Operand}[DecidableEq α]
theorem Ey{a b:α}(hx:aH f x=.agg (ab.cells a).toArray)(hy:aH f y=.agg (ab.cells b).toArray):aP P ⟨some d,.binOp .eql t x y yt,ty,pos,af,gd⟩ f L (.bool (decide (a=b))):=
 pr hx hy (λw=>run_eqGuard_agg w .eql t x y _ _ E.guard) (λw=>by simp only[binOp,fe,Bc a b w,fE,fT])
theorem Da{a b:α}(hx:aH f x=.agg (ab.cells a).toArray)(hy:aH f y=.agg (ab.cells b).toArray):aP P ⟨some d,.binOp .neq t x y yt,ty,pos,af,gd⟩ f L (.bool (decide (a≠b))):=
 pr hx hy (λw=>run_eqGuard_agg w .neq t x y _ _ E.guard) (λw=>by simp only[binOp,fe,Bc a b w,fE,fT];congr 2;simp)
theorem zx{a b:α}(hx:aH f x=.agg (ab.cells a).toArray)(hy:aH f y=.agg (ab.cells b).toArray)(h:a=b):aP P ⟨some d,.binOp .eql t x y yt,ty,pos,af,gd⟩ f L (.bool true):=by rw[<-bf h];exact Ey hx hy
theorem Gu{a b:α}(hx:aH f x=.agg (ab.cells a).toArray)(hy:aH f y=.agg (ab.cells b).toArray)(h:a≠b):aP P ⟨some d,.binOp .eql t x y yt,ty,pos,af,gd⟩ f L (.bool false):=by rw[<-bd h];exact Ey hx hy
theorem xO{a b:α}(hx:aH f x=.agg (ab.cells a).toArray)(hy:aH f y=.agg (ab.cells b).toArray)(h:a≠b):aP P ⟨some d,.binOp .neq t x y yt,ty,pos,af,gd⟩ f L (.bool true):=by rw[<-bf h];exact Da hx hy
theorem nF{a b:α}(hx:aH f x=.agg (ab.cells a).toArray)(hy:aH f y=.agg (ab.cells b).toArray)(h:a=b):aP P ⟨some d,.binOp .neq t x y yt,ty,pos,af,gd⟩ f L (.bool false):=by rw[<-bd (show¬(a≠b)by simpa using h)];exact Da hx hy
end
end
end
section
def meet(I:List Value->List aa->Prop)(ss:List Nat)(Q:bx):bx
 | .normal,f,L=>∃L',Sub L' L/\I (ss.map f) L'
 |e,f,L=>Q e f L
section
variable{P:Program}{n:Nat}{Q:bx}{f:Nat->Value}{L:List aa}
end
section
variable{P:Program}{n:Nat}{ops:Array Oper}{Q:bx}{f:Nat->Value}{L:List aa}{o:Oper}{rest:List Oper}
theorem aM.Fz{j s:Nat}(e:o.guard=some (j,up))(i:(ops[j]?).bind (·.dst)=some s)(l:f s=undef)(hd:fv n o.dst=true)
  (h:aM P n ops rest Q (cg f o.dst undef) L):aM P n ops (o::rest) Q f L:=by
 intro D F w0 f0 ws a w H b;refine wpList_step λK c=>?_;have m:Region.wanted o (yielded ops a.tmps)=false:=by rw[H.2.1.yield];simp only[Region.wanted,e,oJ,i,l,undef];rfl
 rw[m];have g:=H.mW (gO w) H.2.2.1 hd (λt k=>b t (rh (t:=0) k)) undef;exact c _ _ (h D F w0 f0 ws _ _ g λd hd=>b d (qN hd))
theorem HW{kd:Nat->Nat}{Z:(Nat->Value)->List aa->Prop}{i:Nat}{l:List (Nat×Oper)}{j s:Nat}(a:o.guard=some (j,up))(b:(ops[j]?).bind (·.dst)=some s)(c:f s=undef)
  (h:aX P n ops kd M Z l (cg f o.dst undef) L):aX P n ops kd M Z ((i,o)::l) f L:=λ_=>by
 have d:fB ops f o=false:=by simp only[fB,Region.wanted,a,oJ,b,c,undef];rfl
 rw[d];exact h
end
def ch(L:List aa)(g:Nat)(cs:List Value):Prop:=∀w F,aN w L F->∀j v,cs[j]?=some v->w.cell? ⟨g,j,none⟩=some v
def yW(k:IntKind):List Value->Option (List Int)
 |[]=>some []
 | .int k' n::l=>match decide (k=k')with
  |true=>match yW k l with
   |some l'=>some (n::l')
   |none=>none
  |false=>some []
 |_=>some []
theorem Li{k:IntKind}:∀{l:List Value} {zs:List Int},yW k l=some zs->l.take zs.length=zs.map (.int k)
 |[],zs,h=>by simp[yW]at h;subst h;rfl
 |v::l,zs,h=>by
  cases v<;>simp only[yW,iE]at h<;>first|(subst h;rfl)|skip
  split at h
  ·rename_i a;split at h
   ·rename_i b;cases h;rw[<-rU a,dL,Dj,Li b];rfl
   ·cases h
  ·cases h;rfl
def wW:List Value->Option (List (List UInt8))
 |[]=>some []
 | .string s::l=>match wW l with
  |some l'=>some (s.data.toList::l')
  |none=>none
 |_=>some []
theorem IC:∀{l:List Value} {zs:List (List UInt8)},wW l=some zs->l.take zs.length=zs.map (λs=>.string (S s))
 |[],zs,h=>by simp[wW]at h;subst h;rfl
 |v::l,zs,h=>by
  cases v<;>simp only[wW,iE]at h<;>first|(subst h;rfl)|skip
  split at h
  ·rename_i a;cases h;rw[dL,Dj,IC a,kq,<-Ip]
  ·cases h
section
variable{P:Program}{n:Nat}{ops:Array Oper}{Q:bx}{f:Nat->Value}{L:List aa}{rest:List Oper}{d:Nat}{ty:TypeId}{pos:String}{af:Array Edge}{gd:Option (Nat×Bool)}
theorem Pk{t:TypeId}{x y:Operand}{o m o':Nat}{k:IntKind}(hx:aH f x=.pointer (some ⟨g,o,none⟩))(hy:aH f y=.int k j)(l:P.underlying t=some (.array m e))(i:P.cellsOf e=sz)(n:Nat.ble (o+j.toNat*sz) 1000000=true)(h:Nat.blt 0 sz=true)
  (a:0<=j)(b:j<(m:Int))(c:o+j.toNat*sz=o'):aP P ⟨some d,.indexAddr t x y,ty,pos,af,gd⟩ f L (.pointer (some ⟨g,o',none⟩)):=by
 rw[<-c];exact LY hx hy l i h a b
theorem Es{α:Type}{cs:List Value}{zs:List α}{o m j:Nat}{φ:α->Value}(a:α)(h:(cs.drop o).take m=zs.map φ)(b:j<zs.length):cs[o+j]?=some (φ (zs.getD j a)):=by refine Cd (m:=m) (o:=o) ?_;rw[h,kz];simp[List.getD,b]
theorem sJ(i:Nat){t:TypeId}{x:Operand}{o j:Nat}{cs:List Value}{k:IntKind}{zs:List Int}(hx:aH f x=.pointer (some ⟨g,o+j*1,none⟩))(hi:L[i]?=some (ao g bt cs))(b:P.underlying t=some (.int k))(c:yW k (cs.drop o)=some zs)
  (a:j<zs.length):aP P ⟨some d,.load t x,ty,pos,af,gd⟩ f L (.int k (zs.getD j 0)):=
 λF w s=>by have:=jz hi (Es (φ:=.int k) 0 (Li c) a) s;rw[qh]at hx;simp[execOp,hx,Instr.loadAt,Instr.sureAddr,ug w (t:=t) (show cR P t=some false by simp[cR,b]) this,cu]
theorem rl(i:Nat){t:TypeId}{x:Operand}{o j:Nat}{cs:List Value}{zs:List (List UInt8)}(hx:aH f x=.pointer (some ⟨g,o+j*1,none⟩))(hi:L[i]?=some (ao g bt cs))(b:P.underlying t=some .string)(c:wW (cs.drop o)=some zs)
  (a:j<zs.length):aP P ⟨some d,.load t x,ty,pos,af,gd⟩ f L (.string (S (zs.getD j []))):=
 λF w s=>by have:=jz hi (Es (φ:=λs=>.string (S s)) [] (IC c) a) s;rw[qh]at hx;simp[execOp,hx,Instr.loadAt,Instr.sureAddr,ug w (t:=t) (show cR P t=some false by simp[cR,b]) this,cu]
theorem Th{α:Type}[ab α]{v:Value}{xs:List α}{t:TypeId}{x:Operand}{i:Nat}{a:α}(hx:aH f x=fM v (i*sz+0))(b:cR P t=some true)(e:P.cellsOf t=sz)(g:aI L v xs)(c:xs[i]?=some a)(h:ab.sz α=sz):
  aP P ⟨some d,.load t x,ty,pos,af,gd⟩ f L (.agg (ab.cells a).toArray):=by
 obtain⟨hi,rfl⟩:=iA.1 c;exact MW hx b e g hi h
theorem Wc{α:Type}[ab α]{v:Value}{xs:List α}{t:TypeId}{x:Operand}{i o:Nat}{a:α}(hx:aH f x=fM v (i*sz+o))(b:cR P t=some false)(e:aI L v xs)(c:xs[i]?=some a)(g:ab.sz α=sz)(h:(ab.cells a)[o]?=some u):
  aP P ⟨some d,.load t x,ty,pos,af,gd⟩ f L u:=by
 obtain⟨hi,rfl⟩:=iA.1 c;exact Fe hx b e hi g h
theorem Qm{α:Type}[ab α]{v:Value}{xs:List α}{t:TypeId}{x:Operand}{m:Nat}(hx:aH f x=v)(g:aI L v xs)(h:P.underlying t=some (.array m e))(j:m<=xs.length)(b:Nat.blt 0 m=true):
  aP P ⟨some d,.sliceToArrayPointer t x,ty,pos,af,gd⟩ f L (fM v (0*ab.sz α+0)):=λF w s=>by
 have b:=cT b;obtain⟨a,c,rfl,_⟩:=vG (g w F s) (i:=0) U;simp[execOp,hx,Instr.arrayAt,cX h,fM,show¬xs.length<m by omega,Addr.add]
theorem Wq{α:Type}[ab α]{v:Value}{xs:List α}{t:TypeId}{x:Operand}{m:Nat}(hx:aH f x=fM v (0*sz+0))(y:P.underlying t=some (.array m e))(q:aI L v xs)(o:m<=xs.length)(g:Nat.blt 0 m=true)(k:ab.sz α=sz)(r:P.cellsOf t=m*sz):
  aP P ⟨some d,.load t x,ty,pos,af,gd⟩ f L (.agg (cellsOf (xs.take m)).toArray):=λF w s=>by
 have g:=cT g;obtain⟨a,c,rfl,n⟩:=vG (q w F s) (i:=0) U;have h:(cellsOf (xs.take m)).length=m*sz:=by rw[cN,k,dy,qf o]
 have p:0<m*sz:=yY g (by rw[<-k];exact ab.pos);have:=vC (P:=P) w (t:=t) (a:=a.add 0) (cs:=cellsOf (xs.take m)) (show cR P t=some true by simp[cR,y]) (by rw[r,h]) (by rw[h];exact p) (λj u b=>by
  rw[we,mL];refine n j u ?_;rw[<-rf,mz]at b;split at b
  ·exact b
  ·cases b)
 have l:(0*sz+0)=0:=U;rw[l]at hx;simp[execOp,hx,fM,Instr.loadAt,Instr.sureAddr,this]
theorem Xr{α:Type}[ab α](i:Nat)(xs:List α)(hi:L[i]?=some (ao g bt (cellsOf xs))){m:Nat}(c:xs.length=m)(a:Nat.ble m 1000000=true):aI L (.slice (some ⟨g,0,none⟩) m m) xs:=λw F s=>by subst c;have a:=cT a;refine⟨cN xs,_,_,rfl,bj _,by unfold maxLen;omega,(λh=>by cases h),λe b j u d=>?_⟩;cases b;rw[iY];simpa using jz (o:=j) hi d s
theorem Zc{t:TypeId}{x:Operand}{m:Nat}(hx:aH f x=.pointer (some ⟨g,0,none⟩))(h:P.underlying t=some (.array m e))(c:P.cellsOf e=sz)(b:Nat.blt 0 sz=true)(a:Nat.blt 0 m=true):
  aP P ⟨some d,.slice t x none none none,ty,pos,af,gd⟩ f L (.slice (some ⟨g,0,none⟩) m m):=λF w s=>by
 have a:=cT a;simp[execOp,hx,Instr.sliceAt,cX h,Instr.sureAddr,Instr.sliceBounds,gQ w c (cT b),show¬m=0 by omega,iY]
theorem Xd{α:Type}[ab α](z:α){t:TypeId}{x y:Operand}{k:IntKind}{by_:Nat}(hd:Nat.blt d n=true)(hx:aH f x=.int k m)(hy:aH f y=.int k' m)(S:P.underlying t=some (.slice e))(I:P.cellsOf e=sz)(M:ab.sz α=sz)(r:P.bytesOf e=by_)(i:Nat.blt 0 by_=true)
  (W:fI P e=some zs)(p:zs=ab.cells z)(g:0<=m)(hb:m*by_<=140737488355328)(h:∀v,v.oneCell'=true->aM P n ops rest Q (aZ f d v) (aK v e (List.replicate m.toNat z)::L)):
  aM P n ops (⟨some d,.makeSlice t x y,ty,pos,af,none⟩::rest) Q f L:=by
 subst M;have H:0<ab.sz α:=ab.pos;have i:=cT i;obtain⟨c,a,C,l,u,c7,o⟩:=AT I H r W;obtain⟨m,rfl⟩:=jF g;refine lr rfl hd (R:=λv L'=>v.oneCell'=true/\L'=aK v e (List.replicate m z)::L) (λF w s=>?_) (λv L' V=>by obtain⟨b,rfl⟩:=V;exact h v b);have c9:(m:Int)*1<=(m:Int)*by_:=Int.mul_le_mul_of_nonneg_left U U;have j:=run_make (P:=P) w t e c a S C c7 k k' m m g (eH _) (by rw[u,Int.mul_comm];omega) U;simp only[dc]at j;refine⟨.slice (some ⟨w.heap.size,0,none⟩) m m,w.alloc (.cells (madeCells a.cells (m*c.size)) e),_,.inl ?_,gO w,qx (A:=aK (.slice (some ⟨w.heap.size,0,none⟩) m m) e (List.replicate m z)) _ s ?_,rfl,rfl⟩
 ·simp[execOp,hx,hy,j]
 ·refine⟨cN _,.inr ⟨w.heap.size,m,_,by simp,rfl,by simp,by unfold maxLen;omega,by rw[size_madeCells,l],?_⟩⟩;rw[ju];have b:(madeCells a.cells (m*c.size)).toList=cellsOf (List.replicate m z):=by have q:=GB (α:=α) (zero:=a.cells) (z:=z) (by rw[o,<-p]) m;rw[<-q];simp only[madeCells,Builtin.zeroCells,l];rw[o];simp[p,ab.len]
  rw[b,ic (by rw[cN];simp)]
end
section
variable{P:Program}{f:Nat->Value}{L:List aa}{d:Nat}{ty:TypeId}{pos:String}{af:Array Edge}{gd:Option (Nat×Bool)}
end
section
variable{P:Program}{n:Nat}{ops:Array Oper}{Q:bx}{f:Nat->Value}{L:List aa}{rest:List Oper}{d:Nat}{ty:TypeId}{pos:String}{af:Array Edge}{gd:Option (Nat×Bool)}
theorem uP(i:Nat){t:TypeId}{x y:Operand}{o:Nat}{cs:List Value}{v:Value}(hx:aH f x=.pointer (some ⟨g,o,none⟩))(hi:L[i]?=some (ao g bt cs))(hy:aH f y=v)(b:v.oneCell'=true)(c:P.cellsOf t=1)(d:o<cs.length)
  (h:∀a,a=cs.set o v->aM P n ops rest Q f (L.set i (ao g bt a))):aM P n ops (⟨none,.store t x y,ty,pos,af,none⟩::rest) Q f L:=
 Gw i hx hy b hi c (tA d) rfl (h _ rfl)
end
class hQ(P:outParam Program)(e:TypeId)(α:outParam Type)[ab α] where
 z:α
 eq:fI P e=some (ab.cells z)
 size:P.cellsOf e=ab.sz α
section
variable{P:Program}{n:Nat}{ops:Array Oper}{Q:bx}{f:Nat->Value}{L:List aa}{rest:List Oper}{d:Nat}{ty:TypeId}{pos:String}{af:Array Edge}{gd:Option (Nat×Bool)}
variable{α:Type}[ab α]
theorem FC{t:TypeId}[Z:hQ P e α]{x y:Operand}{k:IntKind}{by_:Nat}(hd:Nat.blt d n=true)(hx:aH f x=.int k m)(hy:aH f y=.int k' m)(i:P.underlying t=some (.slice e))(g:P.bytesOf e=by_)(c:Nat.blt 0 by_=true)
  (a:0<=m)(b:m*by_<=140737488355328)(h:∀v,v.oneCell'=true->aM P n ops rest Q (aZ f d v) (aK v e (List.replicate m.toNat Z.z)::L)):
  aM P n ops (⟨some d,.makeSlice t x y,ty,pos,af,none⟩::rest) Q f L:=Xd Z.z hd hx hy i Z.size rfl g c Z.eq rfl a b h
theorem fQ(i:Nat){t:TypeId}{x y:Operand}{m:Nat}{cs:List Value}{a:α}(hx:aH f x=.pointer (some ⟨g,0,none⟩))(hi:L[i]?=some (ao g bt cs))(hy:aH f y=.agg (ab.cells a).toArray)(c:P.cellsOf t=m)(e:ab.sz α=m)(d:cs.length=m)
  (b:L.set i (ao g bt (ab.cells a))=L')(h:aM P n ops rest Q f L'):aM P n ops (⟨none,.store t x y,ty,pos,af,none⟩::rest) Q f L:=by
 subst e;exact fD i hx hi hy (ab.one a) (by rw[c,ab.len]) (by rw[ab.len];exact tA (show 0+1<=_ from ab.pos)) (by rw[ab.len,d];simp) b h
theorem pn{t:TypeId}[Z:hQ P e α]{y:Operand}{a:α}(hd:Nat.blt d n=true)(hy:aH f y=.agg (ab.cells a).toArray)(l:P.underlying t=some (.slice e))(k:Nat.ble (ab.sz α) 16777216=true)
  (h:∀g,aM P n ops rest Q (aZ f d (.slice (some ⟨g,0,none⟩) 1 1)) (aK (.slice (some ⟨g,0,none⟩) 1 1) e [a]::L)):aM P n ops (⟨some d,.buildSlice t 1 #[(0,y)],ty,pos,af,none⟩::rest) Q f L:=by
 have b:(ab.cells Z.z).length=ab.sz α:=ab.len _;refine xJ (parts:=[(0,y)]) (ps:=[(0,ab.cells a)]) (vs:=ab.cells a) [a] hd l Z.size (tA (show 0+1<=_ from ab.pos)) rfl (by rw[DQ];exact k) Z.eq b ⟨rfl,by rw[hy];simp[Value.cells],trivial⟩ ?_ (by simp[cellsOf]) rfl rfl h;have c:Nat.beq (ab.cells a).length (ab.sz α)=true:=by rw[ab.len];simp
 have i:Nat.ble (0*ab.sz α+ab.sz α) (jh (ab.cells Z.z) 1).length=true:=by simp[jh,b]
 simp only[lay,nY,c,i,qW];have j:oj (jh (ab.cells Z.z) 1) (0*ab.sz α) (ab.cells a)=ab.cells a:=by simp only[oj,jh,uS,BI,lG,ck,mL];rw[pk (by rw[b,ab.len];exact bj _),ck]
 rw[j];exact wh _
end
theorem Qa{α:Type}{xs ys:List α}(h:ys.length=xs.length):ys.take xs.length++xs.drop (min ys.length xs.length)=ys:=by rw[<-h,dI,Nat.min_self,pk U,ck]
theorem Yt{α:Type}{xs ys:List α}(h:ys.length<=xs.length):ys.take xs.length++xs.drop (min ys.length xs.length)=ys++xs.drop ys.length:=by rw[ic h,qf h]
theorem Sub.empty{α:Type}[ab α](b:Option Addr)(e:TypeId)(L:List aa):Sub (aK (.slice b 0 0) e ([]:List α)::L) L:=λw F s=>aN.Cx s (Gb b e)
section
variable{P:Program}{α:Type}[ab α]{L:List aa}{F:aU}{w:World}
theorem Mm{i:Nat}{v:Value}{t t2 ty:TypeId}{xs ys:List α}{l h:Nat}(hi:L[i]?=some (aK v e xs))(hr:aI L u ys)(C:P.underlying t=some (.slice e))
  (A:P.cellsOf e=sz)(d7:ab.sz α=sz)(j5:l<=h)(hh:h<=xs.length)(dst:Value)(hd:dst=bg v l h sz\/(dst=v/\l=0/\h=xs.length))(s:aN w L F):
  ∃w',(Builtin.copy_ #[t,t2] ty #[dst,u]).run P w=.ok (.int .i64 (min ys.length (h-l):Nat)) w'/\Rest w w'/\aN w' (L.set i (aK v e (xs.take l++ys.take (h-l)++xs.drop (l+min ys.length (h-l))))) F:=by
 subst d7;have r:0<ab.sz α:=ab.pos;obtain⟨hl,a,d9,rfl,j6,j1,Q,R⟩:=hr w F s;have y:(ys.take (h-l)).length=min ys.length (h-l):=by simp[Nat.min_comm]
 obtain⟨f,x,d⟩:∃f x,dst=.slice f (h-l) x:=by
  obtain⟨_,⟨_,b,rfl⟩|⟨g,c,I,rfl,_⟩⟩:=rp hi s
  ·rcases hd with rfl|⟨rfl,rfl,rfl⟩
   ·exact⟨_,_,rfl⟩
   ·refine⟨b,0,?_⟩;congr 1;omega
  ·rcases hd with rfl|⟨rfl,rfl,rfl⟩
   ·exact⟨_,_,rfl⟩
   ·exact⟨_,_,rfl⟩
 by_cases n:min ys.length (h-l)=0
 ·have V:xs.take l++ys.take (h-l)++xs.drop (l+min ys.length (h-l))=xs:=by rw[dZ (y.trans n),n];simp
  refine⟨w,?_,gO w,by rw[V,uA hi];exact s⟩;rw[d];have q:Nat.min ys.length (h-l)=0:=n;cases a<;>cases f<;>simp[Builtin.copy_,cX C,Builtin.lenOf,Builtin.firstCells,gQ w A r,q,loadCells,loadCellsFrom,storeCells,goInt,n]
 ·cases a with
  |none=>have:=Q rfl;omega
  |some ad=>
   have k:(cellsOf (ys.take (h-l))).length=min ys.length (h-l)*ab.sz α:=by rw[cN,y]
   have W:l*ab.sz α+min ys.length (h-l)*ab.sz α<=xs.length*ab.sz α:=by rw[<-jr];exact iW _ U
   have d8:(cellsOf xs).take (l*ab.sz α)++cellsOf (ys.take (h-l))++(cellsOf xs).drop (l*ab.sz α+(cellsOf (ys.take (h-l))).length)=cellsOf (xs.take l++ys.take (h-l)++xs.drop (l+min ys.length (h-l))):=by rw[k,<-jr,rf,td,nR,nR]
   obtain⟨g,w',⟨c,H⟩,c9,c8,d6⟩:=yy (P:=P) (w:=w) (o:=l*ab.sz α) (us:=cellsOf (ys.take (h-l))) (xs':=xs.take l++ys.take (h-l)++xs.drop (l+min ys.length (h-l))) hi (by rw[k];exact W)
    (by rw[k];exact yY U r) (kW.2 (uy _)) d8 (by simp;omega) s
   refine⟨w',?_,c8,d6⟩;have z:=run_loadCells_list (P:=P) w ad (cellsOf (ys.take (h-l))) (λj u m=>by
    refine R ad rfl j u ?_;rw[<-rf,mz]at m;split at m
    ·exact m
    ·cases m)
   rw[k]at z;have j0:xs.length<=c:=by
    obtain⟨_,⟨h0,b,p⟩|⟨g2,c2,I,p,_,M,_⟩⟩:=rp hi s
    ·omega
    ·rw[H]at p;cases p;exact M
   have S:f=some ⟨g,l*ab.sz α,none⟩:=by
    subst H;rcases hd with rfl|⟨rfl,rfl,rfl⟩
    ·simp only[bg]at d;rw[ai U]at d;cases d;simp[iY]
    ·cases d;simp
   rw[d,S];have q:Nat.min ys.length (h-l)=min ys.length (h-l):=rfl;simp[Builtin.copy_,cX C,Builtin.lenOf,Builtin.firstCells,gQ w A r,q,z,c9,goInt]
variable{n:Nat}{ops:Array Oper}{Q:bx}{f:Nat->Value}{rest:List Oper}{dd:Option Nat}{ty:TypeId}{pos:String}{af:Array Edge}{gd:Option (Nat×Bool)}
variable{v:Value}{xs ys:List α}
theorem yC{x:Array Operand}{t:Array TypeId}(h:aM P n ops (⟨dd,.call ⟨.builtin .copy,x,t⟩,ty,pos,af,gd⟩::rest) Q f L):aM P n ops (⟨dd,.call ⟨.builtin .copy,x,t⟩,ty,pos,af,gd⟩::rest) Q f L:=h
theorem xL(i:Nat){x y:Operand}{t t2:TypeId}(hd:fv n dd=true)(hx:aH f x=v)(hi:L[i]?=some (aK v e xs))(hy:aH f y=u)(c:aI L u ys)(k:P.underlying t=some (.slice e))(g:P.cellsOf e=sz)(j:ab.sz α=sz)
  (h:∀zs,zs=ys.take xs.length++xs.drop (min ys.length xs.length)->aM P n ops rest Q (cg f dd (.int .i64 (min ys.length xs.length:Nat))) (L.set i (aK v e zs))):aM P n ops (⟨dd,.call ⟨.builtin .copy,#[x,y],#[t,t2]⟩,ty,pos,af,none⟩::rest) Q f L:=by
 refine lr rfl hd (R:=λr L'=>r=.int .i64 (min ys.length xs.length:Nat)/\L'=L.set i (aK v e (ys.take xs.length++xs.drop (min ys.length xs.length)))) (λF w s=>?_) (λm L' e=>by obtain⟨rfl,rfl⟩:=e;exact h _ rfl);obtain⟨w',a,d,b⟩:=Mm (P:=P) (t2:=t2) (ty:=ty) (l:=0) (h:=xs.length) hi c k g j (eM _) (bj _) v (.inr ⟨rfl,rfl,rfl⟩) s;simp only[BI,lG,Nat.sub_zero,mL]at b a;exact⟨_,w',_,.inl (by simp[execOp,resolve,invoke,builtin,hx,hy,a]),d,b,rfl,rfl⟩
theorem yB(i:Nat){x y:Operand}{t t2:TypeId}{l:Nat}(hd:fv n dd=true)(hx:aH f x=bg v l k sz)(hi:L[i]?=some (aK v e xs))(hy:aH f y=u)(c:aI L u ys)(p:P.underlying t=some (.slice e))(j:P.cellsOf e=sz)(o:ab.sz α=sz)(b:l<=k)(a:k<=xs.length)
  (h:∀zs,zs=xs.take l++ys.take (k-l)++xs.drop (l+min ys.length (k-l))->aM P n ops rest Q (cg f dd (.int .i64 (min ys.length (k-l):Nat))) (L.set i (aK v e zs))):aM P n ops (⟨dd,.call ⟨.builtin .copy,#[x,y],#[t,t2]⟩,ty,pos,af,none⟩::rest) Q f L:=by
 refine lr rfl hd (R:=λr L'=>r=.int .i64 (min ys.length (k-l):Nat)/\L'=L.set i (aK v e (xs.take l++ys.take (k-l)++xs.drop (l+min ys.length (k-l))))) (λF w s=>?_) (λq L' e=>by obtain⟨rfl,rfl⟩:=e;exact h _ rfl);obtain⟨w',g,d,m⟩:=Mm (P:=P) (t2:=t2) (ty:=ty) (l:=l) (h:=k) hi c p j o b a _ (.inl rfl) s;exact⟨_,w',_,.inl (by simp[execOp,resolve,invoke,builtin,hx,hy,g]),d,m,rfl,rfl⟩
end
end
section
theorem bq{f:Nat->Value}{a:Nat}{l:List Nat}{v:Value}{vs:List Value}(h:f a=v)(t:l.map f=vs):(a::l).map f=v::vs:=by rw[kq,h,t]
theorem lM{f:Nat->Value}:([]:List Nat).map f=[]:=rfl
section
variable{P:Program}{n:Nat}{Q:bx}{f:Nat->Value}{L:List aa}{c:Code}{ops:Array Oper}{l:List Oper}
theorem Ex.keep(ss:List Nat){vs:List Value}(a:ss.map f=vs)(h:∀g,Ex P n c Q (lA g ss vs) L):Ex P n c Q f L:=by have:=h f;rw[<-a,oW]at this;exact this
end
def Hid(c:Code):Code:=c
def qq:Nat->Code->Code
 |0,c=>c
 |k+1,.seq _ b=>qq k b
 |_+1,c=>c
def sr:Nat->Code->Code
 |0,c=>Hid c
 |k+1,.seq a b=>.seq a (sr k b)
 |_+1,c=>Hid c
theorem uJ:∀(k:Nat) (c:Code),sr k c=c
 |0,c=>rfl
 |k+1,c=>by
  cases c with
  |seq a b=>show Code.seq a (sr k b)=_;rw[uJ k b]
  |_=>rfl
section
variable{P:Program}{n:Nat}{Q:bx}{f:Nat->Value}{L:List aa}{c y:Code}{ops:Array Oper}{l:List Oper}
theorem Ex.vH(k:Nat)(ss:List Nat)(I:List Value->List aa->Prop)(hy:∀vs g L',I vs L'->Ex P n (qq k c) Q (lA g ss vs) L')
  (hx:(∀f L,(∃L',Sub L' L/\I (ss.map f) L')->Ex P n (Hid (qq k c)) Q f L)->Ex P n (sr k c) Q f L):Ex P n c Q f L:=by
 rw[uJ]at hx;refine hx λf L ⟨L',a,h⟩=>?_;have:=hy _ f L' h;rw[oW]at this;exact bF this a
theorem aM.vH(k:Nat)(ss:List Nat)(I:List Value->List aa->Prop)(hy:∀vs g L',I vs L'->Ex P n (qq k y) Q (lA g ss vs) L')
  (hx:(∀f L,(∃L',Sub L' L/\I (ss.map f) L')->Ex P n (Hid (qq k y)) Q f L)->aM P n ops l (bI P n (sr k y) Q) f L):aM P n ops l (bI P n y Q) f L:=by
 rw[uJ]at hx;refine hx λf L ⟨L',a,h⟩=>?_;have:=hy _ f L' h;rw[oW]at this;exact bF this a
theorem aM.halt(k:Nat)(h:aM P n ops l (bI P n (sr k y) Q) f L):aM P n ops l (bI P n y Q) f L:=by rw[uJ]at h;exact h
theorem Ex.go(h:Ex P n c Q f L):Ex P n (Hid c) Q f L:=h
end
section
variable{P:Program}{n:Nat}{ops:Array Oper}{Q:bx}{f:Nat->Value}{L:List aa}{α:Type}[ab α]
variable{kd:Nat->Nat}{Lb:List aa}{Z:(Nat->Value)->List aa->Prop}{i:Nat}{l:List (Nat×Oper)}{d:Nat}{ty:TypeId}{pos:String}{af:Array Edge}
theorem xr{t:TypeId}[b:hQ P e α]{y:Operand}{a:α}(o:kd i=1)(hy:aH f y=.agg (ab.cells a).toArray)(s:P.underlying t=some (.slice e))(q:Nat.ble (ab.sz α) 16777216=true)
  (h:∀g,aX P n ops kd Lb Z l (aZ f d (.slice (some ⟨g,0,none⟩) 1 1)) (aK (.slice (some ⟨g,0,none⟩) 1 1) e [a]::L)):aX P n ops kd Lb Z ((i,⟨some d,.buildSlice t 1 #[(0,y)],ty,pos,af,none⟩)::l) f L:=by
 have c:(ab.cells b.z).length=ab.sz α:=ab.len _;have p:((lay (nY (ab.sz α)) (jh (ab.cells b.z) 1) [(0,ab.cells a)]).bind kF)=some (ab.cells a):=by
  have j:Nat.beq (ab.cells a).length (ab.sz α)=true:=by rw[ab.len];simp
  have k:Nat.ble (0*ab.sz α+ab.sz α) (jh (ab.cells b.z) 1).length=true:=by simp[jh,c]
  simp only[lay,nY,j,k,qW];have m:oj (jh (ab.cells b.z) 1) (0*ab.sz α) (ab.cells a)=ab.cells a:=by simp only[oj,jh,uS,BI,lG,ck,mL];rw[pk (by rw[c,ab.len];exact bj _),ck]
  rw[m];exact wh _
 refine vg (obj:=.cells (ab.cells a).toArray e) (mk:=λg=>.slice (some ⟨g,0,none⟩) 1 1) (λg=>aK (.slice (some ⟨g,0,none⟩) 1 1) e [a]) o rfl rfl (λw=>?_) (λg=>?_) h
 ·have r:=Aw (P:=P) (w:=w) (f:=f) (parts:=[(0,y)]) (ps:=[(0,ab.cells a)]) s b.size (tA (show 0+1<=_ from ab.pos)) (show Nat.blt 0 1=true by rfl) (by rw[DQ];exact q) b.eq c ⟨rfl,by rw[hy];simp[Value.cells],trivial⟩ p;simp only[execOp,fe,r,fE,fT]
 ·refine⟨cN _,.inr ⟨g,_,_,rfl,rfl,bj _,by unfold maxLen;simp,by simp[ab.len],by simp[cellsOf,<-ab.len a]⟩⟩
end
def bY(v:Value)(n:Nat):Prop:=∃a c,v=.slice a n c/\n<=c/\c<=maxLen
theorem aI.wv{α:Type}[ab α]{L:List aa}{v:Value}{xs:List α}(f:aI L v xs)(w:World)(F:aU)(s:aN w L F):bY v xs.length:=by obtain⟨a,c,b,d,e⟩:=f.cap s;exact⟨a,c,b,d,e⟩
section
variable{P:Program}{n:Nat}{ops:Array Oper}{Q:bx}{f:Nat->Value}{L:List aa}{d:Nat}{ty:TypeId}{pos:String}{af:Array Edge}{gd:Option (Nat×Bool)}{v:Value}{q:Nat}
theorem PH{x:Operand}{t:TypeId}(hx:aH f x=v)(g:P.underlying t=some (.slice e))(b:bY v q):
  aP P ⟨some d,.call ⟨.builtin .len,#[x],#[t]⟩,ty,pos,af,gd⟩ f L (.int .i64 q):=λF w s=>by
 obtain⟨a,c,rfl,_,_⟩:=b;simp[execOp,resolve,invoke,builtin,hx,Builtin.len_,cX g,goInt]
theorem OS{t:TypeId}{x y:Operand}{k:IntKind}(hx:aH f x=v)(hy:aH f y=.int k h)(n:P.underlying t=some (.slice e))(j:P.cellsOf e=sz)(i:Nat.blt 0 sz=true)(b:bY v q)(g:0<=h)(o:h<=(q:Int)):
  aP P ⟨some d,.slice t x none (some y) none,ty,pos,af,gd⟩ f L (bg v 0 h.toNat sz):=λF w s=>by
 obtain⟨a,c,rfl,b,_⟩:=b;have:=ri (P:=P) (w:=w) (a:=a) (k:=q) (c:=c) (lo:=none) (hi:=some (.int k h)) (mx:=none) n j (cT i) (l:=0) (h:=h.toNat) (m:=c) (by simp only[Instr.sliceBounds,fe,fT,fE,ny g (show h<=(c:Int)by omega)]);simp[execOp,hx,hy,this,bg]
theorem Xt{t:TypeId}{x y:Operand}{k:IntKind}{l:Int}(hx:aH f x=v)(hy:aH f y=.int k l)(o:P.underlying t=some (.slice e))(n:P.cellsOf e=sz)(j:Nat.blt 0 sz=true)(b:bY v q)(g:0<=l)(i:l<=(q:Int)):
  aP P ⟨some d,.slice t x (some y) none none,ty,pos,af,gd⟩ f L (bg v l.toNat q sz):=λF w s=>by
 obtain⟨a,c,rfl,b,_⟩:=b;have:=ri (P:=P) (w:=w) (a:=a) (k:=q) (c:=c) (lo:=some (.int k l)) (hi:=none) (mx:=none) o n (cT j) (l:=l.toNat) (h:=q) (m:=c) (by simp only[Instr.sliceBounds,fe,fT,fE,ny g i]);simp[execOp,hx,hy,this,bg]
end
section
variable{α:Type}[ab α]
theorem YV{P:Program}{w:World}{L:List aa}{F:aU}{v:Value}{t ty:TypeId}{xs:List α}{i j r:Nat}(hi:L[r]?=some (aK v e xs))(ht:P.underlying t=some (.slice e))
  (d:P.cellsOf e=sz)(f:ab.sz α=sz)(j3:i<j)(S:j<=xs.length)(s:aN w L F):
  ∃w',(Builtin.append_ #[t,t] ty #[bg v 0 i sz,bg v j xs.length sz]).run P w=.ok (bg v 0 (i+(xs.length-j)) sz) w'/\Rest w w'/\aN w' (L.set r (aK v e (xs.take i++xs.drop j++xs.drop (i+(xs.length-j))))) F:=by
 have hp:0<sz:=by rw[<-f];exact ab.pos
 obtain⟨p,R,c8⟩:∃p,P.info? e=some p/\p.size=sz:=by
  unfold Program.cellsOf at d;cases hh:P.info? e with
  |none=>rw[hh]at d;simp at d;omega
  |some x=>rw[hh]at d;exact⟨x,rfl,by simpa using d⟩
 obtain⟨hl,hv⟩:=rp hi s;have n:=(ni (gr r hi) S f rfl) w F s;rcases hv with⟨h0,_⟩|⟨g,b,e8,rfl,hg,hk,hm,hz,j9⟩
 ·omega
 have A:¬b=0:=U;have q:∀h,bg (.slice (some ⟨g,0,none⟩) xs.length b) 0 h sz=.slice (some ⟨g,0,none⟩) h b:=λh=>by simp[bg,A,iY]
 have z:∃a,bg (.slice (some ⟨g,0,none⟩) xs.length b) j xs.length sz=.slice (some a) (xs.length-j) (b-j):=by
  by_cases y:b=j
  ·exact⟨⟨g,0,none⟩,by simp[bg,y]⟩
  ·exact⟨_,by simp only[bg,ai y];rfl⟩
 obtain⟨a,u⟩:=z;rw[u]at n;have c:(xs.drop j).length=xs.length-j:=by simp
 rw[c]at n;obtain⟨j6,a',c',I,_,_,_,C⟩:=n;cases I;have W:=C a rfl;have c7:i+(xs.length-j)<=b:=U;have Q:=run_firstCells_some (P:=P) w sz (xs.length-j) a (xs.length-j) (b-j) (cellsOf (xs.drop j)) (by rw[cN,f,c]) W;have d7:∃w',(storeCells ⟨g,i*sz,none⟩ (cellsOf (xs.drop j)) 0).run P w=.ok () w'/\Rest w w'/\aN w' (L.set r (aK (.slice (some ⟨g,0,none⟩) xs.length b) e (xs.take i++xs.drop j++xs.drop (i+(xs.length-j))))) F:=by
  by_cases V:j=xs.length
  ·subst V;refine⟨w,by simp[cellsOf,storeCells],gO w,?_⟩;have:xs.take i++xs.drop xs.length++xs.drop (i+(xs.length-xs.length))=xs:=by simp
   rw[this,uA hi];exact s
  ·have H:0<(cellsOf (xs.drop j)).length:=by rw[cN,c];exact yY U ab.pos
   obtain⟨g',w',⟨c2,M⟩,l,k,m⟩:=yy (P:=P) (w:=w) (o:=i*sz) (us:=cellsOf (xs.drop j)) (xs':=xs.take i++xs.drop j++xs.drop (i+(xs.length-j))) hi (by
     rw[cN,c,<-f,<-jr];exact iW _ U) H (by rw[kW];exact uy _) (by
     rw[cN,c,<-f,<-jr,nR,nR,rf,td]) (by simp;omega) s
   cases M;exact⟨w',l,k,m⟩
 obtain⟨w',l,k,m⟩:=d7;refine⟨w',?_,k,m⟩;rw[q,q,u];simp[Builtin.append_,cX ht,sizeOf,typeInfo,R,c8,Builtin.lenOf,c7,Q,iY,l]
section
variable{P:Program}{n:Nat}{ops:Array Oper}{Q:bx}{f:Nat->Value}{L:List aa}{rest:List Oper}{d:Nat}{ty:TypeId}{pos:String}{af:Array Edge}{gd:Option (Nat×Bool)}
theorem yN(r:Nat){x y:Operand}{v:Value}{t:TypeId}{xs:List α}{i j:Nat}(hd:Nat.blt d n=true)(hx:aH f x=bg v 0 i sz)(hy:aH f y=bg v j k sz)(hi:L[r]?=some (aK v e xs))(g:k=xs.length)(u:P.underlying t=some (.slice e))
  (o:P.cellsOf e=sz)(q:ab.sz α=sz)(b:i<j)(c:j<=xs.length)
  (a:L.set r (aK v e (xs.take i++xs.drop j++xs.drop (i+(xs.length-j))))=M)(h:aM P n ops rest Q (aZ f d (bg v 0 (i+(xs.length-j)) sz)) M):aM P n ops (⟨some d,.call ⟨.builtin .append,#[x,y],#[t,t]⟩,ty,pos,af,none⟩::rest) Q f L:=by
 subst g;subst a;refine lr rfl hd (R:=λz L'=>z=bg v 0 (i+(xs.length-j)) sz/\L'=L.set r (aK v e (xs.take i++xs.drop j++xs.drop (i+(xs.length-j))))) (λF w s=>?_) (λA L' e=>by obtain⟨rfl,rfl⟩:=e;exact h);obtain⟨w',m,l,p⟩:=YV (P:=P) (ty:=ty) hi u o q b c s;exact⟨_,w',_,.inl (by simp[execOp,resolve,invoke,builtin,hx,hy,m]),l,p,rfl,rfl⟩
theorem Dk(i:Nat){x:Operand}{v:Value}{xs:List α}{t:TypeId}[Z:hQ P e α]{l:Nat}(hx:aH f x=bg v l k sz)(hi:L[i]?=some (aK v e xs))(b:k=xs.length)(d:ab.sz α=sz)(g:P.underlying t=some (.slice e))(c:l<=xs.length)
  (a:L.set i (aK v e (xs.take l++List.replicate (xs.length-l) Z.z))=L')(h:aM P n ops rest Q f L'):aM P n ops (⟨none,.call ⟨.builtin .clear,#[x],#[t]⟩,ty,pos,af,none⟩::rest) Q f L:=by
 subst a;exact zT i Z.z hx hi b d g Z.eq rfl c h
theorem Yy(r:Nat){x y:Operand}{v:Value}{t:TypeId}{xs:List α}{k:IntKind}{i:Int}{h m:Nat}(hx:aH f x=bg v 0 h sz)(hy:aH f y=.int k j)(n:aH f z=.int k' i)(hi:L[r]?=some (aK v e xs))(R:P.underlying t=some (.slice e))
  (M:P.cellsOf e=sz)(Q:ab.sz α=sz)(u:j=(h:Int))(A:i.toNat=m)(C:0<=i)(d7:h<=i.toNat)(h1:i.toNat<=xs.length):aP P ⟨some d,.slice t x (some y) (some z) none,ty,pos,af,gd⟩ f L (bg v h m sz):=λF w s=>by
 subst u;subst A;obtain⟨m,rfl⟩:=jF C;simp only[dc]at*
 have I:0<sz:=by rw[<-Q];exact ab.pos
 obtain⟨_,S⟩:=rp hi s;have V:∃a c,v=.slice a xs.length c/\xs.length<=c/\(0<c\/h=0):=by
  rcases S with⟨q,b,rfl⟩|⟨g,o,W,rfl,hg,H,hm,n,d9⟩
  ·exact⟨b,0,by rw[q],U,.inr U⟩
  ·exact⟨_,o,rfl,H,U⟩
 obtain⟨a,c,rfl,hc,c9⟩:=V;have p:bg (.slice a xs.length c) 0 h sz=.slice a h c:=by
  simp only[bg,uS,Nat.sub_zero];congr 1;split
  ·rfl
  ·cases a<;>simp[Addr.add]
 rw[p]at hx;have:=ri (P:=P) (w:=w) (a:=a) (k:=h) (c:=c) (lo:=some (.int k (h:Int))) (hi:=some (.int k' (m:Int))) (mx:=none) R M I (l:=h) (h:=m) (m:=c) (by simp only[Instr.sliceBounds,fe,fT,fE,ny (show(0:Int)<=m by omega) (show(m:Int)<=(c:Int)by omega),ny (show(0:Int)<=h by omega) (show(h:Int)<=((m:Nat):Int)by omega),dc]);simp[execOp,hx,hy,n,this,bg]
theorem OQ{x y u:Operand}{v:Value}{t:TypeId}{xs:List α}{k b:IntKind}{l:Int}(hx:aH f x=v)(hy:aH f y=.int k l)(q:aH f z=.int k' h)(i:aH f u=.int b m)(p:P.underlying t=some (.slice e))(n:aI L v xs)(o:P.cellsOf e=sz)(j:Nat.blt 0 sz=true)(g:0<=l)(H:l<=h)(C:h<=m)(r:m<=(xs.length:Int)):
  aP P ⟨some d,.slice t x (some y) (some z) (some u),ty,pos,af,gd⟩ f L (bR v l.toNat h.toNat m.toNat sz):=λF w s=>by
 obtain⟨a,c,rfl,A,_⟩:=n.cap s;have:=ri (P:=P) (w:=w) (a:=a) (k:=xs.length) (c:=c) (lo:=some (.int k l)) (hi:=some (.int k' h)) (mx:=some (.int b m)) p o (cT j) (l:=l.toNat) (h:=h.toNat) (m:=m.toNat) (by simp only[Instr.sliceBounds,fe,fT,fE,ny (show 0<=m by omega) (show m<=(c:Int)by omega),ny (show 0<=h by omega) (show h<=(m.toNat:Int)by omega),ny g (show l<=(h.toNat:Int)by omega)]);simp[execOp,hx,hy,q,i,this,bR]
end
end
end
section
section
variable{P:Program}{n:Nat}{ops:Array Oper}{Q:bx}{f:Nat->Value}{L:List aa}{rest:List Oper}{d:Nat}{ty:TypeId}{pos:String}{af:Array Edge}{gd:Option (Nat×Bool)}
theorem WL{fn:Go.Fn}{a:List Operand}{vs:List Value}(h:ak.map (aH f)=vs)(b:a.map (aH f)=us):aP P ⟨some d,.makeFunc fn ak.toArray a.toArray,ty,pos,af,gd⟩ f L (.func fn vs.toArray us.toArray):=λF w s=>by subst h;subst b;simp[execOp,Instr.makeFunc]
theorem iL(g:List Nat){dd:Option Nat}{x:Operand}{xs:List Operand}{vs:List Value}(hd:fv n dd=true)(hx:aH f x=.func (.func fn) fs.toArray us.toArray)
  (q:∀(xs:Array Value) (w:World),(callFunc fn xs).run P w=.ok (.enter fn xs) w)(l:oe g L=L1)(k:xs.map (aH f)=vs)(b:Fn P fn (fs++vs++us).toArray L1 R)(h:∀v L',R v L'->aM P n ops rest Q (cg f dd v) L'):
  aM P n ops (⟨dd,.call ⟨.value x,xs.toArray,ts⟩,ty,pos,af,none⟩::rest) Q f L:=by
 have b:=b.sub (L:=L) (by subst l;exact iT g L);intro D F w0 f0 ws a w H c;refine wpList_plain rfl λK i=>?_;have u:(execOp a.eval ⟨dd,.call ⟨.value x,xs.toArray,ts⟩,ty,pos,af,none⟩).run P w=.ok (.enter fn (fs++vs++us).toArray) w:=by rw[H.2.1.eval];subst k;unfold execOp;simp[resolve,Deferred.ofValue,hx,invoke,q]
 unfold Oper.wp;rw[u];show Calls P fn _ w _;refine(b F w0 w H.1 H.2.2.1).mono ?_;rintro e w' ⟨v,L',rfl,p,r,j⟩;have m:gB D n F w0 f0 ws (a.put dd v) w' (cg f dd v) L':=by have:=ti (w':=w) H (gO w) H.2.2.1 hd (λt s=>c t (rh (o:=⟨dd,.call ⟨.value x,xs.toArray,ts⟩,ty,pos,af,none⟩) (t:=0) s)) v;exact⟨p,this.2.1,r,this.2.2.2⟩
 exact i _ _ (h v L' j D F w0 f0 ws _ _ m λd hd=>c d (qN hd))
end
section
variable{P:Program}{n:Nat}{ops:Array Oper}{Q:bx}{f:Nat->Value}{L:List aa}{rest:List Oper}{d:Nat}{ty:TypeId}{pos:String}{af:Array Edge}{gd:Option (Nat×Bool)}
theorem N1{v:Value}(a:zs.length=1):((lay (nY 1) (jh zs 1) [(0,[v])]).bind kF)=some [v]:=by
 match zs,a with
 |[z],_=>simp only[lay,nY,jh,ck,dL,jx,uS];exact wh [v]
theorem Ca{α:Type}[ab α](a:α){t:TypeId}{y:Operand}{v:Value}(hd:Nat.blt d n=true)(hy:aH f y=v)(i:v.oneCell'=true)(k:P.underlying t=some (.slice e))(j:P.cellsOf e=1)(l:fI P e=some zs)(c:zs.length=1)(b:ab.cells a=[v])
  (h:∀g,aM P n ops rest Q (aZ f d (.slice (some ⟨g,0,none⟩) 1 1)) (aK (.slice (some ⟨g,0,none⟩) 1 1) e [a]::L)):aM P n ops (⟨some d,.buildSlice t 1 #[(0,y)],ty,pos,af,none⟩::rest) Q f L:=
 xJ (parts:=[(0,y)]) (ps:=[(0,[v])]) (vs:=[v]) [a] hd k j rfl rfl rfl l c ⟨rfl,by rw[hy,xA i],trivial⟩ (N1 c) (by simp[cellsOf,b]) rfl (by rw[<-ab.len a,b];rfl) h
theorem vD(a:0<=b)(c:b<=255):ab.cells (UInt8.ofNat b.toNat)=[Value.int .u8 b]:=by
 show[Value.int .u8 ((UInt8.ofNat b.toNat).toNat:Int)]=[Value.int .u8 b];have:((UInt8.ofNat b.toNat).toNat:Int)=b:=by simp;omega
 rw[this]
theorem D4{t:TypeId}{y:Operand}(hd:Nat.blt d n=true)(hy:aH f y=.int .u8 b)(j:P.underlying t=some (.slice e))(i:P.cellsOf e=1)(k:fI P e=some zs)(l:zs.length=1)(a:0<=b)(c:b<=255)
  (h:∀g,aM P n ops rest Q (aZ f d (.slice (some ⟨g,0,none⟩) 1 1)) (aK (.slice (some ⟨g,0,none⟩) 1 1) e [UInt8.ofNat b.toNat]::L)):aM P n ops (⟨some d,.buildSlice t 1 #[(0,y)],ty,pos,af,none⟩::rest) Q f L:=
 Ca (UInt8.ofNat b.toNat) hd hy rfl j i k l (vD a c) h
variable{kd:Nat->Nat}{Lb:List aa}{Z:(Nat->Value)->List aa->Prop}{i:Nat}{l:List (Nat×Oper)}
theorem Nq{α:Type}[ab α](a:α){t:TypeId}{y:Operand}{v:Value}(m:kd i=1)(hy:aH f y=v)(k:v.oneCell'=true)(q:P.underlying t=some (.slice e))(p:P.cellsOf e=1)(r:fI P e=some zs)(j:zs.length=1)(b:ab.cells a=[v])
  (h:∀g,aX P n ops kd Lb Z l (aZ f d (.slice (some ⟨g,0,none⟩) 1 1)) (aK (.slice (some ⟨g,0,none⟩) 1 1) e [a]::L)):aX P n ops kd Lb Z ((i,⟨some d,.buildSlice t 1 #[(0,y)],ty,pos,af,none⟩)::l) f L:=by
 have c:ab.sz α=1:=by rw[<-ab.len a,b];rfl
 refine vg (obj:=.cells [v].toArray e) (mk:=λg=>.slice (some ⟨g,0,none⟩) 1 1) (λg=>aK (.slice (some ⟨g,0,none⟩) 1 1) e [a]) m rfl rfl (λw=>?_) (λg=>?_) h
 ·have o:=Aw (P:=P) (w:=w) (f:=f) (parts:=[(0,y)]) (ps:=[(0,[v])]) (sz:=1) q p rfl (show Nat.blt 0 1=true by rfl) rfl r j ⟨rfl,by rw[hy,xA k],trivial⟩ (N1 j);simp only[execOp,fe,o,fE,fT]
 ·refine⟨cN _,.inr ⟨g,1,_,rfl,rfl,bj _,by unfold maxLen;omega,by simp[c],by simp[c,cellsOf,b]⟩⟩
theorem HQ{t:TypeId}{y:Operand}(j:kd i=1)(hy:aH f y=.int .u8 b)(m:P.underlying t=some (.slice e))(k:P.cellsOf e=1)(o:fI P e=some zs)(p:zs.length=1)(a:0<=b)(c:b<=255)
  (h:∀g,aX P n ops kd Lb Z l (aZ f d (.slice (some ⟨g,0,none⟩) 1 1)) (aK (.slice (some ⟨g,0,none⟩) 1 1) e [UInt8.ofNat b.toNat]::L)):aX P n ops kd Lb Z ((i,⟨some d,.buildSlice t 1 #[(0,y)],ty,pos,af,none⟩)::l) f L:=
 Nq (UInt8.ofNat b.toNat) j hy rfl m k o p (vD a c) h
end
section
variable{P:Program}{n:Nat}{ops:Array Oper}{Q:bx}{f:Nat->Value}{L:List aa}{rest:List Oper}{d:Nat}{ty:TypeId}{pos:String}{af:Array Edge}{gd:Option (Nat×Bool)}
theorem Ni{v:Value}(a:zs.length=1):((lay (nY 1) (jh zs 2) [(0,[v]),(1,[u])]).bind kF)=some [v,u]:=by
 match zs,a with
 |[z],_=>simp only[lay,nY,jh,ck,dL,jx,uS,DQ];exact wh [v,u]
theorem F1{t:TypeId}{x y:Operand}(hd:Nat.blt d n=true)(hx:aH f x=.int .u8 a)(hy:aH f y=.int .u8 b)(o:P.underlying t=some (.slice e))(m:P.cellsOf e=1)(p:fI P e=some zs)(c:zs.length=1)(k:0<=a)(l:a<=255)(i:0<=b)(j:b<=255)
  (h:∀g,aM P n ops rest Q (aZ f d (.slice (some ⟨g,0,none⟩) 2 2)) (aK (.slice (some ⟨g,0,none⟩) 2 2) e [UInt8.ofNat a.toNat,UInt8.ofNat b.toNat]::L)):aM P n ops (⟨some d,.buildSlice t 2 #[(0,x),(1,y)],ty,pos,af,none⟩::rest) Q f L:=
 xJ (parts:=[(0,x),(1,y)]) (ps:=[(0,[.int .u8 a]),(1,[.int .u8 b])]) (vs:=[.int .u8 a,.int .u8 b]) [UInt8.ofNat a.toNat,UInt8.ofNat b.toNat] hd o m rfl rfl rfl p c ⟨rfl,by rw[hx];rfl,rfl,by rw[hy];rfl,trivial⟩ (Ni c) (by show ab.cells _++(ab.cells _++[])=_;rw[vD k l,vD i j];rfl) rfl rfl h
theorem DB{t:TypeId}{y:Operand}{l:List UInt8}(hd:Nat.blt d n=true)(hy:aH f y=.string (S l))(b:P.underlying t=some (.slice e))(a:P.cellsOf e=1)(c:fI P e=some zs)(i:zs.length=1)
  (h:∀g,aM P n ops rest Q (aZ f d (.slice (some ⟨g,0,none⟩) 1 1)) (aK (.slice (some ⟨g,0,none⟩) 1 1) e [(⟨l⟩:bQ)]::L)):aM P n ops (⟨some d,.buildSlice t 1 #[(0,y)],ty,pos,af,none⟩::rest) Q f L:=
 Ca (⟨l⟩:bQ) hd hy rfl b a c i rfl h
variable{kd:Nat->Nat}{Lb:List aa}{Z:(Nat->Value)->List aa->Prop}{i:Nat}{l:List (Nat×Oper)}
theorem KY{t:TypeId}{x y:Operand}(q:kd i=1)(hx:aH f x=.int .u8 a)(hy:aH f y=.int .u8 b)(u:P.underlying t=some (.slice e))(s:P.cellsOf e=1)(v:fI P e=some zs)(c:zs.length=1)(m:0<=a)(o:a<=255)(j:0<=b)(k:b<=255)
  (h:∀g,aX P n ops kd Lb Z l (aZ f d (.slice (some ⟨g,0,none⟩) 2 2)) (aK (.slice (some ⟨g,0,none⟩) 2 2) e [UInt8.ofNat a.toNat,UInt8.ofNat b.toNat]::L)):aX P n ops kd Lb Z ((i,⟨some d,.buildSlice t 2 #[(0,x),(1,y)],ty,pos,af,none⟩)::l) f L:=by
 have p:cellsOf [UInt8.ofNat a.toNat,UInt8.ofNat b.toNat]=[Value.int .u8 a,Value.int .u8 b]:=by show ab.cells _++(ab.cells _++[])=_;rw[vD m o,vD j k];rfl
 refine vg (obj:=.cells [Value.int .u8 a,Value.int .u8 b].toArray e) (mk:=λg=>.slice (some ⟨g,0,none⟩) 2 2) (λg=>aK (.slice (some ⟨g,0,none⟩) 2 2) e [UInt8.ofNat a.toNat,UInt8.ofNat b.toNat]) q rfl rfl (λw=>?_) (λg=>?_) h
 ·have r:=Aw (P:=P) (w:=w) (f:=f) (parts:=[(0,x),(1,y)]) (ps:=[(0,[.int .u8 a]),(1,[.int .u8 b])]) (sz:=1) u s rfl (show Nat.blt 0 2=true by rfl) rfl v c ⟨rfl,by rw[hx];rfl,rfl,by rw[hy];rfl,trivial⟩ (Ni c);simp only[execOp,fe,r,fE,fT]
 ·refine⟨cN _,.inr ⟨g,2,_,rfl,rfl,bj _,by unfold maxLen;omega,J,by rw[p];rfl⟩⟩
end
theorem Sub.fr(a:List Nat){A C:List aa}(e:oe a C=M)(h:Sub A M):Sub A C:=by subst e;exact ar h (iT a C)
def mA(P:Program)(k:FuncId)(args:Array Value)(L:List aa)(R:Value->List aa->Prop):Prop:=
 ∀F w0 w,Rest w0 w->aN w L F->CallsD P k args .returning w λe u w'=>u=.returning/\∃v L',e=.returned v/\Rest w0 w'/\aN w' L' F/\R v L'
theorem mA.FG{P:Program}{k:FuncId}{fn:Func}{c:Code}{args:Array Value}{L:List aa}{n:Nat}(p:P.funcs[k]?=some fn)(o:fn.body=some c)(u:fn.ntmps=n)(m:Nat.ble args.size n=true)
  (h:Ex P n c (fin P fn R) (jP args) L):mA P k args L R:=by
 subst u;have m:=cT m;intro F w0 w r s;refine callsD_of_wp p o ?_;have b:gz [] fn.ntmps {tmps:=args++Array.replicate (fn.ntmps-args.size) undef,defers:=[]} (jP args):=by
  refine⟨rfl,by simp;omega,λt=>?_⟩;simp only[jP,uV,cu,ua];by_cases j:t<args.size
  ·rw[tD j]
  ·rw[wC U,Ax,oM (show args.size<=t by omega)];split<;>rfl
 refine jo (h [] F w0 (jP args) (λ_=>true) _ w ⟨r,b,s,λt j=>by cases j⟩ (λ_ _=>rfl)) ?_;rintro e a w ⟨f,L',⟨r,b,s,_⟩,q⟩;cases e with
 |normal=>obtain⟨v,d,l,i,g⟩:=q;exact⟨b.1,v,l F w a.tmps b.2.2 s,v,d,rfl,r,i w F s,g⟩
 |ret=>obtain⟨v,d,l,i,g⟩:=q;exact⟨b.1,v,l F w a.tmps b.2.2 s,v,d,rfl,r,i w F s,g⟩
 |_=>exact q.elim
theorem mA.sub{P:Program}{k:FuncId}{args:Array Value}{L:List aa}(h:mA P k args L' R)(a:Sub L' L):mA P k args L R:=λF w0 w r s=>h F w0 w r (a w F s)
theorem mA.mono{P:Program}{k:FuncId}{args:Array Value}{L:List aa}{R a:Value->List aa->Prop}(h:mA P k args L R)(d:∀v L',R v L'->a v L'):mA P k args L a:=λF w0 w r s=>
 (h F w0 w r s).mono λe u w' ⟨i,v,L',c,f,g,b⟩=>⟨i,v,L',c,f,g,d v L' b⟩
def B5(P:Program)(fn:Func)(R:Value->List aa->Prop)(b:FuncId)(us:List Value):bx
 | .normal,f,L| .ret,f,L=>mA P b us.toArray L λ_ a=>∃v L',bP P fn f a v/\Sub L' a/\R v L'
 |_,_,_=>False
theorem nM{P:Program}{fn:Func}{f:Nat->Value}{L:List aa}(h:mA P kf us.toArray L λ_ a=>∃v L',bP P fn f a v/\Sub L' a/\R v L'):B5 P fn R kf us .ret f L:=h
def Cs:List Code->Code->Code
 |[],y=>y
 |x::l,y=>.seq x (Cs l y)
def mU(P:Program)(n:Nat)(Z:bx):List Code->(Nat->Value)->List aa->Prop
 |[],f,L=>Z .normal f L
 |x::l,f,L=>Ex P n x (λe f L=>match e with| .normal=>mU P n Z l f L|e=>Z e f L) f L
def zr(P:Program)(n:Nat)(Z:bx)(l:List Code):bx
 | .normal,f,L=>mU P n Z l f L
 |e,f,L=>Z e f L
section
variable{P:Program}{n:Nat}{Z:bx}{x:Code}{l:List Code}{f:Nat->Value}{L:List aa}
theorem mU.cons(h:Ex P n x (zr P n Z l) f L):mU P n Z (x::l) f L:=h.mono λe f L q=>by cases e<;>exact q
theorem mU.nil(h:Z .normal f L):mU P n Z [] f L:=h
theorem Eu(h:mU P n Z l f L):zr P n Z l .normal f L:=h
theorem VJ(h:Z .ret f L):zr P n Z l .ret f L:=h
end
theorem Mz{P:Program}{n:Nat}{Z:bx}{y:Code}{Q:Exit->Act->World->Prop}{D:List Deferred}{F:aU}{w0:World}{f0:Nat->Value}
  (hy:∀f L a w,gB D n F w0 f0 (λ_=>true) a w f L->Z .normal f L->y.wp P Q a w)(b:∀e f L a w,e≠.normal->gB D n F w0 f0 (λ_=>true) a w f L->Z e f L->Q e a w):
  ∀(l:List Code) (f:Nat->Value) (L:List aa) (a:Act) (w:World),gB D n F w0 f0 (λ_=>true) a w f L->mU P n Z l f L->(Cs l y).wp P Q a w
 |[],f,L,a,w,H,h=>hy f L a w H h
 |x::l,f,L,a,w,H,h=>wp_seq (jo (h D F w0 f0 (λ_=>true) a w H (λ_ _=>rfl)) λe a w ⟨f,L,H,q⟩=>by
  cases e with
  |normal=>exact Mz hy b l f L a w H q
  |_=>exact b _ f L a w (by intro h;cases h) H q)
def dz(P:Program)(n:Nat)(fn:Func)(R:Value->List aa->Prop)(t:Nat)(b:FuncId)(a:List Operand)(B:Code):bx
 | .normal,f,L=>Ex P n B (B5 P fn R b (a.map (aH f))) (aZ f t (.func (.func b) #[] (a.map (aH f)).toArray)) L
 | .ret,f,L=>fin P fn R .ret f L
 |_,_,_=>False
theorem Qc{P:Program}{n:Nat}{fn:Func}{t:Nat}{B:Code}{f:Nat->Value}{L:List aa}(a:ak.map (aH f)=us)(h:Ex P n B (B5 P fn R kf us) (aZ f t (.func (.func kf) #[] us.toArray)) L):dz P n fn R t kf ak B .normal f L:=by subst a;exact h
theorem ZU{P:Program}{n:Nat}{fn:Func}{t:Nat}{B:Code}{f:Nat->Value}{L:List aa}(h:fin P fn R .ret f L):dz P n fn R t kf ak B .ret f L:=h
theorem Fn.UK{P:Program}{k:FuncId}{fn:Func}{args:Array Value}{L:List aa}{n:Nat}{t:Nat}{S:String}{C I:Array Edge}{B:Code}(As:List Code)(hf:P.funcs[k]?=some fn)
  (hb:fn.body=some (Cs As (.seq (.region g #[⟨some t,.makeFunc (.func kf) #[] ak.toArray,xt,ae,C,none⟩,⟨none,.defer ⟨.value (.tmp t),#[],ts⟩,bt,S,I,none⟩] false) B)))(j0:fn.ntmps=n)(Q:Nat.ble args.size n=true)(j:Nat.blt t n=true)
  (j3:∀(xs:Array Value) (w:World),(callFunc kf xs).run P w=.ok (.enter kf xs) w)
  (h:mU P n (dz P n fn R t kf ak B) As (jP args) L):Fn P k args L R:=by
 subst j0;have Q:=cT Q;intro F w0 w r s;refine calls_of_wp_defers hf hb ?_;have ag:gz [] fn.ntmps {tmps:=args++Array.replicate (fn.ntmps-args.size) undef,defers:=[]} (jP args):=by
  refine⟨rfl,by simp;omega,λt=>?_⟩;simp only[jP,uV,cu,ua];by_cases j:t<args.size
  ·rw[tD j]
  ·rw[wC U,Ax,oM (show args.size<=t by omega)];split<;>rfl
 refine Mz (D:=[]) (F:=F) (w0:=w0) (f0:=jP args) ?_ ?_ As _ _ _ _ ⟨r,ag,s,λt j=>by cases j⟩ h
 ·intro f L a w H q;refine wp_seq (wp_region_list ?_);have he:=H.2.1.eval;refine wpList_plain rfl λK x=>?_;unfold Oper.wp;have h1:(execOp a.eval ⟨some t,.makeFunc (.func kf) #[] ak.toArray,xt,ae,C,none⟩).run P w=.ok (.value (.func (.func kf) #[] (ak.map (aH f)).toArray)) w:=by rw[he];simp[execOp,Instr.makeFunc]
  rw[h1];refine x _ _ ?_;have m:=ti (w':=w) H (gO w) H.2.2.1 (d:=some t) j (λ_ _=>rfl) (.func (.func kf) #[] (ak.map (aH f)).toArray);refine wpList_plain rfl λK x=>?_;unfold Oper.wp;have h2:(execOp (a.put (some t) (.func (.func kf) #[] (ak.map (aH f)).toArray)).eval ⟨none,.defer ⟨.value (.tmp t),#[],ts⟩,bt,S,I,none⟩).run P w=.ok (.defer ⟨.fn (.func kf) (ak.map (aH f)).toArray,#[]⟩) w:=by rw[m.2.1.eval];have e:aH (cg f (some t) (.func (.func kf) #[] (ak.map (aH f)).toArray)) (.tmp t)=.func (.func kf) #[] (ak.map (aH f)).toArray:=qc _ _ _;simp[execOp,resolve,e,Deferred.ofValue]
  rw[h2];refine x _ _ (wpList_nil ?_);have c8:gz [⟨.fn (.func kf) (ak.map (aH f)).toArray,#[]⟩] fn.ntmps ({a.put (some t) (.func (.func kf) #[] (ak.map (aH f)).toArray)with defers:=⟨.fn (.func kf) (ak.map (aH f)).toArray,#[]⟩::(a.put (some t) (.func (.func kf) #[] (ak.map (aH f)).toArray)).defers}.put none undef) (aZ f t (.func (.func kf) #[] (ak.map (aH f)).toArray)):=by
   refine⟨?_,m.2.1.2.1,m.2.1.2.2⟩;have:=m.2.1.1;simp only[Act.put]at this⊢
   rw[this]
  refine jo (q _ F w0 (jP args) (λ_=>true) _ w ⟨m.1,c8,m.2.2.1,λt j=>by cases j⟩ (λ_ _=>rfl)) ?_;have M:∀(c:Act) (l:World) (o:Nat->Value) (b:List aa),gB [⟨.fn (.func kf) (ak.map (aH f)).toArray,#[]⟩] fn.ntmps F w0 (jP args) (λ_=>true) c l o b->
    (mA P kf (ak.map (aH f)).toArray b λ_ u=>∃v L',bP P fn o u v/\Sub L' u/\R v L')->Leaves P fn c.tmps (λe w'=>∃v L',e=.returned v/\Rest w0 w'/\aN w' L' F/\R v L') c.defers .returning l:=by
   intro c l o b i hD;rw[i.2.1.1];refine leaves_cons (f:=kf) (args:=(ak.map (aH f)).toArray) (by intro h;cases h) (by simp[invoke,j3]) ?_;refine(hD F w0 l i.1 i.2.2.1).mono ?_;rintro e u' w' ⟨rfl,v,u,rfl,hr,p,V,W,z,j4,y⟩;exact⟨V,z F w' c.tmps i.2.1.2.2 p,V,W,rfl,hr,j4 w' F p,y⟩
  rintro e c l ⟨o,b,i,A⟩;cases e with
  |normal=>exact M c l o b i A
  |ret=>exact M c l o b i A
  |_=>exact A.elim
 ·intro e f L a w e9 H q;cases e with
  |normal=>exact absurd rfl e9
  |ret=>
   obtain⟨v,b,z,p,y⟩:=q;show Leaves P fn a.tmps _ a.defers .returning w;rw[H.2.1.1];exact⟨v,z F w a.tmps H.2.1.2.2 H.2.2.1,v,b,rfl,H.1,p w F H.2.2.1,y⟩
  |_=>exact q.elim
end
section
theorem UB{L:List aa}:(A0::L)[0]?=some A0:=rfl
theorem To{L:List aa}:(A0::A1::L)[1]?=some A1:=rfl
theorem vd{L:List aa}:(A0::A1::A2::L)[2]?=some A2:=rfl
theorem AB{L:List aa}:(A0::A1::A2::A3::L)[3]?=some A3:=rfl
theorem RD{L:List aa}:(A0::A1::A2::A3::A4::L)[4]?=some A4:=rfl
theorem OJ{L:List aa}:(A0::A1::A2::A3::A4::A5::L)[5]?=some A5:=rfl
theorem Un{a:aa}{L:List aa}:(A0::A1::A2::A3::A4::A5::a::L)[6]?=some a:=rfl
theorem T9{b a:aa}{L:List aa}:(A0::A1::A2::A3::A4::A5::b::a::L)[7]?=some a:=rfl
theorem Z2{b c a:aa}{L:List aa}:(A0::A1::A2::A3::A4::A5::b::c::a::L)[8]?=some a:=rfl
theorem rK(h:p:=by first|exact UB|exact To|exact vd|exact AB|exact RD|exact OJ|exact Un|exact T9|exact Z2):p:=h
theorem rE{α:Sort _}{a b:α}(h:a=b:=by conv=>lhs;whnf):a=b:=h
theorem rO(h:p:=by(first|omega|(simp only[dy,ew,bo,iw,dL,jx,bC,zd,ju];omega))):p:=h
theorem rN(h:p:=by first|rfl|assumption|exact jB (by assumption)|exact Bv.one _):p:=h
theorem Zr:([]:List Value).all Value.oneCell'=true:=rfl
theorem TM{v:Value}{l:List Value}(h:v.oneCell'=true)(t:l.all Value.oneCell'=true):(v::l).all Value.oneCell'=true:=by simp only[vo,h,t,qW]
theorem rC(h:p:=by first|rfl|((repeat(first|exact Zr|refine TM rN ?_));done)):p:=h
theorem rL(h:p:=by repeat(first|exact Dz|(apply PL;rfl)|(apply wM;(conv=>lhs;whnf);(first|rfl|assumption)))):p:=h
theorem rB(h:p:=by repeat(first|exact bW _|exact Sub.nil _|refine bl _ ?_|refine iC _ ?_)):p:=h
theorem rX(h:p:=by(first|assumption|exact gr 0 rfl|exact gr 1 rfl|exact gr 2 rfl|exact gr 3 rfl|exact gr 4 rfl|exact gr 5 rfl|exact gr 6 rfl|exact gr 7 rfl|exact aI.ro 0 rfl|exact aI.ro 1 rfl|exact aI.ro 2 rfl|exact aI.ro 3 rfl|exact aI.ro 4 rfl|exact aI.ro 5 rfl|exact aI.ro 6 rfl|exact aI.ro 7 rfl|exact mC _|exact aI.sub (by assumption) rB)):p:=h
theorem rD(h:p:=by first|exact rX|exact aI.to rX rO rfl|exact ni rX rO rfl J|exact aI.VK rX rO rO rfl|exact aI.Zm rX rO rO rfl):p:=h
theorem rV(h:p:=by first|exact V9 rE|exact RF rE|(apply ZD;first|exact sN 0 J J J J|exact sN 1 J J J J|exact sN 2 J J J J|exact sN 3 J J J J|exact sN 4 J J J J|exact sN 5 J J J J|exact sN 6 J J J J|exact sN 7 J J J J|exact Wc J J rD J J J|exact Fe J J rD rO J J|exact sy 0 J J J J J|exact sy 1 J J J J J|exact sy 2 J J J J J|exact sy 3 J J J J J|exact sy 4 J J J J J|exact sy 5 J J J J J|exact sy 6 J J J J J|exact sy 7 J J J J J|exact Th J J J rD J J|exact MW J J J rD rO J|exact sJ 0 J J J J rO|exact sJ 1 J J J J rO|exact sJ 2 J J J J rO|exact sJ 3 J J J J rO|exact sJ 4 J J J J rO|exact sJ 5 J J J J rO|exact sJ 6 J J J J rO|exact sJ 7 J J J J rO|exact rl 0 J J J J rO|exact rl 1 J J J J rO|exact rl 2 J J J J rO|exact rl 3 J J J J rO|exact rl 4 J J J J rO|exact rl 5 J J J J rO|exact rl 6 J J J J rO|exact rl 7 J J J J rO|exact Wq J J rD rO J J J|exact UJ J J J J rD rO J J rE|exact sx 0 J J J J J J rE|exact sx 1 J J J J J J rE|exact sx 2 J J J J J J rE|exact sx 3 J J J J J J rE|exact sx 4 J J J J J J rE|exact sx 5 J J J J J J rE|exact sx 6 J J J J J J rE|exact sx 7 J J J J J J rE)|(apply isField;first|exact W8 J J rE|exact Ot J rD rO J rE)|(apply SV;first|exact Ki rE J J rD rE J rO|exact Pk J J J rE J J rO rO rE|exact LY J J J rE J rO rO|exact YN rE J J rD rE J rO rO|exact VQ J J J rE J rD rO rO rO)|(apply WB;first|exact YF J J rO rO|(apply Zi;first|exact SB J J rO|exact SL J J rO|exact Dl J J)|(apply YX;first|exact VG J J rO|exact PT J J rO|exact FL J J|exact XA J J J|exact Ql J J (by first|rfl|assumption)|exact Y1 J J (by first|decide|assumption)|exact CM J J|exact TK J J J|exact TL J J J rE|exact zx J J (by first|rfl|assumption)|exact Gu J J (by assumption)|exact Ey J J)|(apply Sr;first|exact UT J J rO|exact QF J J rO|exact Ff J J|exact VE J J (by first|rfl|assumption)|exact Wl J J (by first|(intro h;exact h J)|decide|assumption)|exact Gf J J|exact nF J J (by first|rfl|assumption)|exact xO J J (by assumption)|exact Da J J)|(apply QE;first|exact Ta J J rO|exact Pc J J rO|exact CI J J)|(apply Rc;first|exact QL J J rO|exact Ws J J rO|exact Fq J J)|(apply WR;first|exact Sb J J rO|exact Ut J J rO|exact Fw J J)|exact Zz J J rO rO|exact PM J J (by assumption) rO rO|exact MJ J J rO rO|exact Rt J J rO rO|exact T2 J J rO rO rO|exact PV J J J|exact Pf J J rO rO|exact WS J J rO|exact Px J J rO|exact MA J J|exact Rv J J|exact YL J J|exact Up J J rO)|exact TD J rE|exact WZ J rE|exact RZ J|exact QV J|exact Qx J|exact Fx J|(apply PB;first|exact QW J J|exact YU rE J rD|exact PH rE J (by assumption)|exact T4 J J|exact Z0 J J)|exact Pb J J|(apply isSlice;first|exact Zn rE J J rD rE J rO rO|exact Uv rE J J rD rE J rO rO|exact Zf rE J J J rD rE J rO rO rO|exact OR rE J J J rD rE J rO rO rO|exact OQ rE J J J J rD rE J rO rO rO rO|exact Yy _ J J J rK J J J rO J rO rO rO|exact OS rE J J rE J (by assumption) rO rO|exact Xt rE J J rE J (by assumption) rO rO|exact Zc J rE rE J J)|exact Qm rE rD J rO J|exact Vv J|(apply Xj;first|exact LN rE J J J rD|exact qm J J J (Vo _)|exact qm J J J (wrap_i64 rO rO)|exact qm J J J (BR rO rO)|exact qm J J J (wB rO rO)|exact qm J J J (qs rO rO)|exact qm J J J (wrapB_u32 _)|exact qm J J J (wrapB_u64 _)|exact qm J J J (wrapB_u8 _)|exact qm J J J J)|exact Vt J J J rL rE|exact OA J J J J rL rE|exact V3 J J J rO|exact WL J J):p:=h
theorem rI(h:p:=by(first|exact Ul rE|exact rH 0 J J J J|exact rH 1 J J J J|exact rH 2 J J J J|exact rH 3 J J J J|exact rH 4 J J J J|exact rH 5 J J J J|exact rH 6 J J J J|exact rH 7 J J J J|exact sn 0 J J J J J|exact sn 1 J J J J J|exact sn 2 J J J J J|exact sn 3 J J J J J|exact sn 4 J J J J J|exact sn 5 J J J J J|exact sn 6 J J J J J|exact sn 7 J J J J J)):p:=h
theorem rS(h:p:=by(first|exact Xu J rI|exact XN J rI rI|exact WO J rI rI rI|exact Vw J)):p:=h
theorem rG(h:p:=by first|exact lM|exact bq rE (lM)|exact bq rE (bq rE (lM))|exact bq rE (bq rE (bq rE (lM)))|exact bq rE (bq rE (bq rE (bq rE (lM))))|exact bq rE (bq rE (bq rE (bq rE (bq rE (lM)))))|exact bq rE (bq rE (bq rE (bq rE (bq rE (bq rE (lM))))))|exact bq rE (bq rE (bq rE (bq rE (bq rE (bq rE (bq rE (lM)))))))|exact bq rE (bq rE (bq rE (bq rE (bq rE (bq rE (bq rE (bq rE (lM))))))))|exact bq rE (bq rE (bq rE (bq rE (bq rE (bq rE (bq rE (bq rE (bq rE (lM)))))))))|exact bq rE (bq rE (bq rE (bq rE (bq rE (bq rE (bq rE (bq rE (bq rE (bq rE (lM))))))))))|exact bq rE (bq rE (bq rE (bq rE (bq rE (bq rE (bq rE (bq rE (bq rE (bq rE (bq rE (lM)))))))))))|exact bq rE (bq rE (bq rE (bq rE (bq rE (bq rE (bq rE (bq rE (bq rE (bq rE (bq rE (bq rE (lM))))))))))))|exact bq rE (bq rE (bq rE (bq rE (bq rE (bq rE (bq rE (bq rE (bq rE (bq rE (bq rE (bq rE (bq rE (lM)))))))))))))|exact bq rE (bq rE (bq rE (bq rE (bq rE (bq rE (bq rE (bq rE (bq rE (bq rE (bq rE (bq rE (bq rE (bq rE (lM))))))))))))))|exact bq rE (bq rE (bq rE (bq rE (bq rE (bq rE (bq rE (bq rE (bq rE (bq rE (bq rE (bq rE (bq rE (bq rE (bq rE (lM)))))))))))))))):p:=h
theorem rF(h:p:=by repeat(first|exact eb _|refine bk.cons _ ?_)):p:=h
structure eB(p:Prop):Prop where
 out:p
theorem fr(k:G')(h:eB G'->p:=by(intro k;(first|refine sA rS ?_|refine U0 rS ?_);exact k.out)):p:=h ⟨k⟩
theorem rn(k:G')(h:eB G'->p:=by(intro k;(repeat' (first|refine cH J J J rV ?_|(first|refine vy ?_|refine Ex.region ?_|refine bn ?_|refine Ei ?_|refine Ex.wa J ?_|refine Ex.te J ?_|refine Ex.skip ?_|refine Ex.block ?_|refine Ex.exit ?_|refine Ex.ret ?_|refine Gj ?_|refine FK ?_|refine uG ?_|refine B1 J ?_|refine DI J ?_|refine An ?_|refine Br ?_|refine BY ?_)|(apply fw;first|refine aM.GI J J J J J J ?_|refine aM.tj J J J J ?_|refine aM.Fz J J J J ?_|(refine fH J J J (λhN=>?_) (λhN=>?_)<;>try(exfalso;omega)))|(first|refine Cq J rE (λgN=>?_)|refine FY J J (λgN=>?_)|refine DE J rE rN (λgN=>?_)|(apply Df;first|refine fO _ J rK rE rN J J rE rE ?_|refine fD _ J rK J rC J J J rE ?_|refine fQ _ J rK J rE J J rE ?_|refine qZ _ J rK J rC J J J rE rE ?_|refine GP _ J J rO rO rK J rO ?_|refine uP _ J rK rE rN J rO (λcsN hcsN=>?_))|refine Gx J J J J (λgN=>?_)|refine pn J J J J (λgN=>?_)|refine FC J J J J rE J rO rO (λvN oN=>?_)|(apply yC;first|refine xL _ J rE rK rE rD J rE J (λzsN hzsN=>?_)|refine yB _ J J rK rE rD J rE J rO rO (λzsN hzsN=>?_))|refine D4 J J J J J J rO rO (λgN=>?_)|refine DB J J J J J J (λgN=>?_)|refine F1 J J J J J J J rO rO rO rO (λgN=>?_)|refine zT _ (0:UInt8) J rK J J J J J rO ?_|refine Dk _ J rK rO J J rO rE ?_|(apply yq;first|refine yU J J rE rD J rE J rE J J J rO (λvN oN=>?_)|refine yM _ J rE rK rE rD J rE J rE J J J rO (λvN oN=>?_)|refine yN _ J J J rK rO J J J rO rO rE ?_))|(refine fx J (λhN=>?_) (λhN=>?_)<;>try(exfalso;omega))));(repeat' (first|exact k.out|revert hN|revert hcsN|revert csN|revert hzsN|revert zsN|revert oN|revert vN|revert gN)))):p:=h ⟨k⟩
theorem mn(k:G')(h:eB G'->p:=by(intro k;(repeat' (first|refine fZ J J J rV ?_|refine MF ?_|(first|refine Jh J J J J ?_|refine Hf J J J ?_|refine HW J J J ?_)|(first|refine xr J J J J (λgN=>?_)|refine HQ J J J J J J rO rO (λgN=>?_)|refine KY J J J J J J J rO rO rO rO (λgN=>?_)|refine MQ J rE (λgN=>?_)|refine KJ J J (λgN=>?_)|refine M5 J J J J (λgN=>?_))|(refine cG J J J (λhN=>?_) (λhN=>?_)<;>try(exfalso;omega))|(refine bX J J J ?_;(first|(apply yC;first|refine xL _ J rE rK rE rD J rE J (λzsN hzsN=>?_)|refine yB _ J J rK rE rD J rE J rO rO (λzsN hzsN=>?_))|(apply yq;first|refine yU J J rE rD J rE J rE J J J rO (λvN oN=>?_)|refine yM _ J rE rK rE rD J rE J rE J J J rO (λvN oN=>?_)|refine yN _ J J J rK rO J J J rO rO rE ?_));refine bn ?_;refine br rF ?_)));(repeat' (first|exact k.out|revert hN|revert hcsN|revert csN|revert hzsN|revert zsN|revert oN|revert vN|revert gN)))):p:=h ⟨k⟩
theorem r1(k:G')(h:eB G'->p:=by(intro k;((first|refine cH J J J rV ?_|(first|refine vy ?_|refine Ex.region ?_|refine bn ?_|refine Ei ?_|refine Ex.wa J ?_|refine Ex.te J ?_|refine Ex.skip ?_|refine Ex.block ?_|refine Ex.exit ?_|refine Ex.ret ?_|refine Gj ?_|refine FK ?_|refine uG ?_|refine B1 J ?_|refine DI J ?_|refine An ?_|refine Br ?_|refine BY ?_)|(apply fw;first|refine aM.GI J J J J J J ?_|refine aM.tj J J J J ?_|refine aM.Fz J J J J ?_)|(first|refine Cq J rE (λgN=>?_)|refine FY J J (λgN=>?_)|refine DE J rE rN (λgN=>?_)|(apply Df;first|refine fO _ J rK rE rN J J rE rE ?_|refine fD _ J rK J rC J J J rE ?_|refine fQ _ J rK J rE J J rE ?_|refine qZ _ J rK J rC J J J rE rE ?_|refine GP _ J J rO rO rK J rO ?_|refine uP _ J rK rE rN J rO (λcsN hcsN=>?_))|refine Gx J J J J (λgN=>?_)|refine pn J J J J (λgN=>?_)|refine FC J J J J rE J rO rO (λvN oN=>?_)|(apply yC;first|refine xL _ J rE rK rE rD J rE J (λzsN hzsN=>?_)|refine yB _ J J rK rE rD J rE J rO rO (λzsN hzsN=>?_))|refine D4 J J J J J J rO rO (λgN=>?_)|refine DB J J J J J J (λgN=>?_)|refine F1 J J J J J J J rO rO rO rO (λgN=>?_)|refine zT _ (0:UInt8) J rK J J J J J rO ?_|refine Dk _ J rK rO J J rO rE ?_|(apply yq;first|refine yU J J rE rD J rE J rE J J J rO (λvN oN=>?_)|refine yM _ J rE rK rE rD J rE J rE J J J rO (λvN oN=>?_)|refine yN _ J J J rK rO J J J rO rO rE ?_))));(repeat' (first|exact k.out|revert hN|revert hcsN|revert csN|revert hzsN|revert zsN|revert oN|revert vN|revert gN));done)):p:=h ⟨k⟩
theorem m1(k:G')(h:eB G'->p:=by(intro k;((first|refine fZ J J J rV ?_|refine MF ?_|(first|refine Jh J J J J ?_|refine Hf J J J ?_|refine HW J J J ?_)|(first|refine xr J J J J (λgN=>?_)|refine HQ J J J J J J rO rO (λgN=>?_)|refine KY J J J J J J J rO rO rO rO (λgN=>?_)|refine MQ J rE (λgN=>?_)|refine KJ J J (λgN=>?_)|refine M5 J J J J (λgN=>?_))|(refine bX J J J ?_;(first|(apply yC;first|refine xL _ J rE rK rE rD J rE J (λzsN hzsN=>?_)|refine yB _ J J rK rE rD J rE J rO rO (λzsN hzsN=>?_))|(apply yq;first|refine yU J J rE rD J rE J rE J J J rO (λvN oN=>?_)|refine yM _ J rE rK rE rD J rE J rE J J J rO (λvN oN=>?_)|refine yN _ J J J rK rO J J J rO rO rE ?_));refine bn ?_;refine br rF ?_)));(repeat' (first|exact k.out|revert hN|revert hcsN|revert csN|revert hzsN|revert zsN|revert oN|revert vN|revert gN));done)):p:=h ⟨k⟩
theorem Dq{G'':Prop}(k:G')(a:G'')(h:eB G'->eB G''->p:=by(intro k a;(repeat' (first|refine cH J J J rV ?_|(first|refine vy ?_|refine Ex.region ?_|refine bn ?_|refine Ei ?_|refine Ex.wa J ?_|refine Ex.te J ?_|refine Ex.skip ?_|refine Ex.block ?_|refine Ex.exit ?_|refine Ex.ret ?_|refine Gj ?_|refine FK ?_|refine uG ?_|refine B1 J ?_|refine DI J ?_|refine An ?_|refine Br ?_|refine BY ?_)|(apply fw;first|refine aM.GI J J J J J J ?_|refine aM.tj J J J J ?_|refine aM.Fz J J J J ?_|(refine fH J J J (λhN=>?_) (λhN=>?_)<;>try(exfalso;omega)))|(first|refine Cq J rE (λgN=>?_)|refine FY J J (λgN=>?_)|refine DE J rE rN (λgN=>?_)|(apply Df;first|refine fO _ J rK rE rN J J rE rE ?_|refine fD _ J rK J rC J J J rE ?_|refine fQ _ J rK J rE J J rE ?_|refine qZ _ J rK J rC J J J rE rE ?_|refine GP _ J J rO rO rK J rO ?_|refine uP _ J rK rE rN J rO (λcsN hcsN=>?_))|refine Gx J J J J (λgN=>?_)|refine pn J J J J (λgN=>?_)|refine FC J J J J rE J rO rO (λvN oN=>?_)|(apply yC;first|refine xL _ J rE rK rE rD J rE J (λzsN hzsN=>?_)|refine yB _ J J rK rE rD J rE J rO rO (λzsN hzsN=>?_))|refine D4 J J J J J J rO rO (λgN=>?_)|refine DB J J J J J J (λgN=>?_)|refine F1 J J J J J J J rO rO rO rO (λgN=>?_)|refine zT _ (0:UInt8) J rK J J J J J rO ?_|refine Dk _ J rK rO J J rO rE ?_|(apply yq;first|refine yU J J rE rD J rE J rE J J J rO (λvN oN=>?_)|refine yM _ J rE rK rE rD J rE J rE J J J rO (λvN oN=>?_)|refine yN _ J J J rK rO J J J rO rO rE ?_))|(refine fx J (λhN=>?_) (λhN=>?_)<;>try(exfalso;omega))));(repeat' (first|exact k.out|exact a.out|revert hN|revert hcsN|revert csN|revert hzsN|revert zsN|revert oN|revert vN|revert gN)))):p:=h ⟨k⟩ ⟨a⟩
end
section
theorem SU{P:Program}{t:TypeId}{f0 b:Field}(i:P.underlying t=some (.struct #[f0,b]))(f:f0.type=e/\f0.offset=0/\f0.name≠ "_")(g:b.type=e/\b.offset=1/\b.name≠ "_")(c:P.underlying e=some (.int .i64))(w:World)(a:Bool)(r n:Int):
  (Instr.checkKey a 10000 t (.agg #[.int .i64 r,.int .i64 n])).run P w=.ok () w:=by
 have h:cR P e=some false:=by unfold cR;rw[c]
 have j:∀m,(∀(v:Int),(Instr.checkKey a m e (.int .i64 v)).run P w=.ok () w)->(Instr.checkKey a (m+1) t (.agg #[.int .i64 r,.int .i64 n])).run P w=.ok () w:=λm hi=>by simp[Instr.checkKey,cX i,part,sM w h,f,g,hi]
 exact j 9999 λv=>MapKept.run_checkKey (d:=.int .i64) (k:=.int .i64 v) c rfl a 9998
class vf(P:outParam Program)(t:TypeId)(κ:outParam Type)[ab κ] extends pV P t κ where
 check:∀(w:World) (em:Bool) (a:κ),(Instr.checkKey em 10000 t (.agg (ab.cells a).toArray)).run P w=.ok () w
@[reducible] def fc{α:Type}[ab α](a:α):Value:=.agg (ab.cells a).toArray
section
variable{κ β:Type}[ab κ][ab β]
def jU(g:Nat)(m:List (κ×β)):aa:=λh=>∃a b,h=aU.one g (.map a b)/\a.toList.map (λe=>(e.key,e.val))=m.map λp=>(fc p.1,fc p.2)
def jO[DecidableEq κ](k:κ):List (κ×β)->Nat->Option (Nat×β)
 |[],_=>none
 |p::m,i=>if k=p.1 then some (i,p.2)else jO k m (i+1)
theorem SK(n:Nat){l:gY}{v:Value}(h:l.ok v=true):Instr.sameBits n v v=true:=by
 cases l<;>cases v<;>simp[gY.ok]at h
 ·cases n<;>simp[Instr.sameBits]
 ·cases n<;>simp[Instr.sameBits]
 ·rename_i a;exact MapKept.sameBits_self (d:=.string) (k:=.string a) trivial n
theorem Ig:∀{b:List gY} {vs:List Value},fY b vs=true->∀v∈vs,∃l:gY,l.ok v=true
 |[],[],_,v,a=>by simp at a
 |l::b,u::vs,h,v,a=>by
  simp[fY]at h;rcases gA.1 a with rfl|a
  ·exact⟨l,h.1⟩
  ·exact Ig h.2 v a
 |[],_::_,h,_,_=>by simp[fY]at h
 |_::_,[],h,_,_=>by simp[fY]at h
theorem Is{α:Type}(p:α->α->Bool):∀(l:List α),(∀x∈l,p x x=true)->((l.zip l).all λ(x,y)=>p x y)=true
 |[],_=>rfl
 |a::l,h=>by simp only[List.zip_cons_cons,vo,dT];exact⟨h a (fP ..),Is p l λx hx=>h x (eu _ hx)⟩
variable{P:Program}{kt:TypeId}
theorem Z3[K:vf P kt κ](k:κ)(w:World):(Instr.keyThatStays (fc k) (fc k)).run P w=.ok (fc k) w:=by
 have h:Instr.sameBits 10000 (fc k) (fc k)=true:=by show Instr.sameBits (9999+1) (.agg _) (.agg _)=true;simp only[Instr.sameBits,beq_self_eq_true,pK];refine Is (λx y=>Instr.sameBits 9999 x y) _ λx hx=>?_;obtain⟨l,a⟩:=Ig (K.ok k) x hx;exact SK _ a
 simp[Instr.keyThatStays,h]
theorem JK[K:vf P kt κ][DecidableEq κ](k:κ)(w:World):∀(a:List MapEntry) (m:List (κ×β)) (i:Nat),a.map (λe=>(e.key,e.val))=m.map (λp=>(fc p.1,fc p.2))->
  (Instr.findAsking kt (fc k) a i).run P w=.ok ((jO k m i).map λq=>(q.1,fc q.2)) w
 |[],[],i,_=>by simp[Instr.findAsking,jO]
 |e::a,p::m,i,h=>by
  simp only[kq,jH,kR]at h;obtain⟨⟨d,f⟩,g⟩:=h;have b:=Bc (P:=P) (t:=kt) k p.1 w;unfold Instr.findAsking;rw[d];by_cases c:k=p.1
  ·rw[bf c]at b;rw[show jO k (p::m) i=some (i,p.2)from an c];simp[b,f]
  ·rw[bd c]at b;rw[show jO k (p::m) i=jO k m (i+1)from ai c];simp[b,JK k w a m (i+1) g]
 |[],_::_,_,h=>by simp at h
 |_::_,[],_,h=>by simp at h
theorem Fa[K:vf P kt κ][DecidableEq κ](k:κ)(w:World)(a:List MapEntry)(m:List (κ×β))(h:a.map (λe=>(e.key,e.val))=m.map (λp=>(fc p.1,fc p.2))):
  (Instr.findKey kt (fc k) a).run P w=.ok ((jO k m 0).map λq=>(q.1,fc q.2)) w:=by
 have b:=K.agg;unfold cR at b;cases hu:P.underlying kt with
 |none=>rw[hu]at b;cases b
 |some d=>
  rw[hu]at b
  match a,m,h with
  |[],[],_=>simp[Instr.findKey,cX hu,Instr.findNow,jO]
  |e::a,p::m,h=>
   have f:=JK (P:=P) (kt:=kt) k w (e::a) (p::m) 0 h;have c:Instr.findNow d (fc k) (e::a) 0=none:=by cases d<;>simp at b<;>simp[Instr.findNow,Instr.sameNow]
   simp only[Instr.findKey,fe,cX hu,fE,c,f]
  |[],_::_,h=>simp at h
  |_::_,[],h=>simp at h
end
section
variable{κ β:Type}[ab κ][ab β]{L:List aa}{F:aU}{w:World}
theorem FU{i:Nat}{m:List (κ×β)}(hi:L[i]?=some (jU g m))(s:aN w L F):∃a b,w.heap[g]?=some (.map a b)/\a.toList.map (λe=>(e.key,e.val))=m.map λp=>(fc p.1,fc p.2):=by obtain⟨h,⟨a,b,rfl,c⟩,d,f⟩:=vW hi s;exact⟨a,b,ue f g _ (nz g _),c⟩
theorem map_set{i:Nat}{m a:List (κ×β)}{b es':Array MapEntry}{clock':Nat}(hi:L[i]?=some (jU g m))(f:w.heap[g]?=some (.map b k))(c:es'.toList.map (λe=>(e.key,e.val))=a.map λp=>(fc p.1,fc p.2))(s:aN w L F):
  aN {w with heap:=w.heap.setIfInBounds g (.map es' clock')} (L.set i (jU g a)) F:=by
 obtain⟨h,⟨r,q,rfl,_⟩,d,o⟩:=vW hi s;have j:g<w.heap.size:=(gR.1 f).1;refine Dw (o':=.map es' clock') (iA.1 hi).1 d o ⟨es',clock',rfl,c⟩ (λn l=>?_) ?_
 ·show(w.heap.setIfInBounds g _)[n]?=_;rw[Ay (ur l)]
 ·show(w.heap.setIfInBounds g _)[g]?=_;simp[j]
end
section
variable{P:Program}{n:Nat}{ops:Array Oper}{Q:bx}{f:Nat->Value}{L:List aa}{rest:List Oper}{d:Nat}{ty:TypeId}{pos:String}{af:Array Edge}
variable{κ β:Type}[ab κ][ab β]
theorem TB(κ β:Type)[ab κ][ab β]{t:TypeId}(hd:Nat.blt d n=true)(h:∀g,aM P n ops rest Q (aZ f d (.map (some g))) (jU g ([]:List (κ×β))::L)):aM P n ops (⟨some d,.makeMap t none,ty,pos,af,none⟩::rest) Q f L:=by
 refine lr rfl hd (R:=λv L'=>∃g,v=.map (some g)/\L'=jU g ([]:List (κ×β))::L) (λF w s=>?_) ?_
 ·refine⟨_,w.alloc (.map #[] 0),_,.inl (by simp[execOp,Instr.makeMap]),yJ (gO w) _,qx _ s (A:=jU w.heap.size ([]:List (κ×β))) ⟨#[],0,rfl,rfl⟩,w.heap.size,rfl,rfl⟩
 ·rintro v L' ⟨g,rfl,rfl⟩;exact h g
variable[DecidableEq κ]{t kt et:TypeId}[K:vf P kt κ]
theorem KU[Z:hQ P et β]{i:Nat}{m:List (κ×β)}{k:κ}{w:World}{F:aU}(f:P.underlying t=some (.map kt et))(a:((P.info? et).bind (·.zero))=some (fc Z.z))(hi:L[i]?=some (jU g m))(s:aN w L F):
  (Instr.lookup t (.map (some g)) (fc k) true).run P w=.ok (.tuple #[match jO k m 0 with|some q=>fc q.2|none=>fc Z.z,.bool (jO k m 0).isSome]) w:=by
 obtain⟨c,l,e,h⟩:=FU hi s;have b:=Fa (P:=P) (kt:=kt) k w c.toList m h;have d:=K.check w c.isEmpty k;have j:(zeroValue et).run P w=.ok (fc Z.z) w:=by
  cases hii:P.info? et with
  |none=>rw[hii]at a;cases a
  |some inf=>rw[hii]at a;have a:inf.zero=some (fc Z.z):=a;simp[zeroValue,typeInfo,hii,a]
 cases hp:jO k m 0 with
 |none=>
  rw[hp]at b;simp[Instr.lookup,cX f,nZ e,d,b,j]
 |some q=>rw[hp]at b;simp[Instr.lookup,cX f,nZ e,d,b]
theorem vz[Z:hQ P et β](i:Nat){x y:Operand}{j:Nat}{m:List (κ×β)}{k:κ}{b:β}(hd:Nat.blt d n=true)(hx:aH f x=.map (some g))(hy:aH f y=.agg (ab.cells k).toArray)(hi:L[i]?=some (jU g m))(c:P.underlying t=some (.map kt et))(e:((P.info? et).bind (·.zero))=some (fc Z.z))
  (a:jO k m 0=some (j,b))(h:aM P n ops rest Q (aZ f d (.tuple #[.agg (ab.cells b).toArray,.bool true])) L):aM P n ops (⟨some d,.lookup t x y true,ty,pos,af,none⟩::rest) Q f L:=
 cH rfl rfl hd (λF w s=>by have:=KU (P:=P) (k:=k) c e hi s;rw[a]at this;simp only[fc]at this;simp[execOp,hx,hy,this]) h
theorem Ai[Z:hQ P et β](i:Nat){x y:Operand}{m:List (κ×β)}{k:κ}(hd:Nat.blt d n=true)(hx:aH f x=.map (some g))(hy:aH f y=.agg (ab.cells k).toArray)(hi:L[i]?=some (jU g m))(b:P.underlying t=some (.map kt et))(c:((P.info? et).bind (·.zero))=some (fc Z.z))
  (a:jO k m 0=none)(h:aM P n ops rest Q (aZ f d (.tuple #[.agg (ab.cells Z.z).toArray,.bool false])) L):aM P n ops (⟨some d,.lookup t x y true,ty,pos,af,none⟩::rest) Q f L:=
 cH rfl rfl hd (λF w s=>by have:=KU (P:=P) (k:=k) b c hi s;rw[a]at this;simp only[fc]at this;simp[execOp,hx,hy,this]) h
theorem Td(i:Nat){x y:Operand}{m:List (κ×β)}{k:κ}{b:β}(hx:aH f x=.map (some g))(hy:aH f y=.agg (ab.cells k).toArray)(A:aH f z=.agg (ab.cells b).toArray)(hi:L[i]?=some (jU g m))(u:P.underlying t=some (.map kt et))
  (r:jO k m 0=none)(p:L.set i (jU g (m++[(k,b)]))=L')(h:aM P n ops rest Q f L'):aM P n ops (⟨none,.mapUpdate t x y z,ty,pos,af,none⟩::rest) Q f L:=by
 subst p;refine lr rfl rfl (R:=λ_ c=>c=L.set i (jU g (m++[(k,b)]))) (λF w s=>?_) (λv c e=>by subst e;exact h);obtain⟨j,d,a,l⟩:=FU hi s;have o:=Fa (P:=P) (kt:=kt) k w j.toList m l;have q:=K.check w false k;rw[r]at o;refine⟨undef,_,_,.inr ⟨?_,rfl⟩,?_,map_set (es':=j.push {key:=fc k,val:=fc b,born:=d}) (clock':=d+1) hi a (by simp[l]) s,rfl⟩
 ·simp[execOp,hx,hy,A,Instr.mapUpdate,cX u,nZ a,q,o,rW _ a]
 ·exact⟨rfl,rfl,rfl⟩
theorem tF{α γ:Type}(φ:α->γ):∀(l:List α) (i:Nat),(l.eraseIdx i).map φ=(l.map φ).eraseIdx i
 |[],i=>by simp
 |a::l,0=>by simp
 |a::l,i+1=>by simp[tF φ l i]
theorem Ud(i:Nat){x y:Operand}{j:Nat}{m:List (κ×β)}{k:κ}{b:β}(hx:aH f x=.map (some g))(hy:aH f y=.agg (ab.cells k).toArray)(hi:L[i]?=some (jU g m))(A:ts[0]?=some t)(z:P.underlying t=some (.map kt et))
  (u:jO k m 0=some (j,b))(q:L.set i (jU g (m.eraseIdx j))=L')(h:aM P n ops rest Q f L'):aM P n ops (⟨none,.call ⟨.builtin .delete,#[x,y],ts⟩,ty,pos,af,none⟩::rest) Q f L:=by
 subst q;refine lr rfl rfl (R:=λ_ d=>d=L.set i (jU g (m.eraseIdx j))) (λF w s=>?_) (λv d e=>by subst e;exact h);obtain⟨a,p,c,l⟩:=FU hi s;have o:=Fa (P:=P) (kt:=kt) k w a.toList m l;have r:=K.check w a.isEmpty k;rw[u]at o;refine⟨.tuple #[],_,_,.inl ?_,?_,map_set (es':=a.eraseIdxIfInBounds j) (clock':=p) hi c (by rw[Array.toList_eraseIdxIfInBounds,tF,l,tF]) s,rfl⟩
 ·simp[execOp,resolve,invoke,builtin,hx,hy,Builtin.delete_,A,cX z,nZ c,r,o,rW _ c]
 ·exact⟨rfl,rfl,rfl⟩
end
end
section
open Go.ChangeShapes Go.WideShapes Go.ChangeAt Go.RowKit
theorem XP{n:Int}(h:(Lit.int .i64 n).wf=true):cD n:=by have:=bounds_i64 h;unfold cD;omega
section
variable{H:Type}{enc:TypeId×Value->H}{P:Program}{w:World}{base:Nat}{spare:Nat->Bool}{held:Bool}{fuel:Nat}{t:TypeId}{cs:List Value}{x:DataW H×List MemPlace}
end
theorem Below.trodAll{H:Type}{enc:TypeId×Value->H}{P:Program}(f:laidOutB P=true){W c:World}(e:Kp W c):
  ∀(a:List TypeId) (vs:List Value) (ds:List (DataW H)) (ps:List MemPlace),(∀t∈a,P.readableRec t=true/\t<P.types.size)->(∀x∈ps,x.block<W.heap.size)->
   DataW.TrodAll enc P W 0 (λ_=>true) true a vs ds ps->DataW.TrodAll enc P c 0 (λb=>decide (b<W.heap.size)) true a vs ds ps
 |[],vs,ds,ps,_,_,h=>by
  obtain⟨rfl,rfl,rfl⟩:=trodAll_nil h;rfl
 |t::a,vs,ds,ps,hr,hlt,h=>by
  obtain⟨v,l,d,g,p,q,rfl,rfl,rfl,i,j⟩:=trodAll_cons h;refine⟨p,q,?_,?_,rfl⟩
  ·exact Below.trod f (hr t (by simp)).1 (hr t (by simp)).2 i e (λx hx=>hlt x (by simp[hx]))
  ·exact Below.trodAll f e a l g q (λt k=>hr t (by simp[k])) (λx hx=>hlt x (by simp[hx])) j
theorem G2{H:Type}{enc:TypeId×Value->H}{P:Program}{w:World}{base:Nat}{spare:Nat->Bool}{held:Bool}:
  ∀(a:List TypeId) (vs:List Value) (ds:List (DataW H)) (ps:List MemPlace),DataW.TrodAll enc P w base spare held a vs ds ps->∀x∈ps,x.block<w.heap.size
 |[],vs,ds,ps,h=>by
  obtain⟨rfl,rfl,rfl⟩:=trodAll_nil h;simp
 |t::a,vs,ds,ps,h=>by
  obtain⟨v,f,d,b,p,q,rfl,rfl,rfl,⟨m,c⟩,e⟩:=trodAll_cons h;intro x hx;rcases ct.1 hx with hx|hx
  ·exact DataW.trod_lt m _ _ _ c x hx
  ·exact G2 a f b q e x hx
theorem JC{H:Type}{enc:TypeId×Value->H}{P:Program}{w:World}{base:Nat}{spare:Nat->Bool}{held:Bool}:
  ∀(a:List TypeId) (vs:List Value) (ds:List (DataW H)) (ps:List MemPlace),DataW.TrodAll enc P w base spare held a vs ds ps->ds.length=a.length
 |[],vs,ds,ps,h=>by
  obtain⟨rfl,rfl,rfl⟩:=trodAll_nil h;rfl
 |t::a,vs,ds,ps,h=>by obtain⟨v,e,d,b,p,q,rfl,rfl,rfl,f,c⟩:=trodAll_cons h;simp[JC a e b q c]
structure DH{H:Type}(enc:TypeId×Value->H)(P:Program)(fn:Func)(W:World)(base:Nat)(args:Array Value)(ds:List (DataW H))(ps:List MemPlace):Prop where
 ok:∀(j:Nat) t v,fn.params[j]?=some t->args[j]?=some v->Value.okWide P W .any base t v
 trod:DataW.TrodAll enc P W 0 (λ_=>true) true fn.params.toList args.toList ds ps
 sized:(DataW.weightsEach P fn.params.toList ds).all (·<=reachBytes)=true
theorem Lh{C:Checked}{f:FuncId}{fn:Func}{s:ChangeSpec}{tb:TypeId}(L:ownKnob C.prog.godebug=none)(I:C.prog.inits.idxOf? f=none)
  (u:C.prog.funcs[f]?=some fn)(A:laidOutB C.prog=true)(x:fn.resultTypes=#[tb])(o:C.prog.underlying tb=some .bool)(j:s.vars=[])
  (v:∀t∈fn.params.toList,C.prog.readableRec t=true/\t<C.prog.types.size)
  (d:∀(H:Type) (ds:List (DataW H)),ds.length=fn.params.toList.length->s.fn H ds={results:=[.lit (.bool true)],args:=ds})
  (os:Os)(M:os.Started)(H:Type)(enc:TypeId×Value->H)
  (Q:∃(w:World) (b:Tape) (i:Input),w.os=os/\(w.forCall b i).Shaped C.prog/\i.vars=[]/\Input.okWide C.prog (w.forCall b i) .any w.heap.size f i/\
   s.pre6 enc C.prog fn [] false (w.forCall b i).memory i.args/\Assume.holds {} C.prog (lone (Frame.enter C.prog f i.args .normal) [] (w.forCall b i)))
  (P:∀(W:World) (base:Nat) (args:Array Value) (ds:List (DataW H)) (ps:List MemPlace),DH enc C.prog fn W base args ds ps->Calls C.prog f args W (zq W)):
  ReturnsInHanded {} C os f .any (s.pre6 enc C.prog fn [] false) (s.post enc C.prog fn false true false false):=by
 refine returnsInHanded_of_change_sized L M I u Q ?_;intro W base args ds gs R z k _ m _;have n:=k;obtain⟨p,q,a,c,rfl,S,V⟩:=k;rw[j]at c;obtain⟨rfl,rfl⟩:gs=[]/\q=[]:=by
  cases gs with
  |nil=>exact⟨rfl,c⟩
  |cons g gs=>exact c.elim
 have y:(DataW.weightsEach C.prog fn.params.toList ds).all (·<=reachBytes)=true:=by
  have e:s.plain.varTypes C.prog=[]:=by unfold DataSpec.varTypes;simp[ChangeSpec.plain,j]
  rw[e]at m;simpa using m
 have F:=G2 _ _ _ _ a;refine(P W base args ds p ⟨z,a,y⟩).mono λe W' ⟨r,l⟩=>?_;subst r;have hd:=JC _ _ _ _ a;refine⟨_,rfl,ds,[],p++[],[]++[],p,[],n,?_,?_,?_,Below.frame l _,λh=>by cases h⟩
 ·rw[ck,d H ds hd,x];exact⟨[],[],shut_bool o true,rfl,rfl⟩
 ·rw[ck,d H ds hd];exact Below.trodAll A l _ _ _ _ v F a
 ·rw[ck,d H ds hd,j];rfl
end
section
open Go.ChangeShapes Go.WideShapes Go.ChangeAt Go.RowKit
def lS{H:Type}(enc:TypeId×Value->H)(P:Program)(w:World)(t:TypeId)(cs:List Value):Prop:=
 ∃fuel d ps,DataW.trod enc P w 0 (λ_=>true) true fuel t cs=some (d,ps)/\(d.weights P t).all (·<=reachBytes)=true
section
variable{H:Type}{enc:TypeId×Value->H}{P:Program}{w:World}{t:TypeId}{cs:List Value}
theorem NL{k:IntKind}(e:P.underlying t=some (.int k))(h:lS enc P w t cs):∃n,cs=[.int k n]/\(Lit.int k n).wf=true:=by obtain⟨fuel,d,ps,c,_⟩:=h;obtain⟨n,a,_,b⟩:=DataW.trod_int e c;exact⟨n,a,b⟩
theorem UD(e:P.underlying t=some .string)(h:lS enc P w t cs):∃l:List UInt8,cs=[.string (S l)]/\l.length<=reachBytes:=by obtain⟨fuel,d,ps,c,f⟩:=h;obtain⟨s,b,a,_⟩:=DataW.trod_string e c;simp only[kR]at a;obtain⟨rfl,_⟩:=a;refine⟨s.data.toList,by rw[b,<-Ip],?_⟩;simpa[DataW.weights]using f
theorem HY:∀{a:List TypeId} {ds:List (DataW H)} {i:Nat} {t:TypeId} {d:DataW H},(DataW.weightsEach P a ds).all (·<=reachBytes)=true->a[i]?=some t->ds[i]?=some d->(d.weights P t).all (·<=reachBytes)=true
 |[],_,_,_,_,_,h,_=>by simp at h
 |_::_,[],_,_,_,_,_,h=>by simp at h
 |t::a,d::ds,0,_,_,hw,h1,h2=>by
  simp at h1 h2;subst h1;subst h2;rw[DataW.weightsEach,ta,dT]at hw;exact hw.1
 |t::a,d::ds,i+1,_,_,hw,h1,h2=>by rw[DataW.weightsEach,ta,dT]at hw;exact HY hw.2 (by simpa using h1) (by simpa using h2)
theorem Oi{e:TypeId}:∀{ds:List (DataW H)} {d:DataW H},(DataW.weightsAll P e ds).all (·<=reachBytes)=true->d∈ds->(d.weights P e).all (·<=reachBytes)=true
 |[],_,_,h=>by cases h
 |d::ds,_,hw,h=>by
  rw[DataW.weightsAll,ta,dT]at hw;rcases gA.1 h with e|e
  ·subst e;exact hw.1
  ·exact Oi hw.2 e
theorem Ej{fs:Array Field}(c:P.underlying t=some (.struct fs))(h:lS enc P w t cs):cs.length=P.cellsOf t/\∀(i:Nat) (f:Field),fs[i]?=some f->lS enc P w f.type ((cs.drop f.offset).take (P.cellsOf f.type)):=by
 obtain⟨fuel,d,ps,k,e⟩:=h;obtain⟨xs,n,rfl,hx,j,l,g⟩:=DataW.trod_struct c k;simp only[kR]at hx;obtain⟨rfl,_⟩:=hx;refine⟨j,λi f hi=>?_⟩;have a:=g i f hi;have b:i<xs.length:=by rw[l];exact(gR.1 hi).1
 rw[gV b]at a;refine⟨n,xs[i].1,xs[i].2,a,?_⟩;simp only[DataW.weights,c]at e;refine HY e (i:=i) ?_ ?_
 ·rw[kz];have:fs.toList[i]?=some f:=by simpa using hi
  rw[this];rfl
 ·rw[kz,gV b];rfl
theorem Vq{b:Nat}{a:Addr}{n:Nat}{cs:List Value}(h:w.cells? b a n=some cs):cs.length=n/\∀j v,cs[j]?=some v->w.cell? (a.add j)=some v:=by
 unfold World.cells? at h;split at h
 ·have c:=mapM_some_length h;simp at c;refine⟨c,λj v d=>?_⟩;have e:j<n:=by rw[<-c];exact(iA.1 d).1
  have:=mapM_some_get h j j (by simp[e]);rw[this,d]
 ·cases h
theorem Q0(m:P.underlying t=some (.slice e))(h:lS enc P w t cs):cs=[.slice none 0 0]\/∃a c f,cs=[.slice (some a) c f]/\c<=f/\f<=maxLen/\c*P.bytesOf e<=reachBytes/\
  ∀i,i<c->∃g,g.length=P.cellsOf e/\(∀j v,g[j]?=some v->w.cell? (a.add (i*P.cellsOf e+j))=some v)/\lS enc P w e g:=by
 obtain⟨fuel,d,ps,y,o⟩:=h;rcases DataW.trod_slice m y with⟨b,_⟩|⟨a,c,f,k,rest,n,rfl,rfl,hx,_,x,q,z,r,_,_⟩
 ·exact .inl b
 ·right;simp only[kR]at hx;obtain⟨rfl,_⟩:=hx;simp only[DataW.weights,m,vo,dT,ta,bC,kZ]at o;refine⟨a,c,f,rfl,x,q,?_,λi hi=>?_⟩
  ·have:c*P.bytesOf e<=(k.length+rest.length)*P.bytesOf e:=iW _ U;omega
  ·have b:=r i hi;have l:i<k.length:=U;rw[gV l]at b;cases hc:w.cells? 0 (a.add (i*P.cellsOf e)) (P.cellsOf e)with
   |none=>rw[hc]at b;cases b
   |some g=>rw[hc]at b;simp only[Fg]at b;obtain⟨u,p⟩:=Vq hc;refine⟨g,u,λj v s=>by rw[<-we];exact p j v s,n,k[i].1,k[i].2,b,?_⟩;exact Oi o.2.1 (fA.2 ⟨k[i],bT l,rfl⟩)
theorem QH{α:Type}[ab α](Good:α->Prop)(S:P.underlying t=some (.slice e))(R:P.cellsOf e=ab.sz α)(C:∀d,lS enc P w e d->∃a:α,d=ab.cells a/\Good a)(h:lS enc P w t cs):
  ∃v,∃xs:List α,cs=[v]/\v.oneCell'=true/\Sl w v (ab.sz α) xs.length (cellsOf xs)/\(∀a∈xs,Good a)/\xs.length*P.bytesOf e<=reachBytes:=by
 rcases Q0 S h with rfl|⟨a,n,q,rfl,I,A,z,F⟩
 ·exact⟨_,[],rfl,rfl,Sl.nil w _,by simp,by simp⟩
 ·have V:∀i,i<n->∃x:α,Good x/\∀j v,(ab.cells x)[j]?=some v->w.cell? (a.add (i*ab.sz α+j))=some v:=λi hi=>by obtain⟨d,_,k,M⟩:=F i hi;obtain⟨x,rfl,l⟩:=C d M;exact⟨x,l,by rw[<-R];exact k⟩
  have p:∀m,m<=n->∃xs:List α,xs.length=m/\(∀x∈xs,Good x)/\∀i (hi:i<xs.length) j v,(ab.cells (xs[i]'hi))[j]?=some v->w.cell? (a.add (i*ab.sz α+j))=some v:=by
   intro m
   induction m with
   |zero=>intro _;exact⟨[],rfl,by simp,λi hi=>by simp at hi⟩
   |succ m ih=>
    intro hm;obtain⟨xs,c,f,g⟩:=ih U;obtain⟨x,l,k⟩:=V m U;refine⟨xs++[x],by simp[c],?_,λi hi j v b=>?_⟩
    ·intro y hy;rcases ct.1 hy with h|h
     ·exact f y h
     ·simp at h;subst h;exact l
    ·by_cases o:i<xs.length
     ·rw[yg o]at b;exact g i o j v b
     ·have:i=m:=by simp at hi;omega
      subst this;rw[yR U]at b;simp at b;exact k j v b
  obtain⟨xs,c,f,g⟩:=p n (bj _);refine⟨_,xs,rfl,rfl,⟨cN xs,some a,q,by rw[c],by rw[c];exact I,A,(λh=>by cases h),λW s j u b=>?_⟩,f,by rw[c];exact z⟩;cases s;have Q:0<ab.sz α:=ab.pos;have H:j<xs.length*ab.sz α:=by rw[<-cN];exact(iA.1 b).1
  have hi:j/ab.sz α<xs.length:=yA (by rw[pE];exact H);have L:j%ab.sz α<ab.sz α:=zk _ Q;have r:j=j/ab.sz α*ab.sz α+j%ab.sz α:=by rw[pE];exact(Nat.div_add_mod _ _).symm
  rw[r]at b⊢
  rw[AN hi L]at b;exact g _ hi _ _ b
theorem ns(a:P.underlying t=some (.int .i64))(h:lS enc P w t cs):∃n:Int,cs=[.int .i64 n]/\cD n:=by obtain⟨n,rfl,b⟩:=NL a h;exact⟨n,rfl,XP b⟩
theorem wm{r:Reach}{v:Value}{d:DataW H}{p:List MemPlace}(c:Value.okWide P w r k t v)(h:DataW.Trod enc P w 0 (λ_=>true) true t v d p)(b:(d.weights P t).all (·<=reachBytes)=true):lS enc P w t v.cells.toList:=by obtain⟨fuel,a⟩:=h;exact⟨fuel,d,p,a,b⟩
theorem zA{r:Reach}{v:Value}(a:cR P t=some true)(b:Value.okWide P w r k t v):v=.agg v.cells.toList.toArray:=by
 unfold cR at a;unfold Value.okWide at b;cases hu:P.underlying t with
 |none=>rw[hu]at a;cases a
 |some x=>rw[hu]at a b;cases x<;>simp at a<;>(obtain⟨cs,rfl,_⟩:=b;simp[Value.cells])
theorem Ly{r:Reach}{v:Value}(a:cR P t=some false)(b:Value.okWide P w r k t v)(h:v.cells.toList=[u])(c:u.oneCell'=true):v=u:=by
 cases v with
 |agg cs=>
  exfalso;unfold cR at a;unfold Value.okWide at b;cases hu:P.underlying t with
  |none=>rw[hu]at a;cases a
  |some x=>
   rw[hu]at a b;cases x<;>simp at a<;>(simp[Cell.okWide,Cell.ok,hu]at b)
 |_=>simpa[Value.cells]using h
end
theorem HS{P:Program}{a:List TypeId}(h:(a.all λt=>P.readableRec t&&decide (t<P.types.size))=true):∀t∈a,P.readableRec t=true/\t<P.types.size:=by intro t b;have:=kW.1 h t b;simpa using this
theorem uY{H:Type}{P:Program}{t:TypeId}{a:List TypeId}{d:DataW H}{ds:List (DataW H)}(h:(DataW.weightsEach P (t::a) (d::ds)).all (·<=reachBytes)=true):(d.weights P t).all (·<=reachBytes)=true/\(DataW.weightsEach P a ds).all (·<=reachBytes)=true:=by rw[DataW.weightsEach,ta,dT]at h;exact h
end
theorem rQ(h:p:=by kernel_rfl):p:=h
abbrev O1(v:Value):Prop:=v.oneCell'=true
theorem mw(k:G')(h:eB G'->p:=by(intro k;refine bn ?_;refine br rF ?_;refine mn ?_;exact k.out)):p:=h ⟨k⟩
theorem bh(h:G':=by(refine rn ?_;intros;refine fr ?_;exact⟨_,rB,rfl,rfl⟩)):G':=h
theorem fX(h:G':=by(refine rn ?_;intros;refine fr ?_;exact⟨_,rP,rfl,rfl⟩)):G':=h
theorem yl(h:G':=by(refine rn ?_;intros;refine fr ?_;exact⟨_,rB,by assumption,rfl⟩)):G':=h
theorem qi(h:G':=by(refine rn ?_;intros;refine fr ?_;exact⟨_,rB,rfl⟩)):G':=h
theorem re4(h:G':=by(refine rn ?_;intros;refine fr ?_;exact⟨_,rP,rfl⟩)):G':=h
theorem re5(h:G':=by(refine rn ?_;intros;refine fr ?_;exact⟨_,rB,⟨rfl,rfl⟩,rfl⟩)):G':=h
theorem re6(h:G':=by(refine rn ?_;intros;refine fr ?_;exact⟨_,rB,by assumption,rfl,rfl⟩)):G':=h
theorem Z6(h:G':=by(refine rn ?_;intros;refine fr ?_;exact⟨_,rB,rfl,rfl,rfl⟩)):G':=h
theorem Lc(h:G':=by(refine rn ?_;intros;refine fr ?_;exact⟨_,rP,_,rfl,rfl⟩)):G':=h
theorem yo(h:G':=by(refine rn ?_;intros;refine fr ?_;exact⟨_,rB,_,rfl,rfl⟩)):G':=h
theorem TJ(k:G')(h:eB G'->p:=by(intro k;refine bU 4 _ rfl (by kernel_rfl) (eb _) ?_;refine mn ?_;exact k.out)):p:=h ⟨k⟩
theorem Dd(k:G')(h:eB G'->p:=by(intro k;refine bU 5 _ rfl (by kernel_rfl) (eb _) ?_;refine mn ?_;exact k.out)):p:=h ⟨k⟩
theorem wk(k:G')(h:eB G'->p:=by(intro k;refine bU 6 _ rfl (by kernel_rfl) (eb _) ?_;refine mn ?_;exact k.out)):p:=h ⟨k⟩
theorem pS(k:G')(h:eB G'->p:=by(intro k;refine bU 7 _ rfl (by kernel_rfl) (eb _) ?_;refine mn ?_;exact k.out)):p:=h ⟨k⟩
theorem ln(k:G')(h:eB G'->p:=by(intro k;refine bU 8 _ rfl (by kernel_rfl) (eb _) ?_;refine mn ?_;exact k.out)):p:=h ⟨k⟩
theorem oE(k:G')(h:eB G'->p:=by(intro k;refine bU 9 _ rfl (by kernel_rfl) (eb _) ?_;refine mn ?_;exact k.out)):p:=h ⟨k⟩
theorem ji(k:G')(h:eB G'->p:=by(intro k;refine bU 10 _ rfl (by kernel_rfl) (eb _) ?_;refine mn ?_;exact k.out)):p:=h ⟨k⟩
theorem sc(k:G')(h:eB G'->p:=by(intro k;refine bU 11 _ rfl (by kernel_rfl) (eb _) ?_;refine mn ?_;exact k.out)):p:=h ⟨k⟩
theorem mX(k:G')(h:eB G'->p:=by(intro k;refine bU 12 _ rfl (by kernel_rfl) (eb _) ?_;refine mn ?_;exact k.out)):p:=h ⟨k⟩
theorem tR(k:G')(h:eB G'->p:=by(intro k;refine bU 13 _ rfl (by kernel_rfl) (eb _) ?_;refine mn ?_;exact k.out)):p:=h ⟨k⟩
theorem zL(k:G')(h:eB G'->p:=by(intro k;refine bU 14 _ rfl (by kernel_rfl) (eb _) ?_;refine mn ?_;exact k.out)):p:=h ⟨k⟩
theorem Uz(k:G')(h:eB G'->p:=by(intro k;refine bU 15 _ rfl (by kernel_rfl) (eb _) ?_;refine mn ?_;exact k.out)):p:=h ⟨k⟩
theorem tx(k:G')(h:eB G'->p:=by(intro k;refine bU 16 _ rfl (by kernel_rfl) (eb _) ?_;refine mn ?_;exact k.out)):p:=h ⟨k⟩
theorem pj(k:G')(h:eB G'->p:=by(intro k;refine bU 17 _ rfl (by kernel_rfl) (eb _) ?_;refine mn ?_;exact k.out)):p:=h ⟨k⟩
theorem uN(k:G')(h:eB G'->p:=by(intro k;refine bU 18 _ rfl (by kernel_rfl) (eb _) ?_;refine mn ?_;exact k.out)):p:=h ⟨k⟩
theorem nP(k:G')(h:eB G'->p:=by(intro k;refine bU 19 _ rfl (by kernel_rfl) (eb _) ?_;refine mn ?_;exact k.out)):p:=h ⟨k⟩
theorem U2(k:G')(h:eB G'->p:=by(intro k;refine bU 20 _ rfl (by kernel_rfl) (eb _) ?_;refine mn ?_;exact k.out)):p:=h ⟨k⟩
theorem Gs(k:G')(h:eB G'->p:=by(intro k;refine bU 21 _ rfl (by kernel_rfl) (eb _) ?_;refine mn ?_;exact k.out)):p:=h ⟨k⟩
theorem RK(k:G')(h:eB G'->p:=by(intro k;refine bU 22 _ rfl (by kernel_rfl) (eb _) ?_;refine mn ?_;exact k.out)):p:=h ⟨k⟩
theorem Y3(k:G')(h:eB G'->p:=by(intro k;refine bU 23 _ rfl (by kernel_rfl) (eb _) ?_;refine mn ?_;exact k.out)):p:=h ⟨k⟩
theorem Dg(k:G')(h:eB G'->p:=by(intro k;refine bU 25 _ rfl (by kernel_rfl) (eb _) ?_;refine mn ?_;exact k.out)):p:=h ⟨k⟩
theorem Bn(k:G')(h:eB G'->p:=by(intro k;refine bU 26 _ rfl (by kernel_rfl) (eb _) ?_;refine mn ?_;exact k.out)):p:=h ⟨k⟩
theorem yz(k:G')(h:eB G'->p:=by(intro k;refine bU 27 _ rfl (by kernel_rfl) (eb _) ?_;refine mn ?_;exact k.out)):p:=h ⟨k⟩
theorem Ee(k:G')(h:eB G'->p:=by(intro k;refine bU 28 _ rfl (by kernel_rfl) (eb _) ?_;refine mn ?_;exact k.out)):p:=h ⟨k⟩
theorem wA(k:G')(h:eB G'->p:=by(intro k;refine bU 29 _ rfl (by kernel_rfl) (eb _) ?_;refine mn ?_;exact k.out)):p:=h ⟨k⟩
theorem Cg(k:G')(h:eB G'->p:=by(intro k;refine bU 30 _ rfl (by kernel_rfl) (eb _) ?_;refine mn ?_;exact k.out)):p:=h ⟨k⟩
theorem TS(k:G')(h:eB G'->p:=by(intro k;refine bU 32 _ rfl (by kernel_rfl) (eb _) ?_;refine mn ?_;exact k.out)):p:=h ⟨k⟩
theorem wE(k:G')(h:eB G'->p:=by(intro k;refine bU 44 _ rfl (by kernel_rfl) (eb _) ?_;refine mn ?_;exact k.out)):p:=h ⟨k⟩
theorem ca{P:Program}{n:Nat}{ops:Array Oper}{Q:bx}{f:Nat->Value}{L:List aa}{rest:List Oper}{d:Option Nat}{ty:TypeId}{pos:String}{af:Array Edge}{xs:List Operand}{vs:List Value}(a:List Nat)(e:∀(xs:Array Value) (w:World),(callFunc fn xs).run P w=.ok (.enter fn xs) w)(c:Fn P fn vs.toArray (oe a L) R)(h:∀v L',R v L'->aM P n ops rest Q (cg f d v) L')(hd:fv n d=true:=by rfl)(b:xs.map (aH f)=vs:=by rfl):aM P n ops (⟨d,.call ⟨.value (.func fn),xs.toArray,ts⟩,ty,pos,af,none⟩::rest) Q f L:=bc a hd e rfl b c h
theorem ma{P:Program}{n:Nat}{ops:Array Oper}{kd:Nat->Nat}{Z:(Nat->Value)->List aa->Prop}{i:Nat}{l:List (Nat×Oper)}{f:Nat->Value}{L:List aa}{d:Option Nat}{ty:TypeId}{pos:String}{af:Array Edge}{xs:List Operand}{vs:List Value}(a:List Nat)(g:∀(xs:Array Value) (w:World),(callFunc fn xs).run P w=.ok (.enter fn xs) w)(c:Fn P fn vs.toArray (oe a L) R)(h:∀v L',R v L'->aM P n ops [] (bZ P n kd ops M Z l) (cg f d v) L')(e:fu (kd i)=true:=by rfl)(hd:fv n d=true:=by rfl)(b:xs.map (aH f)=vs:=by rfl):aX P n ops kd M Z ((i,⟨d,.call ⟨.value (.func fn),xs.toArray,ts⟩,ty,pos,af,none⟩)::l) f L:=bX e rfl hd (bc a hd g rfl b c h)
theorem fo{P:Program}{k:FuncId}{fn:Func}{c:Code}{args:Array Value}{L:List aa}{n:Nat}(d:P.funcs[k]?=some fn)(e:fn.ntmps=n)(h:Ex P n c (fin P fn R) (jP args) L)(b:fn.body=some c:=by rfl)(a:Nat.ble args.size n=true:=by rfl):Fn P k args L R:=Fn.FG d b e a h
def cA:=@Sub.empty
def bp:=@Ex.keep
def pW:=@Ex.vH
def cW:=@Sub.fr
def nA:=@mA.sub
def nt:=@mA.mono
end Go.Proofs.YtogcfijlhpaeeaaGreat
