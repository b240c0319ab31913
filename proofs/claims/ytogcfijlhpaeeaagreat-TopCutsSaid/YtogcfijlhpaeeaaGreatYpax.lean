/- Texts. No condition. -/
import Derived.Test.YtogcfijlhpaeeaaGreatYpav
open Go.RowKit Go.Proofs.Tryz
set_option linter.all false
set_option maxHeartbeats 32000000
namespace Go.Proofs.YtogcfijlhpaeeaaGreat
variable{k:Nat}{r:Int}{c:aJ}{w:aD}{st:aG}
section
section
variable{P:Ev->Prop}
def ir(P:Ev->Prop)(st:aG):Prop:=(∀e∈(replay st.aE).1,P e)/\(st.up=true->(∀e∈st.held,P e)/\∀e∈st.wait,P e)
def xY(P:Ev->Prop)(c:aJ)(st:aY):Prop:=∀s∈(cU c st.aE).sf,∀e∈s.all,P e
structure eS(P:Ev->Prop)(c:aJ)(w:aD):Prop where
 nd:∀r:Int,w.has r->ir P (w.node r)
 aO:xY P c w.aO
 fl:∀x∈w.fl,∀e∈x.2.l,P e
theorem tS(st:aG)(x:aF):(st.write x).1.aE=st.aE\/(st.write x).1.aE=st.aE++[x]:=by
 unfold aG.write;split
 ·simp only;split
  ·exact .inr rfl
  ·exact .inl rfl
 ·exact .inr rfl
theorem IM(st:aY)(x:aF):(st.write x).1.aE=st.aE\/(st.write x).1.aE=st.aE++[x]:=by
 unfold aY.write;split
 ·simp only;split
  ·exact .inr rfl
  ·exact .inl rfl
 ·exact .inr rfl
theorem ir.down(h:∀e∈(replay st.aE).1,P e)(hd:st.up=false):ir P st:=⟨h,λa=>by rw[hd]at a;cases a⟩
theorem BU{x:aF}(h:∀e∈(replay st.aE).1,P e)(hx:∀e∈(iM (replay st.aE) x).1,P e):∀e∈(replay (st.write x).1.aE).1,P e:=by
 rcases tS st x with a|a
 ·rw[a];exact h
 ·rw[a,iR];exact hx
theorem ir.start{k:Nat}{c:aJ}{r:Int}{st:aG}(g:cy k c r st)(h:ir P st):ir P (st.start c r).1:=by
 unfold aG.start;split
 ·exact h
 ·have b:=g.r5;have f:=g.cm.q;obtain⟨i,d⟩:=GC c.q r (replay st.aE).2 b g.dK.ia.1 _ g.dK.num (Ah g.dK.iZ) g.dK.ia.2.2 U;exact⟨h.1,λ_=>⟨(λe a=>by cases a),λe a=>h.1 e (d e a).1⟩⟩
theorem YD{q s:Int}{w:List Ev}{e y:Ev}(h:y∈(gP q s w e).2):y∈w\/y=e:=by
 unfold gP at h;split at h
 ·exact .inl h
 ·split at h
  ·rcases ct.1 h with h|h
   ·exact .inl h
   ·simp at h;exact .inr h
  ·exact .inl h
theorem ir.edit{k:Nat}{c:aJ}{r:Int}{st:aG}(g:cy k c r st)(h:ir P st)(e:Ed)(m:st.dg c r e=0->P (st.dm r e)):ir P (st.edit c r e).1:=by
 unfold aG.edit;by_cases a:st.dg c r e≠0
 ·rw[an a];exact h
 rw[ai a];have a:st.dg c r e=0:=by simpa using a
 have d:st.up=true:=by
  cases hh:st.up with
  |true=>rfl
  |false=>unfold aG.dg at a;rw[an hh]at a;cases a
 have j:=m a;have l:=(g.up d).2;have hx:∀y∈(iM (replay st.aE) (bw 1 r [st.dm r e])).1,P y:=by
  rw[l];show∀y∈st.log++[st.dm r e],P y;intro y hy;have i:=h.1;rw[l]at i;rcases ct.1 hy with hy|hy
  ·exact i y hy
  ·simp at hy;rw[hy];exact j
 have f:=BU h.1 hx;split
 ·rename_i b;exact ir.down f (((st.mq _).2 b))
 ·rename_i b;have b:(st.write (bw 1 r [st.dm r e])).2=0:=by simpa using b
  rw[mZ b]at f⊢
  exact⟨f,λ_=>⟨(h.2 d).1,λy hy=>(YD hy).elim ((h.2 d).2 y) (λe=>e▸j)⟩⟩
theorem ir.state{k:Nat}{c:aJ}{r:Int}{st:aG}(g:cy k c r st)(h:ir P st):ir P (st.state r).1:=by
 unfold aG.state;split
 ·exact h
 rename_i i;have f:st.up=true:=by cases hh:st.up with
  |true=>rfl
  |false=>exact absurd hh i
 split
 ·exact h
 have e:=(g.up f).2;have d:∀y∈st.log,P y:=by have:=h.1;rw[e]at this;exact this
 have b:=BU (x:=⟨4,r,st.sent,aj.zero,st.log⟩) h.1 d;split
 ·rename_i a;exact ir.down b (((st.mq _).2 a))
 ·rename_i a;have a:(st.write ⟨4,r,st.sent,aj.zero,st.log⟩).2=0:=by simpa using a
  simp only;rw[mZ a]at b⊢
  exact⟨b,h.2⟩
theorem ir.take(g:cy k c r st)(h:ir P st){f:aF×Int}(o:∀e∈f.1.l,P e):ir P (st.dw c r f).1:=by
 unfold aG.dw;split
 ·exact h
 rename_i q;have d:st.up=true:=by cases hh:st.up with
  |true=>rfl
  |false=>exact absurd hh q
 have m:=(g.up d).2;have p:∀y∈st.log,P y:=by have:=h.1;rw[m]at this;exact this
 split
 ·exact h
 split
 ·exact h
 split
 ·exact h
 split
 ·unfold aG.iD;simp only;split
  ·exact h
  have b:=BU (x:=⟨3,r,max st.sent (min f.1.upto (st.aT.get r.toNat)),aj.zero,[]⟩) h.1 h.1;split
  ·rename_i a;exact ir.down b (((st.mq _).2 a))
  ·rename_i a;have a:(st.write ⟨3,r,max st.sent (min f.1.upto (st.aT.get r.toNat)),aj.zero,[]⟩).2=0:=by simpa using a
   simp only;rw[mZ a]at b⊢
   exact⟨b,λ_=>⟨(h.2 d).1,λy hy=>(h.2 d).2 y (py hy)⟩⟩
 split
 ·unfold aG.jt;obtain⟨m1,n,_⟩:=yD st.aT (st.held++f.1.l);have j:∀e∈st.held++f.1.l,P e:=λe i=>(ct.1 i).elim ((h.2 d).1 e) (o e);split
  ·exact h
  split
  ·exact⟨h.1,λ_=>⟨λe i=>j e (n e i),(h.2 d).2⟩⟩
  have b:=BU (x:=bw 2 r (fJ st.aT (st.held++f.1.l)).1) h.1 (by rw[m];show∀y∈st.log++_,P y;intro y hy;exact(ct.1 hy).elim (p y) (λhy=>j y (m1 y hy)));split
  ·rename_i a;exact ir.down b (((st.mq _).2 a))
  ·rename_i a;have a:(st.write (bw 2 r (fJ st.aT (st.held++f.1.l)).1)).2=0:=by simpa using a
   simp only;rw[mZ a]at b⊢
   exact⟨b,λ_=>⟨λe i=>j e (n e i),(h.2 d).2⟩⟩
 ·exact h
def lZ(P:Ev->Prop)(p:aR):Prop:=∀s∈p.sf,∀e∈s.all,P e
theorem lZ.eK{p q:aR}(h:lZ P p)(a:q.eK=p.eK):lZ P q:=λs b e c=>by have:s.all∈q.eK:=fA.2 ⟨s,b,rfl⟩;rw[a]at this;obtain⟨t,d,f⟩:=fA.1 this;exact h t d e (by rw[f];exact c)
theorem lZ.push{p:aR}(h:lZ P p)(most r:Int){l:List Ev}(i:∀e∈l,P e):lZ P (p.dC most r l).2.2:=by
 rcases Iz most p r l with b|⟨_,_,b⟩
 ·exact h.eK b
 ·intro s j e a;have:s.all∈(p.dC most r l).2.2.eK:=fA.2 ⟨s,j,rfl⟩;rw[b]at this;rcases tZ this with d|d
  ·obtain⟨t,f,g⟩:=fA.1 d;exact h t f e (by rw[g];exact a)
  ·rw[d]at a;rcases ct.1 a with a|a
   ·rcases uc p.eK r.toNat []with c|c
    ·obtain⟨t,f,g⟩:=fA.1 c;exact h t f e (by rw[g];exact a)
    ·rw[c]at a;cases a
   ·refine i e ?_;unfold Sf.kC vM at a;split at a
    ·cases a
    ·split at a
     ·cases a
     ·exact(fW.1 a).1
theorem lZ.bK{p:aR}(h:lZ P p)(r:Int)(c:aj):lZ P (p.bK r c).2:=h.eK (Fh p r c)
theorem lZ.dP{p:aR}(h:lZ P p)(r:Int)(b:aj):∀e∈(p.dP r b).1,P e:=by
 have d:∀i,∀e∈eT (b.get i) ((p.sf.getD i Sf.none).all.drop (p.sf.getD i Sf.none).cut),P e:=λi e a=>by
  unfold eT at a;have a:=py (fW.1 a).1;rcases uc p.sf i Sf.none with c|c
  ·exact h _ c e a
  ·rw[c]at a;cases a
 have f:∀j,∀e∈p.mV r b j,P e:=by
  intro j
  induction j with
  |zero=>intro e a;cases a
  |succ j ih=>
   intro e a;unfold aR.mV at a;split at a
   ·exact(ct.1 a).elim (ih e) (d j e)
   ·exact ih e a
 unfold aR.dP;split
 ·intro e a;cases a
 ·exact f _
theorem LR{st:aY}{x:aF}(h:lZ P (cU c st.aE))(hx:lZ P (iz c (cU c st.aE) x)):lZ P (cU c (st.write x).1.aE):=by
 rcases IM st x with a|a
 ·rw[a];exact h
 ·rw[a,sE];exact hx
theorem xY.take{k:Nat}{c:aJ}{st:aY}(g:eA k c st)(h:xY P c st){f:aF×Int}(j:∀e∈f.1.l,P e):xY P c (st.take c f).1/\∀e∈(st.take c f).2.2.1.l,P e:=by
 have z:∀e∈aF.zero.l,P e:=λe a=>by cases a
 have h:lZ P (cU c st.aE):=h;unfold aY.take;split
 ·exact⟨h,z⟩
 rename_i n;have m:st.up=true:=by cases hh:st.up with
  |true=>rfl
  |false=>exact absurd hh n
 have i:=(g.up m).2;have d:lZ P st.post:=by rw[<-i];exact h
 split
 ·exact⟨h,z⟩
 split
 ·exact⟨h,z⟩
 split
 ·unfold aY.push;split
  ·exact⟨h,z⟩
  split
  ·exact⟨h,λe a=>by cases a⟩
  have b:=LR (x:=bw 5 f.1.r f.1.l) h (by rw[i];exact d.push c.w f.1.r j);split
  ·exact⟨b,z⟩
  ·exact⟨b,λe a=>by cases a⟩
 split
 ·refine⟨h,?_⟩;unfold aY.dP;split
  ·exact z
  ·exact d.dP f.1.r f.1.c
 split
 ·refine⟨?_,z⟩;unfold aY.bK;split
  ·exact h
  split
  ·exact h
  have b:=LR (x:=⟨6,f.1.r,0,f.1.c,[]⟩) h (by rw[i];exact d.bK f.1.r f.1.c);split
  ·exact b
  ·exact b
 ·exact⟨h,z⟩
theorem eS.aZ{c:aJ}{w:aD}(h:eS P c w){r:Int}(d:w.has r){s:aG}(e:ir P s):eS P c (w.aZ r s):=by
 refine⟨λq b=>?_,h.aO,h.fl⟩;have a:=(zP w r s q).1 b;rw[pA d s q a.1];split
 ·exact e
 ·exact h.nd q a
theorem eS.D3(h:eS P c w)(t:Int){x:aF}(hx:∀e∈x.l,P e):eS P c {w with fl:=w.fl++[(t,x)]}:=by
 refine⟨h.nd,h.aO,λy hy=>?_⟩;rcases ct.1 hy with hy|hy
 ·exact h.fl y hy
 ·simp at hy;subst hy;exact hx
theorem eS.send{c:aJ}{w:aD}(h:eS P c w){p:aF×Int}(a:∀e∈p.1.l,P e):eS P c (w.send p).1:=by
 unfold aD.send;simp only;split
 ·exact h.D3 5 a
 ·exact h
theorem eS.eJ{k:Nat}{c:aJ}{w:aD}(g:bO k c w)(h:eS P c w)(b:Int){f:aF×Int}(i:∀e∈f.1.l,P e):eS P c (w.eJ c b f).1:=by
 unfold aD.eJ;split
 ·rename_i a;exact h.aZ a ((h.nd b a).take (g.nd b a) i)
 ·obtain⟨d,j⟩:=h.aO.take g.aO i;simp only;split
  ·refine⟨h.nd,d,λy hy=>?_⟩;rcases ct.1 hy with hy|hy
   ·exact h.fl y hy
   ·simp at hy;subst hy;exact j
  ·exact⟨h.nd,d,h.fl⟩
theorem Ow{x:aF}(hx:∀e∈x.l,P e)(a mask:Int):∀e∈(kE x a mask).1.l,P e:=by
 unfold kE;split
 ·exact hx
 ·exactλe b=>by cases b
theorem U7(h:eS P c w)(i:Nat):∀e∈(w.fl.getD i (0,aF.zero)).2.l,P e:=by
 rcases uc w.fl i (0,aF.zero)with a|a
 ·exact h.fl _ a
 ·rw[a];exactλe b=>by cases b
theorem eS.eC{k:Nat}{c:aJ}{w:aD}(g:bO k c w)(h:eS P c w)(s:cB):eS P c (w.eC c s).1:=by
 unfold aD.eC;split
 ·have hx:=U7 h s.at_.toNat;have a:eS P c (if s.kind=5 then w else{w with fl:=dQ w.fl s.at_})/\bO k c (if s.kind=5 then w else{w with fl:=dQ w.fl s.at_}):=by
   split
   ·exact⟨h,g⟩
   ·exact⟨⟨h.nd,h.aO,λy hy=>h.fl y (vm hy)⟩,⟨g.n,g.nd,g.aO,by have:=g.fl.1;have:=tE w.fl s.at_;show(dQ w.fl s.at_).length<=k;omega,λy hy=>g.fl.2 y (vm hy)⟩⟩
  simp only;split
  ·exact a.1
  ·refine eS.eJ a.2 a.1 _ ?_;split
   ·exact Ow hx _ _
   ·exact hx
 ·exact h
theorem eS.dj{k:Nat}{c:aJ}{w:aD}(g:bO k c w)(h:eS P c w)(s:cB):eS P c (w.dj c s).1:=by
 unfold aD.dj;split
 ·rename_i a;have b:=h.nd s.r a;split
  ·exact h.aZ a (ir.down (st:=(w.node s.r).db) b.1 rfl)
  ·split
   ·exact h.aZ a (b.start (g.nd s.r a))
   ·exact h.aZ a ⟨b.1,b.2⟩
 ·split
  ·split
   ·exact⟨h.nd,h.aO,h.fl⟩
   ·split
    ·refine⟨h.nd,?_,h.fl⟩;show xY P c (w.aO.start c).1;unfold aY.start;split
     ·exact h.aO
     ·exact h.aO
    ·exact⟨h.nd,h.aO,h.fl⟩
  ·exact h
theorem Pg(h:st.up=true->∀e∈st.wait,P e)(c:aJ)(r:Int):∀e∈(st.push c r).1.l,P e:=by
 unfold aG.push;split
 ·exactλe a=>by cases a
 rename_i d;have b:st.up=true:=by cases hh:st.up with
  |true=>rfl
  |false=>exact absurd hh d
 split
 ·exactλe a=>by cases a
 ·exactλe a=>h b e (mM a)
theorem Kz(st:aG)(r k:Int):∀e∈(st.tell r k).1.l,P e:=by
 unfold aG.tell;split
 ·exactλe a=>by cases a
 ·exactλe a=>by cases a
theorem eS.step{k:Nat}{c:aJ}{w:aD}(g:bO k c w)(h:eS P c w)(s:cB)(f:s.kind=0->w.has s.r->(w.node s.r).dg c s.r s.ed=0->P ((w.node s.r).dm s.r s.ed)):eS P c (w.step c s).1:=by
 unfold aD.step;split
 ·exact h.eC g s
 split
 ·exact h.dj g s
 split
 ·exact h
 rename_i a;have a:w.has s.r:=by
  by_cases d:w.has s.r
  ·exact d
  ·exact absurd d a
 have b:=h.nd s.r a;have gn:=g.nd s.r a;split
 ·rename_i e;exact h.aZ a (b.edit gn s.ed (f e a))
 split
 ·exact h.send (Pg (λi=>(b.2 i).2) c s.r)
 split
 ·exact h.send (Kz _ _ _)
 split
 ·exact h.send (Kz _ _ _)
 split
 ·exact h.aZ a (b.state gn)
 ·exact h
theorem eS.new(c:aJ):eS P c (aD.new c):=by
 refine⟨λr d=>?_,λs b e a=>?_,(λx hx=>by cases hx)⟩
 ·have f:=d.1;have g:=d.2;have h:(aD.new c).nodes.length=c.n.toNat:=by unfold aD.new;simp
  unfold aD.node aD.new;have:r.toNat<c.n.toNat:=U;simp only[cu,kz,xX this,oF,AH];exact⟨(λe a=>by cases a),λ_=>⟨(λe a=>by cases a),(λe a=>by cases a)⟩⟩
 ·have b:s∈(aR.zero c).sf:=b;rw[vc b]at a;cases a
end
end
section
theorem UI(n:Int)(w:World):
  Calls prog 212 #[.int .i64 n] w λe w'=>e=.returned (.int .i64 (vn n))/\Kp w w':=by
 have c:n=0\/n=1\/n<0\/2<=n:=U;rcases c with rfl|rfl|h|h
 ·rw[NQ]
  (go_enter func212,ntmps212;go_wp2_with fail;go_returns;exact⟨rfl,by(repeat' (first|(with_reducible exact jl _)|(with_reducible assumption)|(with_reducible refine kg ?_ _)|(with_reducible refine kN ?_ _)|(with_reducible refine lb ?_ _ _ _ ?_)|(with_reducible refine kT ?_)|(with_reducible refine kM ?_ _)|(with_reducible refine kX ?_ ?_ _)|(with_reducible refine kG ?_ (by assumption))|(with_reducible exact bj _)|omega|(simp only[kh,kV,kU,kH];omega)|(simp;omega)|(simp;done)))⟩)
 ·rw[G5]
  (go_enter func212,ntmps212;go_wp2_with fail;go_returns;exact⟨rfl,by(repeat' (first|(with_reducible exact jl _)|(with_reducible assumption)|(with_reducible refine kg ?_ _)|(with_reducible refine kN ?_ _)|(with_reducible refine lb ?_ _ _ _ ?_)|(with_reducible refine kT ?_)|(with_reducible refine kM ?_ _)|(with_reducible refine kX ?_ ?_ _)|(with_reducible refine kG ?_ (by assumption))|(with_reducible exact bj _)|omega|(simp only[kh,kV,kU,kH];omega)|(simp;omega)|(simp;done)))⟩)
 ·rw[BK n (.inl h)];have a:(n==0)=false:=by simp;omega
  have b:(n==1)=false:=by simp;omega
  (go_enter func212,ntmps212;go_wp2_with fail;go_returns;exact⟨rfl,by(repeat' (first|(with_reducible exact jl _)|(with_reducible assumption)|(with_reducible refine kg ?_ _)|(with_reducible refine kN ?_ _)|(with_reducible refine lb ?_ _ _ _ ?_)|(with_reducible refine kT ?_)|(with_reducible refine kM ?_ _)|(with_reducible refine kX ?_ ?_ _)|(with_reducible refine kG ?_ (by assumption))|(with_reducible exact bj _)|omega|(simp only[kh,kV,kU,kH];omega)|(simp;omega)|(simp;done)))⟩)
 ·rw[BK n (.inr h)];have a:(n==0)=false:=by simp;omega
  have b:(n==1)=false:=by simp;omega
  (go_enter func212,ntmps212;go_wp2_with fail;go_returns;exact⟨rfl,by(repeat' (first|(with_reducible exact jl _)|(with_reducible assumption)|(with_reducible refine kg ?_ _)|(with_reducible refine kN ?_ _)|(with_reducible refine lb ?_ _ _ _ ?_)|(with_reducible refine kT ?_)|(with_reducible refine kM ?_ _)|(with_reducible refine kX ?_ ?_ _)|(with_reducible refine kG ?_ (by assumption))|(with_reducible exact bj _)|omega|(simp only[kh,kV,kU,kH];omega)|(simp;omega)|(simp;done)))⟩)
theorem YR(s:ByteArray)(w:World)(d:s.size<=9223372036854775807):
  Calls prog 213 #[.string s] w λe w'=>e=.returned (.int .i64 (rZ s))/\Kp w w':=by
 have c:(1<=s.size/\s.size<=12)\/s.size<1\/12<s.size:=U;rcases c with⟨a,b⟩|h|h
 ·rw[Mq s a b]
  (go_enter func213,ntmps213;go_wp2_with fail;go_returns;exact⟨rfl,by(repeat' (first|(with_reducible exact jl _)|(with_reducible assumption)|(with_reducible refine kg ?_ _)|(with_reducible refine kN ?_ _)|(with_reducible refine lb ?_ _ _ _ ?_)|(with_reducible refine kT ?_)|(with_reducible refine kM ?_ _)|(with_reducible refine kX ?_ ?_ _)|(with_reducible refine kG ?_ (by assumption))|(with_reducible exact bj _)|omega|(simp only[kh,kV,kU,kH];omega)|(simp;omega)|(simp;done)))⟩)
 ·rw[AM s (.inl h)]
  (go_enter func213,ntmps213;go_wp2_with fail;go_returns;exact⟨rfl,by(repeat' (first|(with_reducible exact jl _)|(with_reducible assumption)|(with_reducible refine kg ?_ _)|(with_reducible refine kN ?_ _)|(with_reducible refine lb ?_ _ _ _ ?_)|(with_reducible refine kT ?_)|(with_reducible refine kM ?_ _)|(with_reducible refine kX ?_ ?_ _)|(with_reducible refine kG ?_ (by assumption))|(with_reducible exact bj _)|omega|(simp only[kh,kV,kU,kH];omega)|(simp;omega)|(simp;done)))⟩)
 ·rw[AM s (.inr h)]
  (go_enter func213,ntmps213;go_wp2_with fail;go_returns;exact⟨rfl,by(repeat' (first|(with_reducible exact jl _)|(with_reducible assumption)|(with_reducible refine kg ?_ _)|(with_reducible refine kN ?_ _)|(with_reducible refine lb ?_ _ _ _ ?_)|(with_reducible refine kT ?_)|(with_reducible refine kM ?_ _)|(with_reducible refine kX ?_ ?_ _)|(with_reducible refine kG ?_ (by assumption))|(with_reducible exact bj _)|omega|(simp only[kh,kV,kU,kH];omega)|(simp;omega)|(simp;done)))⟩)
theorem Wo(s:ByteArray)(w:World)(r:s.size<=9223372036854775807):
  Calls prog 211 #[.string s] w λe w'=>e=.returned (.int .i64 (ku s))/\Kp w w':=by
 by_cases b:1<=s.size/\s.size<=8
 ·obtain⟨o,p⟩:=b;have g:=Lib.hid (show s.data.toList.all lU=true->ku s=0 fromλh=>by unfold ku;rw[an ⟨o,p,h⟩]);have j:=Lib.hid (show s.data.toList.all lU=false->ku s=10 fromλh=>by unfold ku;rw[ai (λk=>by rw[h]at k;exact absurd k.2.2 (by decide))])
  go_enter func211,ntmps211
  go_wp2_with fail
  go_loop [3] (λi=>∃k:Nat,k<=s.size/\i=.int .i64 k/\RowKit.Hid ((s.data.toList.take k).all lU=true)) (λi=>s.size-(intOf i).toNat)
  case atStart=>exact⟨0,eM _,rfl,Lib.hid (by simp)⟩
  case round=>
   obtain⟨k,q,rfl,H⟩:=hrel;by_cases a:k<s.size
   ·by_cases f:97<=(s[k]'a).toNat/\(s[k]'a).toNat<=122
    ·obtain⟨l,m⟩:=f
     go_wp2_with fail
     go_round
     case rel=>exact⟨k+1,U,by go_num,Lib.hid (KA _ _ (by simpa using a) _ H.out (J9 s k _ a rfl ⟨l,m⟩))⟩
     case measure=>simp[intOf];omega
    ·have d:(s[k]'a).toNat<97\/122<(s[k]'a).toNat:=U;clear f;have e:ku s=10:=j.out (by
      cases e:s.data.toList.all lU with
      |false=>rfl
      |true=>have:=kW.1 e (s[k]'a) (Ek s k a);simp[lU]at*;omega)
     have c:=Lib.hid e;clear e;rcases d with d|d
     all_goals
      go_wp2_with fail
      go_returns
      rw[c.out];exact⟨rfl,by(repeat' (first|(with_reducible exact jl _)|(with_reducible assumption)|(with_reducible refine kg ?_ _)|(with_reducible refine kN ?_ _)|(with_reducible refine lb ?_ _ _ _ ?_)|(with_reducible refine kT ?_)|(with_reducible refine kM ?_ _)|(with_reducible refine kX ?_ ?_ _)|(with_reducible refine kG ?_ (by assumption))|(with_reducible exact bj _)|omega|(simp only[kh,kV,kU,kH];omega)|(simp;omega)|(simp;done)))⟩
   ·have c:=Lib.hid (g.out (by have:=H.out;rwa[ic (by simp;omega)]at this))
    go_wp2_with fail
    go_returns
    rw[c.out];exact⟨rfl,by(repeat' (first|(with_reducible exact jl _)|(with_reducible assumption)|(with_reducible refine kg ?_ _)|(with_reducible refine kN ?_ _)|(with_reducible refine lb ?_ _ _ _ ?_)|(with_reducible refine kT ?_)|(with_reducible refine kM ?_ _)|(with_reducible refine kX ?_ ?_ _)|(with_reducible refine kG ?_ (by assumption))|(with_reducible exact bj _)|omega|(simp only[kh,kV,kU,kH];omega)|(simp;omega)|(simp;done)))⟩
 ·have e:ku s=10:=by unfold ku;rw[ai (λh=>b ⟨h.1,h.2.1⟩)]
  rw[e];have n:s.size<1\/8<s.size:=U;clear b e;rcases n with b|b
  all_goals(go_enter func211,ntmps211;go_wp2_with fail;go_returns;exact⟨rfl,by(repeat' (first|(with_reducible exact jl _)|(with_reducible assumption)|(with_reducible refine kg ?_ _)|(with_reducible refine kN ?_ _)|(with_reducible refine lb ?_ _ _ _ ?_)|(with_reducible refine kT ?_)|(with_reducible refine kM ?_ _)|(with_reducible refine kX ?_ ?_ _)|(with_reducible refine kG ?_ (by assumption))|(with_reducible exact bj _)|omega|(simp only[kh,kV,kU,kH];omega)|(simp;omega)|(simp;done)))⟩)
end
section
theorem Jz(s:List UInt8)(L:List aa)(a:s.length<=9223372036854775807):Fn prog 211 #[.string (S s)] L λv L'=>v=.int .i64 (iH s)/\L'=L:=by rw[<-KN];exact wH λw=>Wo _ w (by rw[sF];exact a)
theorem V2(n:Int)(L:List aa):Fn prog 212 #[.int .i64 n] L λv L'=>v=.int .i64 (nm n)/\L'=L:=wH λw=>UI n w
theorem Zg(s:List UInt8)(L:List aa)(a:s.length<=9223372036854775807):Fn prog 213 #[.string (S s)] L λv L'=>v=.int .i64 (mR s)/\L'=L:=by rw[<-Ny];exact wH λw=>YR _ w (by rw[sF];exact a)
set_option maxRecDepth 20000 attribute [local irreducible] Ex aM Fn bI bJ bV fin meet ch aX bZ aP aN aI Rd aK Row ao Sub bk bP bS bN bg bR Hid bY
section
theorem KV(e:Ed)(L:List aa)(a:e.key.length<=9223372036854775807)(b:e.value.length<=9223372036854775807):Fn prog 143 #[.agg (ab.cells e).toArray] L λv L'=>v=.int .i64 e.err/\L'=L:=by
 have c:iH e.key=0\/iH e.key=10:=by unfold iH;split<;>simp
 have d:nm e.label=0\/nm e.label=11:=by unfold nm;split<;>simp
 refine fo func143 ntmps143 ?_
 (repeat' (first|(refine r1 ?_;intros)|(refine fx J (λh=>?_) (λh=>?_)<;>try(exfalso;omega))|(apply fw;refine fH J J J (λh=>?_) (λh=>?_)<;>try(exfalso;omega))))
 ·refine fr ?_;exact⟨_,rB,aQ (by unfold Ed.err;rw[an U]),rfl⟩
 ·refine fr ?_;exact⟨_,rB,aQ (by unfold Ed.err;rw[an U]),rfl⟩
 refine bc [] J call211 J J (Jz _ _ a) ?_;rintro _ _ ⟨rfl,rfl⟩
 (repeat' (first|(refine r1 ?_;intros)|(refine fx J (λh=>?_) (λh=>?_)<;>try(exfalso;omega))|(apply fw;refine fH J J J (λh=>?_) (λh=>?_)<;>try(exfalso;omega))))
 all_goals first
  |((refine bc [] J call212 J J (V2 _ _) ?_;rintro _ _ ⟨rfl,rfl⟩);(repeat' (first|(refine r1 ?_;intros)|(refine fx J (λh=>?_) (λh=>?_)<;>try(exfalso;omega))|(apply fw;refine fH J J J (λh=>?_) (λh=>?_)<;>try(exfalso;omega)))))
  |skip
 all_goals first
  |((refine bc [] J call213 J J (Zg _ _ b) ?_;rintro _ _ ⟨rfl,rfl⟩);(refine rn ?_;intros))
  |skip
 all_goals
  refine fr ?_;refine⟨_,rB,aQ ?_,rfl⟩;unfold Ed.err
  repeat(first|rw[an (by first|omega|assumption)]|rw[ai (by first|omega|assumption)])
  try omega
end
section
theorem Zx(c:aJ)(v0:Value)(l:List Ct)(e:Ed)(M:List aa)(hr:aI M v0 l)(hs:∀H∈l,H.Rd M)(hl:l.length<=1000000000)(q:e.key.length<=9223372036854775807)(hv:e.value.length<=9223372036854775807)
  (e9:∀H∈l,H.s0.length<=9000000000000000000/\H.s1.length<=9000000000000000000):
  Fn prog 73 #[.agg (ab.cells c).toArray,v0,.agg (ab.cells e).toArray] M λv L'=>v=.int .i64 (nj c.l c.p l e)/\L'=M:=by
 refine fo func73 ntmps73 ?_;refine rn ?_;intros;refine bc [] J call143 J J (KV e _ q hv) ?_;rintro _ _ ⟨rfl,rfl⟩;by_cases z:e.err=0
 ·have R:=Ed.LO z;refine rn ?_;intros;refine ll [8,9] (λm vs=>∃(i:Nat) (a:Int),i<=l.length/\m=i/\vs=[.int .i64 a,.int .i64 ((i:Int)-1)]/\((a=-1/\∀j (f:j<l.length),i<=j->(l[j]'f).key≠e.key)\/(∃n:Nat,∃C:n<l.length,a=n/\(l[n]'C).key=e.key/\∀j (f:j<l.length),i<=j->j<n->(l[j]'f).key≠e.key))) l.length ⟨l.length,-1,U,rfl,rfl,.inl ⟨rfl,λj f h=>by omega⟩⟩ ?_;rintro i vs g1 ⟨_,a,hi,rfl,rfl,p⟩;by_cases hz:0<i
  ·have d:((i:Int)-1).toNat<l.length:=U;by_cases c9:(l[((i:Int)-1).toNat]'d).key=e.key
   ·refine rn ?_;intros;refine ln ?_;intros;refine rn ?_;intros;exact aS ⟨i-1,_,U,rB,⟨i-1,(i:Int)-1,U,rfl,av rfl (av (aQ U) rfl),.inr ⟨((i:Int)-1).toNat,d,U,c9,λj f o g=>by omega⟩⟩,rfl⟩
   ·refine rn ?_;intros;refine ln ?_;intros;refine rn ?_;intros;refine aS ⟨i-1,_,U,rB,⟨i-1,a,U,rfl,av rfl (av (aQ U) rfl),?_⟩,rfl⟩;have d6:∀j (f:j<l.length),i-1<=j->¬i<=j->(l[j]'f).key≠e.key:=λj f o g=>by obtain rfl:j=((i:Int)-1).toNat:=U;exact c9
    rcases p with⟨r,h⟩|⟨n,C,r,I,h⟩
    ·exact .inl ⟨r,λj f o=>if g:i<=j then h j f g else d6 j f o g⟩
    ·exact .inr ⟨n,C,r,I,λj f o h3=>if g:i<=j then h j f g h3 else d6 j f o g⟩
  ·obtain rfl:i=0:=U;have r:a=iK l e.key:=by
    rcases p with⟨r,h⟩|⟨n,C,r,I,h⟩
    ·rw[r,JD λj f=>h j f U]
    ·rw[r,Hv C I λj f g=>h j f U g]
   subst r;clear p;have d9:=Nd l e.key;by_cases L:e.kind=1
   ·rw[Lu z L];by_cases S:0<=iK l e.key
    ·rw[an S];exact bh
    ·rw[ai S];by_cases hL:c.l<=l.length
     ·rw[an hL];exact bh
     ·rw[ai hL];exact bh
   ·by_cases S:iK l e.key<0
    ·rw[Iu z L U];exact bh
    ·obtain⟨i,hi⟩:=jF (show 0<=iK l e.key by omega);have d:i<l.length:=U;rw[IL d z L hi,hi];clear d9;obtain⟨j7,j8⟩:=hs _ (bT d);obtain⟨j4,j5⟩:=e9 _ (bT d);unfold xg Ct.set;rcases R.2.2 with P|P
     ·obtain⟨t,j1,W,s⟩:=e;obtain rfl:W=0:=P;rw[an rfl];refine rn ?_;intros;refine ln ?_;intros;refine rn ?_;intros;refine ll [11,12] (λm vs=>∃(j:Nat) (b:Bool),j<=(l[i]'d).s0.length/\m=(l[i]'d).s0.length-j/\vs=[.bool b,.int .i64 j]/\((b=true/\np (l[i]'d).s0 s=true)\/(b=false/\∀k (q:k<(l[i]'d).s0.length),k<j->((l[i]'d).s0[k]'q).l≠s))) (l[i]'d).s0.length ⟨0,false,U,rfl,rfl,.inr ⟨rfl,λk _ h=>by omega⟩⟩ ?_;rintro m vs g1 ⟨j,b,f,rfl,rfl,p⟩;by_cases A:j<(l[i]'d).s0.length
      ·cases b
       ·have Q:=p.resolve_left (λh=>by cases h.1);by_cases F:((l[i]'d).s0[j]'A).l=s
        ·refine rn ?_;intros;refine ji ?_;intros;refine rn ?_;intros;exact aS ⟨(l[i]'d).s0.length-(j+1),_,U,rB,⟨j+1,true,U,rfl,av rfl (av (aQ U) rfl),.inl ⟨rfl,C2 A F⟩⟩,rfl⟩
        ·refine rn ?_;intros;refine ji ?_;intros;refine rn ?_;intros;exact aS ⟨(l[i]'d).s0.length-(j+1),_,U,rB,⟨j+1,false,U,rfl,av rfl (av (aQ U) rfl),.inr ⟨rfl,λk q d8=>by
          by_cases h:k=j
          ·subst h;exact F
          ·exact Q.2 k q U⟩⟩,rfl⟩
       ·have V:=p.resolve_right (λh=>by cases h.1);refine rn ?_;intros;refine ji ?_;intros;refine rn ?_;intros;exact aS ⟨(l[i]'d).s0.length-(j+1),_,U,rB,⟨j+1,true,U,rfl,av rfl (av (aQ U) rfl),.inl ⟨rfl,V.2⟩⟩,rfl⟩
      ·have y:b=np (l[i]'d).s0 s:=by
        rcases p with⟨o,g⟩|⟨o,g⟩
        ·rw[o,g]
        ·rw[o,Di λk q=>g k q U]
       clear p R;rw[<-y];clear y;by_cases u:t=4
       ·subst u;by_cases x:c.p<=((l[i]'d).s0.length:Int)
        ·rw[an rfl,an x];exact bh
        ·rw[an rfl,ai x];exact bh
       ·by_cases w:t=5
        ·subst w;rw[ai (show¬(5:Int)=4 by omega),an rfl];cases b
         ·exact bh
         ·exact bh
        ·rw[ai u,ai w];exact bh
     ·obtain⟨t,j1,W,s⟩:=e;obtain rfl:W=1:=P;rw[ai (show¬(1:Int)=0 by omega)];refine rn ?_;intros;refine ln ?_;intros;refine rn ?_;intros;refine ll [11,12] (λm vs=>∃(j:Nat) (b:Bool),j<=(l[i]'d).s1.length/\m=(l[i]'d).s1.length-j/\vs=[.bool b,.int .i64 j]/\((b=true/\np (l[i]'d).s1 s=true)\/(b=false/\∀k (q:k<(l[i]'d).s1.length),k<j->((l[i]'d).s1[k]'q).l≠s))) (l[i]'d).s1.length ⟨0,false,U,rfl,rfl,.inr ⟨rfl,λk _ h=>by omega⟩⟩ ?_;rintro m vs g1 ⟨j,b,f,rfl,rfl,p⟩;by_cases A:j<(l[i]'d).s1.length
      ·cases b
       ·have Q:=p.resolve_left (λh=>by cases h.1);by_cases F:((l[i]'d).s1[j]'A).l=s
        ·refine rn ?_;intros;refine ji ?_;intros;refine rn ?_;intros;exact aS ⟨(l[i]'d).s1.length-(j+1),_,U,rB,⟨j+1,true,U,rfl,av rfl (av (aQ U) rfl),.inl ⟨rfl,C2 A F⟩⟩,rfl⟩
        ·refine rn ?_;intros;refine ji ?_;intros;refine rn ?_;intros;exact aS ⟨(l[i]'d).s1.length-(j+1),_,U,rB,⟨j+1,false,U,rfl,av rfl (av (aQ U) rfl),.inr ⟨rfl,λk q d8=>by
          by_cases h:k=j
          ·subst h;exact F
          ·exact Q.2 k q U⟩⟩,rfl⟩
       ·have V:=p.resolve_right (λh=>by cases h.1);refine rn ?_;intros;refine ji ?_;intros;refine rn ?_;intros;exact aS ⟨(l[i]'d).s1.length-(j+1),_,U,rB,⟨j+1,true,U,rfl,av rfl (av (aQ U) rfl),.inl ⟨rfl,V.2⟩⟩,rfl⟩
      ·have y:b=np (l[i]'d).s1 s:=by
        rcases p with⟨o,g⟩|⟨o,g⟩
        ·rw[o,g]
        ·rw[o,Di λk q=>g k q U]
       clear p R;rw[<-y];clear y;by_cases u:t=4
       ·subst u;by_cases x:c.p<=((l[i]'d).s1.length:Int)
        ·rw[an rfl,an x];exact bh
        ·rw[an rfl,ai x];exact bh
       ·by_cases w:t=5
        ·subst w;rw[ai (show¬(5:Int)=4 by omega),an rfl];cases b
         ·exact bh
         ·exact bh
        ·rw[ai u,ai w];exact bh
 ·rw[Kv z];exact bh
end
end
end Go.Proofs.YtogcfijlhpaeeaaGreat
