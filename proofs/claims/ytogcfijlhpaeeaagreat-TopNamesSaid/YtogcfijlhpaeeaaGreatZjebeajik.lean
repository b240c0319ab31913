/- Texts, one behind the other. No condition. -/
import Derived.Test.YtogcfijlhpaeeaaGreatChecked
import Derived.Test.YtogcfijlhpaeeaaGreatRows
import Derived.Test.YtogcfijlhpaeeaaGreatZbndogacj
import Derived.Test.YtogcfijlhpaeeaaGreatZehjcikgl
open Go.RowKit
set_option linter.unusedSimpArgs false
set_option linter.unusedVariables false
set_option linter.unusedSectionVars false
set_option maxHeartbeats 32000000
namespace Go.Proofs.YtogcfijlhpaeeaaGreat
section
def WSt.used (w:WSt) (c:Cfg):Nat→Nat
 | 0=>0
 | n+1=>if (w.round c).stdW=w.stdW then 1 else 1+(w.round c).used c n
theorem WGd.loopUsed {c:Cfg}:∀ (n k:Nat) (w:WSt),WGd k c w→∀ kk,k+15 * w.used c n≤kk→kk≤198→w.loopOk kk c n∧WGd kk c (w.loopW c n)
 | 0,k,w,g,kk,h,hk=>⟨(g.mono (by unfold WSt.used at h;omega)).ok rM,g.mono (by unfold WSt.used at h;omega)⟩
 | n+1,k,w,g,kk,h,hk=>by
  have hn:=g.n
  have h5:=g.hub.cm.n
  unfold WSt.used at h
  have gr:k+15≤198→WGd (k+15) c (w.round c):=fun hk2=>(g.roundK (3 * w.nodes.length) (Nat.le_refl _) rM).mono rM
  by_cases he:(w.round c).stdW=w.stdW
  ·rw [if_pos he] at h
   refine ⟨⟨fun i hi=>((g.roundK i hi rM).mono rM).ok rM,fun h2=>absurd he h2⟩,?_⟩
   show WGd _ c (if _ then _ else _)
   rw [if_pos he]
   exact (gr rM).mono rM
  ·rw [if_neg he] at h
   have ih:=WGd.loopUsed n (k+15) _ (gr rM) kk rM hk
   refine ⟨⟨fun i hi=>((g.roundK i hi rM).mono rM).ok rM,fun _=>ih.1⟩,?_⟩
   show WGd _ c (if _ then _ else _)
   rw [if_neg he]
   exact ih.2
theorem WGd.roundsU {c:Cfg} {k:Nat} {w:WSt} (g:WGd k c w) (n:Nat) (h:k+15 * (w.re c).used c n≤198):RdOk 198 c w n∧WGd 198 c (w.roundsW c n) :=
 have hl:=WGd.loopUsed n k _ g.re 198 h (Nat.le_refl _)
 ⟨⟨(g.mono rM).ok rM,fun j hj=>((g.reN j hj).mono rM).ok rM,hl.1⟩,hl.2⟩
def cN:Cfg:=⟨4,4,8,20,4,3⟩
theorem cN_may:cN.May:=by
 refine ⟨?_,?_,?_,?_,?_,?_⟩ <;> decide
def nmS (r:Int) (e:Ed):Stp:=⟨0,r,e,0,0,0,0⟩
def nmK (k r at_:Int):Stp:=⟨k,r,⟨0,[],0,[]⟩,at_,0,0,0⟩
theorem nmK_ok (k r at_:Int):(nmK k r at_).Ok:=⟨by unfold I64;show (-9223372036854775808:Int)≤0∧(0:Int)≤_;omega,by show (0:Int)≤0∧(0:Int)<4294967296;omega,by show (0:Nat)≤1000;omega,by show (0:Nat)≤1000;omega⟩
theorem nmS_ok (r:Int) (e:Ed) (h1:e.key.length≤1000) (h2:e.value.length≤1000):(nmS r e).Ok:=⟨by unfold I64;show (-9223372036854775808:Int)≤0∧(0:Int)≤_;omega,by show (0:Int)≤0∧(0:Int)<4294967296;omega,h1,h2⟩
def nm0 (key:List UInt8):WSt×Int:=(WSt.new cN).step cN (nmS 2 ⟨1,key,0,[]⟩)
def nm1 (key:List UInt8):WSt:=(nm0 key).1.roundsW cN 2
def nm2 (key:List UInt8):WSt×Int:=(nm1 key).step cN (nmS 2 ⟨2,key,0,[]⟩)
def nm3 (key:List UInt8):WSt×Int:=(nm2 key).1.step cN (nmS 2 ⟨1,key,0,[]⟩)
def nm4 (key:List UInt8):WSt×Int:=(nm3 key).1.step cN (nmS 0 ⟨3,key,0,[110,97,109,101]⟩)
def nm5 (key:List UInt8):WSt×Int:=(nm4 key).1.step cN (nmS 1 ⟨2,key,0,[]⟩)
def nmA (w:WSt) (r:Int):WSt:=(w.step cN (nmK 1 r 0)).1
def nmB (w:WSt):WSt:=(w.step cN (nmK 4 0 ((w.fl.length:Int) - 1))).1
def nmC (w:WSt):WSt:=(w.step cN (nmK 2 3 0)).1
def nmI (r:Int) (w:WSt):WSt:=nmB (nmB (nmC (nmB (nmA w r))))
def nmZ (o:Nat):List Int:=([0,1,2,0,2,1,1,0,2,1,2,0,2,0,1,2,1,0]:List Int).drop (0+o * 3)
def nmO (o i:Nat):Int:=(nmZ o).getD i 0
def nmR (key:List UInt8) (o:Nat):Nat→WSt
 | 0=>(nm5 key).1
 | i+1=>nmI (nmO o i) (nmR key o i)
def nmE (key:List UInt8) (o:Nat):WSt:=(nmR key o 3).roundsW cN 20
def nmX (key:List UInt8) (o:Nat):Prop :=
 ((nm0 key).2=0∧(nm2 key).2=0∧(nm3 key).2=0∧(nm4 key).2=0∧(nm5 key).2=0)∧((nmR key o 3).re cN).used cN 20≤9 ∧
 (((nmR key o 3).node 3).list.2=0∧((nmR key o 3).node 3).list.1=[⟨key,false,false,[],[],[],[]⟩]) ∧
 ∀ r,r<4→((nmE key o).node (r:Nat)).list=((nmR key o 3).node 3).list
instance (key:List UInt8) (o:Nat):Decidable (nmX key o):=by unfold nmX;infer_instance
def nmKey (i:Nat):List UInt8:=([[97,110,110],[98,111,98],[99,121]]:List (List UInt8)).getD i []
set_option maxRecDepth 100000 in
theorem nm_all:∀ i,i<3→∀ o,o<6→nmX (nmKey i) o:=by decide +kernel
theorem nm_key (e:Ed):∃ i,i<3∧e.fit.key=nmKey i:=by
 rcases fit_key e with h | h | h
 ·exact ⟨0,by decide,h⟩
 ·exact ⟨1,by decide,h⟩
 ·exact ⟨2,by decide,h⟩
theorem nmKey_len (i:Nat):(nmKey i).length≤3:=by
 unfold nmKey
 match i with
 | 0=>decide
 | 1=>decide
 | 2=>decide
 | n+3=>simp
theorem nm_gd (key:List UInt8):WGd 1 cN (nm0 key).1∧WGd 31 cN (nm1 key)∧WGd 32 cN (nm2 key).1∧WGd 33 cN (nm3 key).1∧WGd 34 cN (nm4 key).1∧WGd 35 cN (nm5 key).1:=by
 have h0:WGd 1 cN (nm0 key).1:=(WGd.new cN_may).step rM _
 have h1:WGd 31 cN (nm1 key):=h0.roundsW 2 rM
 have h2:WGd 32 cN (nm2 key).1:=h1.step rM _
 have h3:WGd 33 cN (nm3 key).1:=h2.step rM _
 have h4:WGd 34 cN (nm4 key).1:=h3.step rM _
 exact ⟨h0,h1,h2,h3,h4,h4.step rM _⟩
theorem nmR_gd (key:List UInt8) (o:Nat):∀ i,i≤3→WGd (35+5 * i) cN (nmR key o i)
 | 0,_=>(nm_gd key).2.2.2.2.2
 | i+1,h=>by
  have ih:=nmR_gd key o i rM
  exact ((((ih.step rM _).step rM _).step rM _).step rM _).step rM _
end
section
structure B2 where
 a:Bool
 b:Bool
deriving DecidableEq
instance:Rep B2:=⟨2,fun x=>[.bool x.a,.bool x.b],by decide,fun _=>rfl,fun _=>rfl⟩
structure T2 where
 a:List UInt8
 b:List UInt8
deriving DecidableEq
instance:Rep T2:=⟨2,fun x=>[.string (S x.a),.string (S x.b)],by decide,fun _=>rfl,fun _=>rfl⟩
instance:EqT Tryz.prog 71 B2:=⟨6,[.b,.b],by kernel_rfl,by kernel_rfl,by kernel_rfl,by kernel_rfl,fun _=>rfl,fun a b h=>by
 obtain ⟨a1,a2⟩:=a
 obtain ⟨b1,b2⟩:=b
 simp only [Rep.cells,List.cons.injEq,Value.bool.injEq,true_and,and_true] at h
 simp [h]⟩
instance:EqT Tryz.prog 72 T2:=⟨6,[.s,.s],by kernel_rfl,by kernel_rfl,by kernel_rfl,by kernel_rfl,fun _=>rfl,fun a b h=>by
 obtain ⟨a1,a2⟩:=a
 obtain ⟨b1,b2⟩:=b
 simp only [Rep.cells,List.cons.injEq,Value.string.injEq,S_inj,true_and,and_true] at h
 simp [h]⟩
theorem Ex.capd {P:Program} {n:Nat} {c:Code} {Q:Post} {f:Nat→Value} {L:List Assn} {α:Type} [Rep α] {v:Value} {xs:List α} (hr:RdT L v xs) (h:Capd v xs.length→Ex P n c Q f L):Ex P n c Q f L :=
 fun D F w0 f0 ws a w H hc=>h (hr.capd w F H.2.2.1) D F w0 f0 ws a w H hc
def ctE (key:List UInt8) (v0 v1:Value) (o0:v0.oneCell'=true) (o1:v1.oneCell'=true):Ct:=⟨key,false,false,[],[],v0,o0,[],v1,o1,[]⟩
set_option maxRecDepth 20000 attribute [local irreducible] Ex ExL Fn thn inb rnd fin meet Tab Mix mxEnd Val Sats RdT Rd RowT Row Blk Sub Fac ResV RVal Evs subs subs3 Hid Capd
section
attribute [local irreducible] Star NodeA HubA LkA nodesA WldA SiteV.own Lst.own wS
theorem sameC_F (va vb v0 v1 u0 u1:Value) (o0:v0.oneCell'=true) (o1:v1.oneCell'=true) (p0:u0.oneCell'=true) (p1:u1.oneCell'=true) (key:List UInt8) (M:List Assn)
  (h0:RdT M v0 ([]:List Txt)) (h1:RdT M v1 ([]:List Txt)) (k0:RdT M u0 ([]:List Txt)) (k1:RdT M u1 ([]:List Txt)) (ha:RdT M va [ctE key v0 v1 o0 o1]) (hb:RdT M vb [ctE key u0 u1 p0 p1]) :
  Fn Tryz.prog 31 #[va,vb] M fun v L'=>v=.bool true∧L'=M:=by
 refine Fn.of_ex Tryz.func31 rfl Tryz.ntmps31 rfl ?_
 refine Ex.capd h0 fun (c0:Capd v0 0)=>Ex.capd h1 fun (c1:Capd v1 0)=>Ex.capd k0 fun (c2:Capd u0 0)=>Ex.capd k1 fun (c3:Capd u1 0)=>?_
 (refine rn ?_;intros)
 refine Ex.loop [5] (fun z vs L'=>∃ j:Nat,j≤1∧z=1 - j∧vs=[.int .i64 j]∧L'=M) 1 ⟨0,by omega,rfl,rfl,rfl⟩ ?_
 rintro z vs g1 L1 ⟨j,hj,rfl,rfl,rfl⟩
 refine Ex.keep [0,1,5] rG (fun gk=>?_)
 rcases (show j=0∨j=1 by omega) with rfl | rfl
 ·(refine rn ?_;intros)
  (refine Ex.mixA 37 _ rfl rQ (Fac.refl _) ?_;(repeat' (first | (refine m1 ?_;intros) | (refine mx_gsplit rJ rJ rJ (fun h=>?_) (fun h=>?_) <;> try (exfalso;omega)))))
  refine mx_val rJ rJ rJ (vl_neqT_f (a:=(⟨false,false⟩:B2)) (b:=⟨false,false⟩) rJ rJ rfl) ?_
  (repeat' (first | (refine m1 ?_;intros) | (refine mx_gsplit rJ rJ rJ (fun h=>?_) (fun h=>?_) <;> try (exfalso;omega))))
  refine mx_val rJ rJ rJ (vl_neqT_f (a:=(⟨[],[]⟩:T2)) (b:=⟨[],[]⟩) rJ rJ rfl) ?_
  (repeat' (first | (refine m1 ?_;intros) | (refine mx_gsplit rJ rJ rJ (fun h=>?_) (fun h=>?_) <;> try (exfalso;omega))))
  (refine rn ?_;intros)
  refine Ex.loop [6] (fun z vs L'=>∃ j:Nat,j≤2∧z=2 - j∧vs=[.int .i64 j]∧L'=L1) 2 ⟨0,by omega,rfl,rfl,rfl⟩ ?_
  rintro z vs g2 L2 ⟨j,hj,rfl,rfl,rfl⟩
  refine Ex.keep [0,1,5,6] rG (fun gk=>?_)
  rcases (show j=0∨j=1∨j=2 by omega) with rfl | rfl | rfl
  ·(refine rn ?_;intros)
   (refine mu17 ?_;intros)
   (refine rn ?_;intros)
   refine Ex.loop [7] (fun z vs L'=>z=0∧vs=[.int .i64 0]∧L'=L2) 0 ⟨rfl,rfl,rfl⟩ ?_
   rintro z vs g3 L3 ⟨rfl,rfl,rfl⟩
   refine Ex.keep [0,1,5,6,7] rG (fun gk=>?_)
   (refine rn ?_;intros)
   refine rnd_n ⟨2 - (0+1),L3,by omega,rP,0+1,by omega,rfl,lcons (vint rM) rfl,rfl⟩
  ·(refine rn ?_;intros)
   (refine mu17 ?_;intros)
   (refine rn ?_;intros)
   refine Ex.loop [7] (fun z vs L'=>z=0∧vs=[.int .i64 0]∧L'=L2) 0 ⟨rfl,rfl,rfl⟩ ?_
   rintro z vs g3 L3 ⟨rfl,rfl,rfl⟩
   refine Ex.keep [0,1,5,6,7] rG (fun gk=>?_)
   (refine rn ?_;intros)
   refine rnd_n ⟨2 - (1+1),L3,by omega,rP,1+1,by omega,rfl,lcons (vint rM) rfl,rfl⟩
  ·(refine rn ?_;intros)
   refine rnd_n ⟨1 - (0+1),L2,by omega,rP,0+1,by omega,rfl,lcons (vint rM) rfl,rfl⟩
 ·exact re1
theorem nm0_eq (key:List UInt8):(WSt.new cN).step cN (nmS 2 ⟨1,key,0,[]⟩)=nm0 key:=rfl
theorem nm1_eq (key:List UInt8):(nm0 key).1.roundsW cN 2=nm1 key:=rfl
theorem nm2_eq (key:List UInt8):(nm1 key).step cN (nmS 2 ⟨2,key,0,[]⟩)=nm2 key:=rfl
theorem nm3_eq (key:List UInt8):(nm2 key).1.step cN (nmS 2 ⟨1,key,0,[]⟩)=nm3 key:=rfl
theorem nm4_eq (key:List UInt8):(nm3 key).1.step cN (nmS 0 ⟨3,key,0,[110,97,109,101]⟩)=nm4 key:=rfl
theorem nm5_eq (key:List UInt8):(nm4 key).1.step cN (nmS 1 ⟨2,key,0,[]⟩)=nm5 key:=rfl
theorem nmR_0 (key:List UInt8) (o:Nat):nmR key o 0=(nm5 key).1:=rfl
theorem nmR_s (key:List UInt8) (o i:Nat):nmR key o (i+1)=nmB (nmB (nmC (nmB (nmA (nmR key o i) (nmO o i))))):=rfl
theorem nmA_eq (w:WSt) (r:Int):(w.step cN (nmK 1 r 0)).1=nmA w r:=rfl
theorem nmB_eq (w:WSt):(w.step cN (nmK 4 0 ((w.fl.length:Int) - 1))).1=nmB w:=rfl
theorem nmC_eq (w:WSt):(w.step cN (nmK 2 3 0)).1=nmC w:=rfl
theorem nmE_eq (key:List UInt8) (o:Nat):(nmR key o 3).roundsW cN 20=nmE key o:=rfl
@[reducible] def matC:List Value:=[.int .i64 0,.int .i64 1,.int .i64 2,.int .i64 0,.int .i64 2,.int .i64 1,.int .i64 1,.int .i64 0,.int .i64 2,.int .i64 1,.int .i64 2,.int .i64 0,.int .i64 2,.int .i64 0,.int .i64 1,.int .i64 2,.int .i64 1,.int .i64 0]
theorem nmO_eq (o i:Nat):(nmZ o).getD i 0=nmO o i:=rfl
theorem nmZ_eq (o:Nat) (ho:o<6):intsOf .i64 (List.drop (0+o * 3) matC)=some (nmZ o):=by
 have:o=0∨o=1∨o=2∨o=3∨o=4∨o=5:=by omega
 rcases this with rfl | rfl | rfl | rfl | rfl | rfl <;> rfl
theorem nmZ_len (o:Nat) (ho:o<6):3≤(nmZ o).length:=by
 have:o=0∨o=1∨o=2∨o=3∨o=4∨o=5:=by omega
 rcases this with rfl | rfl | rfl | rfl | rfl | rfl <;> decide
theorem one_ct {cs:List Ct} {key:List UInt8} (h:cs.map Ct.con=[⟨key,false,false,[],[],[],[]⟩]):∃ v0 v1 o0 o1,cs=[ctE key v0 v1 o0 o1]:=by
 obtain ⟨c,rfl⟩:∃ c,cs=[c]:=by
  have:=congrArg List.length h
  rw [List.length_map] at this
  exact List.length_eq_one_iff.1 this
 obtain ⟨k,h0,h1,f0,f1,v0,o0,s0,v1,o1,s1⟩:=c
 simp only [List.map_cons,List.map_nil,Ct.con,List.cons.injEq,Con.mk.injEq,List.map_eq_nil_iff,and_true] at h
 obtain ⟨rfl,rfl,rfl,rfl,rfl,rfl,rfl⟩:=h
 exact ⟨v0,v1,o0,o1,rfl⟩
theorem ctE_opn (key:List UInt8) (v0 v1:Value) (o0:v0.oneCell'=true) (o1:v1.oneCell'=true) (M:List Assn):Sub (RowT v1 9 ([]:List Txt)::RowT v0 9 ([]:List Txt)::M) (Star ([ctE key v0 v1 o0 o1].map Ct.own)::M) :=
 Sub.trans (Two.opn _ _ _) (Star.opens [(ctE key v0 v1 o0 o1).own] M)
attribute [local irreducible] nm0 nm1 nm2 nm3 nm4 nm5 nmR nmE nmA nmB nmC nmI nmZ nmO
theorem topNames_F (e:Ed) (n:Nat) (M:List Assn) (hk:e.key.length≤140737488355328) (hv:e.value.length≤140737488355328) (hn:n<256) :
  Fn Tryz.prog 9 #[e.val,.int .u8 n] M fun v L'=>v=.bool true∧L'=M:=by
 obtain ⟨i,hi,hkey⟩:=nm_key e
 obtain ⟨o,ho⟩:∃ o,o=n % 6:=⟨_,rfl⟩
 have ho6:o<6:=by omega
 have hx:=nm_all i hi o ho6
 rw [← hkey] at hx
 have hkl:e.fit.key.length≤1000:=by have:=nmKey_len i;rw [← hkey] at this;omega
 clear hkey hi
 obtain ⟨⟨a0,a2,a3,a4,a5⟩,hu,⟨hl2,hl1⟩,hend⟩:=hx
 obtain ⟨gd0,gd1,gd2,gd3,gd4,gd5⟩:=nm_gd e.fit.key
 refine Fn.of_ex Tryz.func9 rfl Tryz.ntmps9 rfl ?_
 (refine rn ?_;(repeat (first | intro (g:Nat) | intro (o:O1 _) | intro (cs:List Value) | intro (hcs:_=List.set _ _ _) | intro (zs:List _) | intro h)))
 refine st_callIs [] rJ Tryz.call10 rJ rJ (shown_F _) ?_
 rintro _ _ ⟨rfl,rfl⟩
 (refine rn ?_;(repeat (first | intro (g:Nat) | intro (o:O1 _) | intro (cs:List Value) | intro (hcs:_=List.set _ _ _) | intro (zs:List _) | intro h)))
 refine st_callIs [] rJ Tryz.call26 rJ rJ (fit_spec e _ hk hv) ?_
 rintro _ _ ⟨rfl,rfl⟩
 generalize e.fit=x at a0 a2 a3 a4 a5 hu hl2 hl1 hend gd0 gd1 gd2 gd3 gd4 gd5 hkl ⊢
 (refine rn ?_;(repeat (first | intro (g:Nat) | intro (o:O1 _) | intro (cs:List Value) | intro (hcs:_=List.set _ _ _) | intro (zs:List _) | intro h)))
 revert g
 intro g6
 refine st_callIs [] rJ Tryz.call21 rJ rJ (wNewA cN _ cN_may) ?_
 rintro _ _ ⟨gw,rfl,rfl⟩
 have g0:=WGd.new cN_may
 (refine rn ?_;(repeat (first | intro (g:Nat) | intro (o:O1 _) | intro (cs:List Value) | intro (hcs:_=List.set _ _ _) | intro (zs:List _) | intro h)))
 refine st_callIs [] rJ Tryz.call17 rE rJ (wStepA (k:=198) gw cN (WSt.new cN) (nmS 2 ⟨1,x.key,0,[]⟩) _ ((g0.mono rM).ok rM) (Nat.le_refl _) (nmS_ok _ _ hkl (by simp))) ?_
 rintro _ _ ⟨rfl,rfl⟩
 rw [nm0_eq,a0]
 (refine rn ?_;(repeat (first | intro (g:Nat) | intro (o:O1 _) | intro (cs:List Value) | intro (hcs:_=List.set _ _ _) | intro (zs:List _) | intro h)))
 refine st_callIs [] rJ Tryz.call24 rE rJ (wRoundsA (kk:=198) gw cN (nm0 x.key).1 2 _ (Nat.le_refl _) rM (gd0.rdOk 2 rM)) ?_
 rintro _ _ rfl
 rw [nm1_eq]
 (refine rn ?_;(repeat (first | intro (g:Nat) | intro (o:O1 _) | intro (cs:List Value) | intro (hcs:_=List.set _ _ _) | intro (zs:List _) | intro h)))
 refine st_callIs [] rJ Tryz.call17 rE rJ (wStepA (k:=198) gw cN (nm1 x.key) (nmS 2 ⟨2,x.key,0,[]⟩) _ ((gd1.mono rM).ok rM) (Nat.le_refl _) (nmS_ok _ _ hkl (by simp))) ?_
 rintro _ _ ⟨rfl,rfl⟩
 rw [nm2_eq,a2]
 (refine rn ?_;(repeat (first | intro (g:Nat) | intro (o:O1 _) | intro (cs:List Value) | intro (hcs:_=List.set _ _ _) | intro (zs:List _) | intro h)))
 refine st_callIs [] rJ Tryz.call17 rE rJ (wStepA (k:=198) gw cN (nm2 x.key).1 (nmS 2 ⟨1,x.key,0,[]⟩) _ ((gd2.mono rM).ok rM) (Nat.le_refl _) (nmS_ok _ _ hkl (by simp))) ?_
 rintro _ _ ⟨rfl,rfl⟩
 rw [nm3_eq,a3]
 (refine rn ?_;(repeat (first | intro (g:Nat) | intro (o:O1 _) | intro (cs:List Value) | intro (hcs:_=List.set _ _ _) | intro (zs:List _) | intro h)))
 refine st_callIs [] rJ Tryz.call17 rE rJ (wStepA (k:=198) gw cN (nm3 x.key).1 (nmS 0 ⟨3,x.key,0,[110,97,109,101]⟩) _ ((gd3.mono rM).ok rM) (Nat.le_refl _) (nmS_ok _ _ hkl (by simp))) ?_
 rintro _ _ ⟨rfl,rfl⟩
 rw [nm4_eq,a4]
 (refine rn ?_;(repeat (first | intro (g:Nat) | intro (o:O1 _) | intro (cs:List Value) | intro (hcs:_=List.set _ _ _) | intro (zs:List _) | intro h)))
 refine st_callIs [] rJ Tryz.call17 rE rJ (wStepA (k:=198) gw cN (nm4 x.key).1 (nmS 1 ⟨2,x.key,0,[]⟩) _ ((gd4.mono rM).ok rM) (Nat.le_refl _) (nmS_ok _ _ hkl (by simp))) ?_
 rintro _ _ ⟨rfl,rfl⟩
 rw [nm5_eq,a5]
 (refine rn ?_;(repeat (first | intro (g:Nat) | intro (o:O1 _) | intro (cs:List Value) | intro (hcs:_=List.set _ _ _) | intro (zs:List _) | intro h)))
 revert g
 intro g14
 rw [← nmR_0 x.key o]
 have e0:((n:Int)).tmod 6=(o:Int):=by rw [Int.tmod_eq_emod_of_nonneg rM];omega
 refine Ex.sub (L':=WldA gw cN (nmR x.key o 0)::Blk g14 96 matC::Blk g6 26 x.cells::M) ?_ rP
 refine Ex.loop [15] (fun z vs L'=>∃ j:Nat,j≤3∧z=3 - j∧vs=[.int .i64 j]∧L'=WldA gw cN (nmR x.key o j)::Blk g14 96 matC::Blk g6 26 x.cells::M) 3 ⟨0,by omega,rfl,rfl,rfl⟩ ?_
 rintro z vs g1 L1 ⟨j,hj,rfl,rfl,rfl⟩
 refine Ex.keep [1,6,7,9,10,11,12,13,14,15] rG (fun gk=>?_)
 have gj:=nmR_gd x.key o j hj
 by_cases hlt:j<3
 ·have hlz:=nmZ_len o ho6
  (refine rn ?_;(repeat (first | intro (o:O1 _) | intro (cs:List Value) | intro (hcs:_=List.set _ _ _) | intro (zs:List _) | intro h)))
  refine ExL.val rJ rJ rJ (vl_loadI (j:=(j:Int).toNat) 1 (zs:=nmZ o) rJ rJ rJ (nmZ_eq o ho6) rM) ?_
  rw [show (nmZ o).getD (j:Int).toNat 0=nmO o j from nmO_eq o j]
  (refine rn ?_;(repeat (first | intro (o:O1 _) | intro (cs:List Value) | intro (hcs:_=List.set _ _ _) | intro h)))
  have gA:=gj.step rM (nmK 1 (nmO o j) 0)
  refine st_callIs [] rJ Tryz.call17 rE rJ (wStepA (k:=198) gw cN (nmR x.key o j) (nmK 1 (nmO o j) 0) _ ((gj.mono rM).ok rM) (Nat.le_refl _) (nmK_ok _ _ _)) ?_
  rintro _ _ ⟨rfl,rfl⟩
  rw [nmA_eq] at gA ⊢
  obtain ⟨wA,hwA⟩:∃ y,y=nmA (nmR x.key o j) (nmO o j):=⟨_,rfl⟩
  rw [← hwA] at gA ⊢
  (refine rn ?_;(repeat (first | intro (o:O1 _) | intro (cs:List Value) | intro (hcs:_=List.set _ _ _) | intro h)))
  have hf:=gA.fl.1
  refine st_callIs [] rJ Tryz.call30 rE rJ (wFlyingA gw cN wA _) ?_
  rintro _ _ ⟨rfl,rfl⟩
  (refine rn ?_;(repeat (first | intro (o:O1 _) | intro (cs:List Value) | intro (hcs:_=List.set _ _ _) | intro h)))
  have gB:=gA.step rM (nmK 4 0 ((wA.fl.length:Int) - 1))
  refine st_callIs [] rJ Tryz.call17 rE rJ (wStepA (k:=198) gw cN wA (nmK 4 0 ((wA.fl.length:Int) - 1)) _ ((gA.mono rM).ok rM) (Nat.le_refl _) (nmK_ok _ _ _)) ?_
  rintro _ _ ⟨rfl,rfl⟩
  rw [nmB_eq] at gB ⊢
  obtain ⟨wB,hwB⟩:∃ y,y=nmB wA:=⟨_,rfl⟩
  rw [← hwB] at gB ⊢
  (refine rn ?_;(repeat (first | intro (o:O1 _) | intro (cs:List Value) | intro (hcs:_=List.set _ _ _) | intro h)))
  have gC:=gB.step rM (nmK 2 3 0)
  refine st_callIs [] rJ Tryz.call17 rE rJ (wStepA (k:=198) gw cN wB (nmK 2 3 0) _ ((gB.mono rM).ok rM) (Nat.le_refl _) (nmK_ok _ _ _)) ?_
  rintro _ _ ⟨rfl,rfl⟩
  rw [nmC_eq] at gC ⊢
  obtain ⟨wC,hwC⟩:∃ y,y=nmC wB:=⟨_,rfl⟩
  rw [← hwC] at gC ⊢
  (refine rn ?_;(repeat (first | intro (o:O1 _) | intro (cs:List Value) | intro (hcs:_=List.set _ _ _) | intro h)))
  have hf:=gC.fl.1
  refine st_callIs [] rJ Tryz.call30 rE rJ (wFlyingA gw cN wC _) ?_
  rintro _ _ ⟨rfl,rfl⟩
  (refine rn ?_;(repeat (first | intro (o:O1 _) | intro (cs:List Value) | intro (hcs:_=List.set _ _ _) | intro h)))
  have gD:=gC.step rM (nmK 4 0 ((wC.fl.length:Int) - 1))
  refine st_callIs [] rJ Tryz.call17 rE rJ (wStepA (k:=198) gw cN wC (nmK 4 0 ((wC.fl.length:Int) - 1)) _ ((gC.mono rM).ok rM) (Nat.le_refl _) (nmK_ok _ _ _)) ?_
  rintro _ _ ⟨rfl,rfl⟩
  rw [nmB_eq] at gD ⊢
  obtain ⟨wD,hwD⟩:∃ y,y=nmB wC:=⟨_,rfl⟩
  rw [← hwD] at gD ⊢
  (refine rn ?_;(repeat (first | intro (o:O1 _) | intro (cs:List Value) | intro (hcs:_=List.set _ _ _) | intro h)))
  have hf:=gD.fl.1
  refine st_callIs [] rJ Tryz.call30 rE rJ (wFlyingA gw cN wD _) ?_
  rintro _ _ ⟨rfl,rfl⟩
  (refine rn ?_;(repeat (first | intro (o:O1 _) | intro (cs:List Value) | intro (hcs:_=List.set _ _ _) | intro h)))
  have gE:=gD.step rM (nmK 4 0 ((wD.fl.length:Int) - 1))
  refine st_callIs [] rJ Tryz.call17 rE rJ (wStepA (k:=198) gw cN wD (nmK 4 0 ((wD.fl.length:Int) - 1)) _ ((gD.mono rM).ok rM) (Nat.le_refl _) (nmK_ok _ _ _)) ?_
  rintro _ _ ⟨rfl,rfl⟩
  rw [nmB_eq] at gE ⊢
  obtain ⟨wE,hwE⟩:∃ y,y=nmB wD:=⟨_,rfl⟩
  rw [← hwE] at gE ⊢
  (refine rn ?_;(repeat (first | intro (o:O1 _) | intro (cs:List Value) | intro (hcs:_=List.set _ _ _) | intro h)))
  have hs:nmR x.key o (j+1)=wE:=by rw [nmR_s,hwE,hwD,hwC,hwB,hwA]
  refine rnd_n ⟨3 - (j+1),WldA gw cN wE::Blk g14 96 matC::Blk g6 26 x.cells::M,by omega,rP,j+1,by omega,rfl,lcons (vint rM) rfl,by rw [hs]⟩
 ·obtain rfl:j=3:=by omega
  have hn4:=gj.n
  have hh:(nmR x.key o 3).has 3:=⟨by omega,by rw [hn4];decide⟩
  (refine rn ?_;(repeat (first | intro (o:O1 _) | intro (cs:List Value) | intro (hcs:_=List.set _ _ _) | intro h)))
  refine st_callIs [] rJ Tryz.call23 rE rJ (wListA (k:=198) gw cN (nmR x.key o 3) 3 _ ((gj.mono rM).ok rM) (Nat.le_refl _) hh) ?_
  rintro _ _ ⟨v16,cs,o16,hcs,rfl,rfl⟩
  obtain ⟨v0,v1,o0,o1,rfl⟩:=one_ct (hcs.trans hl1)
  rw [show ((nmR x.key o 3).node 3).list.2=0 from hl2]
  (refine rn ?_;(repeat (first | intro (o:O1 _) | intro (cs:List Value) | intro (hcs:_=List.set _ _ _) | intro h)))
  refine Ex.sub (L':=Cts_ v16 [ctE x.key v0 v1 o0 o1]::RowT v1 9 ([]:List Txt)::RowT v0 9 ([]:List Txt)::WldA gw cN (nmR x.key o 3)::Blk g6 26 x.cells::M) ?_ (Sub.trans (B:=RowT v1 9 ([]:List Txt)::RowT v0 9 ([]:List Txt)::Cts_ v16 [ctE x.key v0 v1 o0 o1]::WldA gw cN (nmR x.key o 3)::Blk g6 26 x.cells::M) rP (Sub.trans (ctE_opn x.key v0 v1 o0 o1 _) rP))
  (refine mu20 ?_;(repeat (first | intro (o:O1 _) | intro (cs:List Value) | intro (hcs:_=List.set _ _ _) | intro h)))
  (refine rn ?_;(repeat (first | intro (o:O1 _) | intro (cs:List Value) | intro (hcs:_=List.set _ _ _) | intro h)))
  have hrd:=gj.roundsU 20 rM
  refine st_callIs [3] rJ Tryz.call24 rE rJ (wRoundsA (kk:=198) gw cN (nmR x.key o 3) 20 _ (Nat.le_refl _) rM hrd.1) ?_
  rintro _ _ rfl
  have gE:=hrd.2
  rw [nmE_eq] at gE ⊢
  have hnE:=gE.n
  clear hcs hrd hu a0 a2 a3 a4 a5 gd0 gd1 gd2 gd3 gd4 gd5
  (refine rn ?_;(repeat (first | intro (o:O1 _) | intro (cs:List Value) | intro (hcs:_=List.set _ _ _) | intro h)))
  refine Ex.sub (L':=WldA gw cN (nmE x.key o)::Cts_ v16 [ctE x.key v0 v1 o0 o1]::RowT v1 9 ([]:List Txt)::RowT v0 9 ([]:List Txt)::M) ?_ rP
  refine Ex.loop [19] (fun z vs L'=>∃ r:Nat,r≤4∧z=4 - r∧vs=[.int .i64 r]∧L'=WldA gw cN (nmE x.key o)::Cts_ v16 [ctE x.key v0 v1 o0 o1]::RowT v1 9 ([]:List Txt)::RowT v0 9 ([]:List Txt)::M) 4 ⟨0,by omega,rfl,rfl,rfl⟩ ?_
  rintro z vs g2 L2 ⟨r,hr4,rfl,rfl,rfl⟩
  refine Ex.keep [7,9,10,11,12,13,16,17,18,19] rG (fun gk=>?_)
  by_cases hlr:r<4
  ·have hh2:(nmE x.key o).has (r:Int):=⟨by omega,by rw [hnE];show (r:Int)<4;omega⟩
   (refine rn ?_;(repeat (first | intro (o:O1 _) | intro (cs:List Value) | intro (hcs:_=List.set _ _ _) | intro h)))
   refine st_callIs [] rJ Tryz.call23 rE rJ (wListA (k:=198) gw cN (nmE x.key o) r _ (gE.ok rM) (Nat.le_refl _) hh2) ?_
   rintro _ _ ⟨vu,cs,ou,hcs,rfl,rfl⟩
   rw [hend r hlr] at hcs ⊢
   obtain ⟨w0,w1,p0,p1,rfl⟩:=one_ct (hcs.trans hl1)
   rw [hl2]
   (refine rn ?_;(repeat (first | intro (o:O1 _) | intro h)))
   refine ExL.sub (L':=Cts_ vu [ctE x.key w0 w1 p0 p1]::RowT w1 9 ([]:List Txt)::RowT w0 9 ([]:List Txt)::WldA gw cN (nmE x.key o)::Cts_ v16 [ctE x.key v0 v1 o0 o1]::RowT v1 9 ([]:List Txt)::RowT v0 9 ([]:List Txt)::M) ?_ (Sub.trans (B:=RowT w1 9 ([]:List Txt)::RowT w0 9 ([]:List Txt)::Cts_ vu [ctE x.key w0 w1 p0 p1]::WldA gw cN (nmE x.key o)::Cts_ v16 [ctE x.key v0 v1 o0 o1]::RowT v1 9 ([]:List Txt)::RowT v0 9 ([]:List Txt)::M) rP (Sub.trans (ctE_opn x.key w0 w1 p0 p1 _) rP))
   refine st_callIs [] rJ Tryz.call31 rE rJ (sameC_F vu v16 w0 w1 v0 v1 p0 p1 o0 o1 x.key _ (RdT.row 2 rfl) (RdT.row 1 rfl) (RdT.row 6 rfl) (RdT.row 5 rfl) (RdT.row 0 rfl) (RdT.row 4 rfl)) ?_
   rintro _ _ ⟨rfl,rfl⟩
   (refine rn ?_;(repeat (first | intro (o:O1 _) | intro h)))
   refine rnd_n ⟨4 - (r+1),WldA gw cN (nmE x.key o)::Cts_ v16 [ctE x.key v0 v1 o0 o1]::RowT v1 9 ([]:List Txt)::RowT v0 9 ([]:List Txt)::M,by omega,rP,r+1,by omega,rfl,lcons (vint rM) rfl,rfl⟩
  ·obtain rfl:r=4:=by omega
   exact re1
theorem topNames_fn (e:Ed) (n:Int) (W:World) (hk:e.key.length≤140737488351232) (hv:e.value.length≤140737488351232) (hn:0≤n∧n≤255) :
  Fn Tryz.prog 9 #[.agg e.cells.toArray,.int .u8 n] [Base W] fun v L'=>v=.bool true∧L'=[Base W]:=by
 obtain ⟨k,rfl⟩:=Int.eq_ofNat_of_zero_le hn.1
 exact topNames_F e k [Base W] rM rM rM
end
end
section
open Go.ChangeShapes Go.WideShapes Go.ChangeAt Go.RowKit
set_option maxRecDepth 20000 in
theorem topNames_j2:(laidOutB Tryz.prog)=true:=by kernel_rfl
set_option maxRecDepth 20000 in
theorem topNames_j3:(mapsRowed Tryz.prog)=true:=by kernel_rfl
set_option maxRecDepth 20000 in
theorem topNames_j5:(namedTie Tryz.prog Rows.topNamesRow.named Rows.topNamesSpec.vars)=true:=by kernel_rfl
set_option maxRecDepth 20000 in
theorem topNames_j10:((Rows.topNamesRow.inPlace == Tryz.prog.inPlace 9))=true:=by kernel_rfl
set_option maxRecDepth 20000 in
theorem topNames_j11:((Rows.topNamesRow.unfollowed == Tryz.prog.unfollowed 9))=true:=by kernel_rfl
set_option maxRecDepth 20000 in
theorem topNames_j12:((Rows.topNamesRow.recurses == Tryz.prog.recurses 9))=true:=by kernel_rfl
set_option maxRecDepth 20000 in
theorem topNames_j13:((Rows.topNamesRow.named == Tryz.prog.varsNamed 9))=true:=by kernel_rfl
set_option maxRecDepth 20000 in
theorem topNames_j23:((Rows.topNamesRow.plainKeys == Tryz.prog.plainKeys))=true:=by kernel_rfl
set_option maxRecDepth 20000 in
theorem topNames_j27:((Rows.topNamesRow.lifted == Tryz.prog.liftsFinal))=true:=by kernel_rfl
theorem topNames_bt {a b:Bool} (h:a=true) (k:b=true):(a && b)=true:=by rw [h,k];rfl
set_option maxRecDepth 20000 in
theorem topNames_jf:joinedFacts Tryz.prog 9 Tryz.f9 Rows.topNamesSpec Rows.topNamesRow=true:=by
 unfold joinedFacts
 exact (topNames_bt (topNames_bt (topNames_bt (topNames_bt (topNames_bt (topNames_bt (topNames_bt (topNames_bt (topNames_bt (topNames_bt (topNames_bt (topNames_bt (topNames_bt (topNames_bt (topNames_bt (topNames_bt (topNames_bt (topNames_bt (topNames_bt (topNames_bt (topNames_bt (topNames_bt (topNames_bt (topNames_bt (topNames_bt (topNames_bt (topNames_bt (topNames_bt (topNames_bt (topNames_bt (topNames_bt rQ topNames_j2) topNames_j3) rQ) topNames_j5) rQ) rQ) rQ) rQ) topNames_j10) topNames_j11) topNames_j12) topNames_j13) rQ) rQ) rQ) rQ) rQ) rQ) rQ) rQ) rQ) topNames_j23) rQ) rQ) rQ) topNames_j27) rQ) rQ) rQ) rQ) rQ)
set_option maxRecDepth 20000 in
theorem topNames_in:Tryz.f9.isInstance Tryz.prog Rows.topNamesRow.origin Rows.topNamesRow.targs:=of_decide_eq_true rQ
set_option maxRecDepth 20000 in
theorem topNames_wr:Tryz.f9.isWrapper Tryz.prog Rows.topNamesRow.wrapper Rows.topNamesRow.mainSum:=by unfold Func.isWrapper;first | (rw [if_pos (by decide +kernel)];kernel_rfl) | (rw [if_neg (by decide +kernel)];exact ⟨rfl,rfl⟩)
end
end Go.Proofs.YtogcfijlhpaeeaaGreat
