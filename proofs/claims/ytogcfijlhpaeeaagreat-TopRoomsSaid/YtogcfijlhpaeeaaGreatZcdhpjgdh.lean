/- Texts, one behind the other. No condition. -/
import Derived.Lib.AppendZeros
import Derived.Test.YtogcfijlhpaeeaaGreatChecked
import Derived.Test.YtogcfijlhpaeeaaGreatZajmfbmbb
import Derived.Test.YtogcfijlhpaeeaaGreatZehjcikgl
import Derived.Test.YtogcfijlhpaeeaaGreatZgaognfij
import Derived.Test.YtogcfijlhpaeeaaGreatZlfhngpji
open Go.RowKit
set_option linter.unusedSimpArgs false
set_option linter.unusedVariables false
set_option linter.unusedSectionVars false
set_option maxHeartbeats 32000000
namespace Go.Proofs.YtogcfijlhpaeeaaGreat
section
structure Cfg where
 n:Int
 w:Int
 q:Int
 h:Int
 l:Int
 p:Int
instance:Rep Cfg:=⟨6,fun c=>[.int .i64 c.n,.int .i64 c.w,.int .i64 c.q,.int .i64 c.h,.int .i64 c.l,.int .i64 c.p],by decide,fun _=>rfl,fun _=>rfl⟩
structure Ct where
 key:List UInt8
 has0:Bool
 has1:Bool
 f0:List UInt8
 f1:List UInt8
 v0:Value
 o0:v0.oneCell'=true
 s0:List Txt
 v1:Value
 o1:v1.oneCell'=true
 s1:List Txt
instance:Rep Ct:=⟨7,fun c=>[.string (S c.key),.bool c.has0,.bool c.has1,.string (S c.f0),.string (S c.f1),c.v0,c.v1],by decide,fun _=>rfl,fun c=>by simp [c.o0,c.o1];exact ⟨rfl,rfl,rfl,rfl,rfl⟩⟩
instance:ZRep Tryz.prog 75 Ct:=⟨⟨[],false,false,[],[],.slice none 0 0,rfl,[],.slice none 0 0,rfl,[]⟩,by kernel_rfl,by kernel_rfl⟩
def Ct.Rd (L:List Assn) (c:Ct):Prop:=RdT L c.v0 c.s0∧RdT L c.v1 c.s1
theorem Ct.Rd.sub {L L':List Assn} {c:Ct} (h:c.Rd L') (hs:Sub L' L):c.Rd L:=⟨h.1.sub hs,h.2.sub hs⟩
def Ct.set (c:Ct) (label:Int):List Txt:=if label=0 then c.s0 else c.s1
def inB (n most:Int):Bool:=decide (1≤n∧n≤most)
def mayC (c:Cfg):Bool:=inB c.n 5 && inB c.w 4 && inB c.q 8 && inB c.h 20 && inB c.l 4 && inB c.p 3
def posK (l:List Ct) (k:List UInt8):Int:=if l.findIdx (fun c=>decide (c.key=k))<l.length then (l.findIdx (fun c=>decide (c.key=k)):Int) else -1
def hasT (l:List Txt) (v:List UInt8):Bool:=l.any fun t=>decide (t.l=v)
def chkAt (P:Int) (c:Ct) (e:Ed):Int:=if e.kind=4 then (if P≤(c.set e.label).length then 15 else 0) else if e.kind=5 then (if hasT (c.set e.label) e.value=true then 0 else 16) else 0
def chk (L P:Int) (l:List Ct) (e:Ed):Int :=
 if e.err≠0 then e.err else
 if e.kind=1 then (if 0≤posK l e.key then 13 else if L≤l.length then 15 else 0) else
 if posK l e.key<0 then 14 else
 match l[(posK l e.key).toNat]? with
 | none=>14
 | some c=>chkAt P c e
theorem posK_ge {l:List Ct} {k:List UInt8} (h:∀ j (hj:j<l.length),(l[j]'hj).key≠k):posK l k=-1:=by
 unfold posK
 rw [if_neg]
 intro hlt
 have:=List.findIdx_getElem (w:=hlt)
 exact h _ hlt (of_decide_eq_true this)
theorem posK_at {l:List Ct} {k:List UInt8} {i:Nat} (hi:i<l.length) (he:(l[i]'hi).key=k) (h:∀ j (hj:j<l.length),j<i→(l[j]'hj).key≠k):posK l k=i:=by
 have hf:l.findIdx (fun c:Ct=>decide (c.key=k))=i:=by
  rcases Nat.lt_trichotomy (l.findIdx (fun c:Ct=>decide (c.key=k))) i with h1 | h1 | h1
  ·exact absurd (of_decide_eq_true (List.findIdx_getElem (p:=fun c:Ct=>decide (c.key=k)) (w:=Nat.lt_trans h1 hi))) (h _ rM h1)
  ·exact h1
  ·have:=List.not_of_lt_findIdx h1
   simp [he] at this
 unfold posK
 rw [hf,if_pos hi]
theorem posK_lt (l:List Ct) (k:List UInt8):posK l k<l.length∧-1≤posK l k:=by
 unfold posK;split <;> omega
theorem chk_err {L P:Int} {l:List Ct} {e:Ed} (h:e.err≠0):chk L P l e=e.err:=by unfold chk;rw [if_pos h]
theorem chk_new {L P:Int} {l:List Ct} {e:Ed} (h:e.err=0) (hk:e.kind=1):chk L P l e=if 0≤posK l e.key then 13 else if L≤l.length then 15 else 0:=by
 unfold chk;rw [if_neg rM,if_pos hk]
theorem chk_none {L P:Int} {l:List Ct} {e:Ed} (h:e.err=0) (hk:e.kind≠1) (hp:posK l e.key=-1):chk L P l e=14:=by
 unfold chk;rw [if_neg rM,if_neg hk,if_pos rM]
theorem chk_at {L P:Int} {l:List Ct} {e:Ed} {i:Nat} (hi:i<l.length) (h:e.err=0) (hk:e.kind≠1) (hp:posK l e.key=i):chk L P l e=chkAt P (l[i]'hi) e:=by
 unfold chk;rw [if_neg rM,if_neg hk,if_neg rM,hp,Int.toNat_natCast,List.getElem?_eq_getElem hi]
theorem Ed.err_ok {e:Ed} (h:e.err=0):1≤e.kind∧e.kind≤5∧(e.label=0∨e.label=1):=by
 unfold Ed.err at h
 by_cases hk:e.kind<1∨5<e.kind
 ·rw [if_pos hk] at h;omega
 ·rw [if_neg hk] at h
  by_cases h2:keyE e.key≠0
  ·rw [if_pos h2] at h;exact absurd h h2
  ·rw [if_neg h2] at h
   refine ⟨by omega,by omega,?_⟩
   by_cases h3:e.kind=1∨e.kind=2
   ·rw [if_pos h3] at h
    by_cases h4:e.label≠0
    ·rw [if_pos h4] at h;omega
    ·left;omega
   ·rw [if_neg h3] at h
    by_cases h4:labelE e.label≠0
    ·rw [if_pos h4] at h;exact absurd h h4
    ·unfold labelE at h4
     split at h4
     ·omega
     ·exact absurd (by decide) h4
end
section
def Ct.con (c:Ct):Con:=⟨c.key,c.has0,c.has1,c.f0,c.f1,c.s0.map (·.l),c.s1.map (·.l)⟩
@[reducible] def conC (key:List UInt8) (h:Nat→Bool) (f:Nat→List UInt8) (v:Nat→Value):List Value:=[.string (S key),.bool (h 0),.bool (h 1),.string (S (f 0)),.string (S (f 1)),v 0,v 1]
def fset {α:Type} (h:Nat→α) (i:Nat) (x:α):Nat→α:=fun j=>if j=i then x else h j
theorem conC_h {key:List UInt8} {h:Nat→Bool} {f:Nat→List UInt8} {v:Nat→Value} {i:Nat} (hi:i<2) (b:Bool) {o:Nat} (ho:o=1+i):(conC key h f v).set o (.bool b)=conC key (fset h i b) f v:=by
 subst ho
 have:i=0∨i=1:=by omega
 rcases this with rfl | rfl <;> rfl
theorem conC_f {key:List UInt8} {h:Nat→Bool} {f:Nat→List UInt8} {v:Nat→Value} {i:Nat} (hi:i<2) (b:List UInt8) {o:Nat} (ho:o=3+i):(conC key h f v).set o (.string (S b))=conC key h (fset f i b) v:=by
 subst ho
 have:i=0∨i=1:=by omega
 rcases this with rfl | rfl <;> rfl
theorem conC_v {key:List UInt8} {h:Nat→Bool} {f:Nat→List UInt8} {v:Nat→Value} {i:Nat} (hi:i<2) (b:Value) {o:Nat} (ho:o=5+i):(conC key h f v).set o b=conC key h f (fset v i b):=by
 subst ho
 have:i=0∨i=1:=by omega
 rcases this with rfl | rfl <;> rfl
theorem conC_congr {key:List UInt8} {h h':Nat→Bool} {f f':Nat→List UInt8} {v v':Nat→Value} (a:∀ j,j<2→h j=h' j) (b:∀ j,j<2→f j=f' j) (c:∀ j,j<2→v j=v' j):conC key h f v=conC key h' f' v':=by
 unfold conC
 rw [a 0 rM,a 1 rM,b 0 rM,b 1 rM,c 0 rM,c 1 rM]
def rowsC (ss:Nat→List Txt) (w:Nat→Value) (M:List Assn):Nat→List Assn
 | 0=>M
 | i+1=>RowT (w i) 9 (ss i)::rowsC ss w M i
theorem rowsC_succ (ss:Nat→List Txt) (w:Nat→Value) (M:List Assn) (i:Nat):rowsC ss w M (i+1)=RowT (w i) 9 (ss i)::rowsC ss w M i:=rfl
theorem rowsC_zero (ss:Nat→List Txt) (w:Nat→Value) (M:List Assn):rowsC ss w M 0=M:=rfl
theorem rowsC_sub (ss:Nat→List Txt) (w:Nat→Value) (M:List Assn):∀ i,Sub M (rowsC ss w M i)
 | 0=>Sub.refl M
 | i+1=>Sub.drop _ (rowsC_sub ss w M i)
theorem rowsC_congr {ss:Nat→List Txt} {w w':Nat→Value} {M:List Assn}:∀ i,(∀ j,j<i→w j=w' j)→rowsC ss w M i=rowsC ss w' M i
 | 0,_=>rfl
 | i+1,h=>by
  show RowT (w i) 9 (ss i)::rowsC ss w M i=RowT (w' i) 9 (ss i)::rowsC ss w' M i
  rw [h i rM,rowsC_congr i (fun j hj=>h j rM)]
theorem ct_step (key:List UInt8) (lab:Int) (ws:List Ev) (k:Nat) (h:k<ws.length) :
  ctSets key lab (ws.take (k+1))=ctSets key lab (ws.take k)++(if (decide ((ws[k]'h).ed.key=key) && decide ((ws[k]'h).ed.label=lab) && decide ((ws[k]'h).ed.kind=3))=true then [ws[k]'h] else []) ∧
  ctAdds key lab (ws.take (k+1))=ctAdds key lab (ws.take k)++(if (decide ((ws[k]'h).ed.key=key) && decide ((ws[k]'h).ed.label=lab) && !decide ((ws[k]'h).ed.kind=3))=true then [ws[k]'h] else []):=by
 constructor
 ·unfold ctSets
  rw [List.take_succ_eq_append_getElem h,List.filter_append]
  congr 1
  simp only [List.filter_cons,List.filter_nil]
 ·unfold ctAdds
  rw [List.take_succ_eq_append_getElem h,List.filter_append]
  congr 1
  simp only [List.filter_cons,List.filter_nil]
@[reducible] def ctA (key:List UInt8) (lab:Int) (ws:List Ev):List Txt:=(ctAdds key lab ws).map fun e=>Txt.mk e.ed.value
@[reducible] def ctV (key:List UInt8) (lab:Int) (ws:List Ev):List Txt:=(ctSets key lab ws).map fun e=>Txt.mk e.ed.value
@[reducible] def ctT (key:List UInt8) (lab:Int) (ws:List Ev):List Sta:=(ctSets key lab ws).map fun e=>⟨e.h,e.r⟩
theorem ct_len (key:List UInt8) (lab:Int) (ws:List Ev):(ctSets key lab ws).length≤ws.length∧(ctAdds key lab ws).length≤ws.length:=⟨List.length_filter_le ..,List.length_filter_le ..⟩
set_option maxRecDepth 20000 attribute [local irreducible] Ex ExL Fn thn inb rnd fin meet Tab Mix mxEnd Val Sats RdT Rd RowT Row Blk Sub Fac ResV RVal Evs subs subs3 Hid Capd
section
attribute [local irreducible] rowsC
theorem bContact_F (key:List UInt8) (vw:Value) (ws:List Ev) (M:List Assn) (hr:RdT M vw ws) (hl:ws.length≤1000000) :
  Fn Tryz.prog 232 #[.string (S key),vw] M fun r L'=>∃ c:Ct,c.con=bkContact key ws∧r=.agg (Rep.cells c).toArray∧L'=RowT c.v1 9 c.s1::RowT c.v0 9 c.s0::M:=by
 refine Fn.of_ex Tryz.func232 rfl Tryz.ntmps232 rfl ?_
 (refine rn ?_;(repeat (first | intro (g:Nat) | intro (v:Value) | intro (o:O1 _) | intro (cs:List Value) | intro (hcs:_=List.set _ _ _) | intro (zs:List _) | intro h)))
 rename_i g4
 revert g
 intro g5
 obtain ⟨ss,hss⟩:∃ ss:Nat→List Txt,ss=fun j=>(ctSet key (j:Nat) ws).map Txt.mk:=⟨_,rfl⟩
 refine Ex.loop [14] (fun z vs L'=>∃ (i:Nat) (w:Nat→Value),i≤2∧z=2 - i∧(∀ j,(w j).oneCell'=true)∧vs=[.int .i64 i]∧L'=Blk g5 75 (conC key (fun j=>if j<i then ctHas key j ws else false) (fun j=>if j<i then ctField key j ws else []) (fun j=>if j<i then w j else .slice none 0 0))::Blk g4 75 (conC [] (fun _=>false) (fun _=>[]) (fun _=>.slice none 0 0))::rowsC ss w M i) 2 ⟨0,fun _=>.slice none 0 0,by omega,rfl,fun _=>rfl,rfl,by unfold rowsC;rfl⟩ ?_
 rintro z vs g0 L1 ⟨i,w,hi,rfl,ow,rfl,rfl⟩
 refine Ex.keep [0,1,4,5,14] rG (fun gk=>?_)
 obtain ⟨M',hM'⟩:∃ M',M'=rowsC ss w M i:=⟨_,rfl⟩
 have hr':RdT M' vw ws:=by rw [hM'];exact hr.sub (rowsC_sub ss w M i)
 rw [← hM']
 obtain ⟨H,hH⟩:∃ H:Nat→Bool,H=fun j=>if j<i then ctHas key j ws else false:=⟨_,rfl⟩
 obtain ⟨G,hG⟩:∃ G:Nat→List UInt8,G=fun j=>if j<i then ctField key j ws else []:=⟨_,rfl⟩
 obtain ⟨V,hV⟩:∃ V:Nat→Value,V=fun j=>if j<i then w j else .slice none 0 0:=⟨_,rfl⟩
 obtain ⟨C,hC⟩:∃ C,C=conC key H G V:=⟨_,rfl⟩
 by_cases hlt:i<2
 ·rw [← hH,← hG,← hV,← hC]
  (refine rn ?_;(repeat (first | intro (cs:List Value) | intro (hcs:_=List.set _ _ _) | intro h)))
  refine Ex.sub (L':=RowT (.slice none 0 0) 9 ([]:List Txt)::RowT (.slice none 0 0) 9 ([]:List Txt)::RowT (.slice none 0 0) 228 ([]:List Sta)::Blk g5 75 C::Blk g4 75 (conC [] (fun _=>false) (fun _=>[]) (fun _=>.slice none 0 0))::M') ?_ (Sub.trans (Sub.empty (α:=Txt) none _ _) (Sub.trans (Sub.empty (α:=Txt) none _ _) (Sub.empty (α:=Sta) none _ _)))
  refine Ex.loop [7,8,9,19] (fun z vs L'=>∃ (k:Nat) (v7 v8 v9:Value),k≤ws.length∧z=ws.length - k∧v7.oneCell'=true∧v8.oneCell'=true∧v9.oneCell'=true∧vs=[v7,v8,v9,.int .i64 k]∧L'=RowT v9 9 (ctA key i (ws.take k))::RowT v8 9 (ctV key i (ws.take k))::RowT v7 228 (ctT key i (ws.take k))::Blk g5 75 C::Blk g4 75 (conC [] (fun _=>false) (fun _=>[]) (fun _=>.slice none 0 0))::M') ws.length ⟨0,_,_,_,by omega,rfl,rfl,rfl,rfl,rfl,rfl⟩ ?_
  rintro z vs g1 L2 ⟨k,v7,v8,v9,hk,rfl,o7,o8,o9,rfl,rfl⟩
  refine Ex.keep [0,1,4,5,6,7,8,9,14,17,18,19] rG (fun gk=>?_)
  by_cases hkl:k<ws.length
  ·obtain ⟨hs1,hs2⟩:=ct_step key i ws k hkl
   have hln:=ct_len key i (ws.take k)
   rw [List.length_take] at hln
   by_cases hkey:(ws[k]'hkl).ed.key=key
   ·by_cases hlab:(ws[k]'hkl).ed.label=(i:Int)
    ·rw [decide_eq_true hkey,decide_eq_true hlab] at hs1 hs2
     by_cases hkind:(ws[k]'hkl).ed.kind=3
     ·rw [decide_eq_true hkind] at hs1 hs2
      simp only [Bool.and_true,Bool.not_true,Bool.and_false,Bool.false_eq_true,if_false,if_true,List.append_nil] at hs1 hs2
      (refine rn2 ?_ ?_ <;> (repeat (first | intro (cs:List Value) | intro (hcs:_=List.set _ _ _) | intro h)))
      ·exact absurd hkey h
      refine st_slice1T (a:=(⟨(ws[k]'hkl).h,(ws[k]'hkl).r⟩:Sta)) rJ rJ rJ rJ (fun gs=>?_)
      (refine rn ?_;(repeat (first | intro (cs:List Value) | intro (hcs:_=List.set _ _ _) | intro h)))
      have ea:ctA key i (ws.take (k+1))=ctA key i (ws.take k):=by unfold ctA;rw [hs2]
      have et:ctT key i (ws.take (k+1))=ctT key i (ws.take k)++[⟨(ws[k]'hkl).h,(ws[k]'hkl).r⟩]:=by unfold ctT;rw [hs1,List.map_append];rfl
      have ev:ctV key i (ws.take (k+1))=ctV key i (ws.take k)++[⟨(ws[k]'hkl).ed.value⟩]:=by unfold ctV;rw [hs1,List.map_append];rfl
      rw [← ea,← et,← ev]
      exact rnd_n ⟨ws.length - (k+1),_,by omega,rB,k+1,_,_,v9,by omega,rfl,by assumption,by assumption,o9,lcons rfl (lcons rfl (lcons rfl (lcons (vint rM) rfl))),rfl⟩
     ·rw [decide_eq_false hkind] at hs1 hs2
      simp only [Bool.and_true,Bool.not_false,Bool.and_false,Bool.false_eq_true,if_false,if_true,List.append_nil] at hs1 hs2
      (refine rn2 ?_ ?_ <;> (repeat (first | intro (cs:List Value) | intro (hcs:_=List.set _ _ _) | intro h)))
      ·exact absurd hkey h
      have ea:ctA key i (ws.take (k+1))=ctA key i (ws.take k)++[⟨(ws[k]'hkl).ed.value⟩]:=by unfold ctA;rw [hs2,List.map_append];rfl
      have et:ctT key i (ws.take (k+1))=ctT key i (ws.take k):=by unfold ctT;rw [hs1]
      have ev:ctV key i (ws.take (k+1))=ctV key i (ws.take k):=by unfold ctV;rw [hs1]
      rw [← ea,← et,← ev]
      exact rnd_n ⟨ws.length - (k+1),_,by omega,rB,k+1,v7,v8,_,by omega,rfl,o7,o8,by assumption,lcons rfl (lcons rfl (lcons rfl (lcons (vint rM) rfl))),rfl⟩
    ·rw [decide_eq_true hkey,decide_eq_false hlab] at hs1 hs2
     simp only [Bool.and_true,Bool.and_false,Bool.false_and,Bool.false_eq_true,if_false,List.append_nil] at hs1 hs2
     (refine rn2 ?_ ?_ <;> (repeat (first | intro (cs:List Value) | intro (hcs:_=List.set _ _ _) | intro h)))
     ·exact absurd hkey h
     have ea:ctA key i (ws.take (k+1))=ctA key i (ws.take k):=by unfold ctA;rw [hs2]
     have et:ctT key i (ws.take (k+1))=ctT key i (ws.take k):=by unfold ctT;rw [hs1]
     have ev:ctV key i (ws.take (k+1))=ctV key i (ws.take k):=by unfold ctV;rw [hs1]
     rw [← ea,← et,← ev]
     exact rnd_n ⟨ws.length - (k+1),_,by omega,rB,k+1,v7,v8,v9,by omega,rfl,o7,o8,o9,lcons rfl (lcons rfl (lcons rfl (lcons (vint rM) rfl))),rfl⟩
   ·rw [decide_eq_false hkey] at hs1 hs2
    simp only [Bool.and_true,Bool.and_false,Bool.false_and,Bool.false_eq_true,if_false,List.append_nil] at hs1 hs2
    (refine rn ?_;(repeat (first | intro (cs:List Value) | intro (hcs:_=List.set _ _ _) | intro h)))
    have ea:ctA key i (ws.take (k+1))=ctA key i (ws.take k):=by unfold ctA;rw [hs2]
    have et:ctT key i (ws.take (k+1))=ctT key i (ws.take k):=by unfold ctT;rw [hs1]
    have ev:ctV key i (ws.take (k+1))=ctV key i (ws.take k):=by unfold ctV;rw [hs1]
    rw [← ea,← et,← ev]
    exact rnd_n ⟨ws.length - (k+1),_,by omega,rB,k+1,v7,v8,v9,by omega,rfl,o7,o8,o9,lcons rfl (lcons rfl (lcons rfl (lcons (vint rM) rfl))),rfl⟩
  ·obtain rfl:k=ws.length:=by omega
   rw [List.take_length]
   have hln:=ct_len key i ws
   obtain ⟨A,hA⟩:∃ A,A=(ctAdds key i ws).map fun e=>e.ed.value:=⟨_,rfl⟩
   have hAl:A.length≤ws.length:=by rw [hA,List.length_map];exact hln.2
   rw [show ctA key i ws=A.map Txt.mk by unfold ctA;rw [hA,List.map_map];rfl]
   have hset:ss i=(cmpK (sortK A)).map Txt.mk:=by rw [hss,hA];rfl
   have hVs:∀ (v10:Value) (j:Nat),fset V i v10 j=if j<i+1 then fset w i v10 j else .slice none 0 0:=fun v10 j=>by
    rw [hV]
    unfold fset
    by_cases h1:j<i
    ·simp only [if_pos h1,if_pos (show j<i+1 by omega),if_neg (show ¬ j=i by omega)]
    ·by_cases h2:j=i
     ·simp only [if_pos h2,if_pos (show j<i+1 by omega)]
     ·simp only [if_neg h1,if_neg h2,if_neg (show ¬ j<i+1 by omega)]
   have hws:∀ (v10:Value),v10.oneCell'=true→∀ j,(fset w i v10 j).oneCell'=true:=fun v10 o10 j=>by
    unfold fset
    split
    ·exact o10
    ·exact ow j
   have hrow:∀ v10:Value,rowsC ss (fset w i v10) M (i+1)=RowT v10 9 (ss i)::M':=fun v10=>by
    rw [hM',← rowsC_congr (w:=fset w i v10) (w':=w) i (fun j hj=>by unfold fset;rw [if_neg rM])]
    rw [rowsC_succ,show fset w i v10 i=v10 by unfold fset;rw [if_pos rfl]]
   by_cases hne:ctSets key i ws=[]
   ·have eV:ctV key i ws=[]:=by unfold ctV;rw [hne];rfl
    rw [eV]
    (refine rn ?_;(repeat (first | intro (cs:List Value) | intro (hcs:_=List.set _ _ _) | intro h)))
    refine st_callIs [] rJ Tryz.call227 rJ rJ (sort_F v9 A _ rM) ?_
    rintro _ _ rfl
    (refine rn ?_;(repeat (first | intro (cs:List Value) | intro (hcs:_=List.set _ _ _) | intro h)))
    refine st_callIs [] rJ Tryz.call231 rJ rJ (compact_F v9 (sortK A) _ o9 (by rw [(sortK_perm A).length_eq];omega)) ?_
    rintro v10 _ ⟨o10,rfl⟩
    (refine rn ?_;(repeat (first | intro (cs:List Value) | intro (hcs:_=List.set _ _ _) | intro h)))
    refine st_storeH 3 rJ (by rw [hC];rfl) rE rN rJ (by show 5+(i:Int).toNat * 1<7;omega) (conC_v hlt v10 (by show 5+(i:Int).toNat * 1=5+i;omega)) rJ ?_
    (refine rn ?_;(repeat (first | intro (cs:List Value) | intro (hcs:_=List.set _ _ _) | intro h)))
    have hiH:ctHas key i ws=false:=by unfold ctHas;rw [hne];rfl
    have hiG:ctField key i ws=[]:=by unfold ctField ctVals;rw [hne];rfl
    have hC2:conC key H G (fset V i v10)=conC key (fun j=>if j<i+1 then ctHas key j ws else false) (fun j=>if j<i+1 then ctField key j ws else []) (fun j=>if j<i+1 then fset w i v10 j else .slice none 0 0):=by
     refine conC_congr (fun j _=>?_) (fun j _=>?_) (fun j _=>?_)
     ·rw [hH]
      by_cases h1:j<i
      ·simp only [if_pos h1,if_pos (show j<i+1 by omega)]
      ·by_cases h2:j=i
       ·subst h2;simp only [if_neg h1,if_pos (show j<j+1 by omega)];exact hiH.symm
       ·simp only [if_neg h1,if_neg (show ¬ j<i+1 by omega)]
     ·rw [hG]
      by_cases h1:j<i
      ·simp only [if_pos h1,if_pos (show j<i+1 by omega)]
      ·by_cases h2:j=i
       ·subst h2;simp only [if_neg h1,if_pos (show j<j+1 by omega)];exact hiG.symm
       ·simp only [if_neg h1,if_neg (show ¬ j<i+1 by omega)]
     ·exact hVs v10 j
    rw [hC2]
    refine rnd_n ⟨2 - (i+1),Blk g5 75 (conC key (fun j=>if j<i+1 then ctHas key j ws else false) (fun j=>if j<i+1 then ctField key j ws else []) (fun j=>if j<i+1 then fset w i v10 j else .slice none 0 0))::Blk g4 75 (conC [] (fun _=>false) (fun _=>[]) (fun _=>.slice none 0 0))::rowsC ss (fset w i v10) M (i+1),by omega,?_,i+1,fset w i v10,by omega,rfl,hws v10 o10,lcons (vint rM) rfl,rfl⟩
    rw [hrow v10,← hset]
    exact Sub.fr [4,4] rE rB
   ·have hVl:0<(ctV key i ws).length:=by unfold ctV;rw [List.length_map];exact List.length_pos_iff.2 hne
    (refine rn ?_;(repeat (first | intro (cs:List Value) | intro (hcs:_=List.set _ _ _) | intro h)))
    refine st_storeH 3 rJ (by rw [hC];rfl) rE rN rJ (by show 1+(i:Int).toNat * 1<7;omega) (conC_h hlt true (by show 1+(i:Int).toNat * 1=1+i;omega)) rJ ?_
    (refine rn ?_;(repeat (first | intro (cs:List Value) | intro (hcs:_=List.set _ _ _) | intro h)))
    refine st_callIs [] rJ Tryz.call270 rJ rJ (stLast_F v7 (ctT key i ws) _ rD (by unfold ctT;rw [List.length_map];omega)) ?_
    rintro _ _ ⟨rfl,rfl⟩
    have hTl:ctT key i ws≠[]:=fun h=>hne (List.map_eq_nil_iff.1 h)
    have hst:=stLast_lt hTl
    have hTV:(ctT key i ws).length=(ctV key i ws).length:=by unfold ctT ctV;rw [List.length_map,List.length_map]
    have hfl:((ctV key i ws)[(stLast (ctT key i ws)).toNat]'rM).l=ctField key i ws:=by
     unfold ctField
     have h1:(ctVals key i ws)=(ctV key i ws).map (·.l):=by unfold ctVals ctV;rw [List.map_map];rfl
     rw [h1,show ctStamps key i ws=ctT key i ws from rfl,List.getD_eq_getElem?_getD,List.getElem?_map,List.getElem?_eq_getElem rM]
     rfl
    (refine rn ?_;(repeat (first | intro (cs:List Value) | intro (hcs:_=List.set _ _ _) | intro h)))
    have hcs2:cs=conC key (fset H i true) (fset G i (ctField key i ws)) V:=hcs.trans (by rw [hfl];exact conC_f hlt _ (by show 3+(i:Int).toNat * 1=3+i;omega))
    clear hcs
    subst hcs2
    refine st_callIs [] rJ Tryz.call227 rJ rJ (sort_F v9 A _ rM) ?_
    rintro _ _ rfl
    (refine rn ?_;(repeat (first | intro (cs:List Value) | intro (hcs:_=List.set _ _ _) | intro h)))
    refine st_callIs [] rJ Tryz.call231 rJ rJ (compact_F v9 (sortK A) _ o9 (by rw [(sortK_perm A).length_eq];omega)) ?_
    rintro v10 _ ⟨o10,rfl⟩
    (refine rn ?_;(repeat (first | intro (cs:List Value) | intro (hcs:_=List.set _ _ _) | intro h)))
    have hcs3:cs=conC key (fset H i true) (fset G i (ctField key i ws)) (fset V i v10):=hcs.trans (conC_v hlt v10 (by show 5+(i:Int).toNat * 1=5+i;omega))
    clear hcs
    subst hcs3
    have hiH:ctHas key i ws=true:=by unfold ctHas;simp [hne]
    have hC2:conC key (fset H i true) (fset G i (ctField key i ws)) (fset V i v10)=conC key (fun j=>if j<i+1 then ctHas key j ws else false) (fun j=>if j<i+1 then ctField key j ws else []) (fun j=>if j<i+1 then fset w i v10 j else .slice none 0 0):=by
     refine conC_congr (fun j _=>?_) (fun j _=>?_) (fun j _=>?_)
     ·rw [hH]
      unfold fset
      by_cases h1:j<i
      ·simp only [if_pos h1,if_pos (show j<i+1 by omega),if_neg (show ¬ j=i by omega)]
      ·by_cases h2:j=i
       ·subst h2;simp only [if_true,if_pos (show j<j+1 by omega)];exact hiH.symm
       ·simp only [if_neg h1,if_neg h2,if_neg (show ¬ j<i+1 by omega)]
     ·rw [hG]
      unfold fset
      by_cases h1:j<i
      ·simp only [if_pos h1,if_pos (show j<i+1 by omega),if_neg (show ¬ j=i by omega)]
      ·by_cases h2:j=i
       ·subst h2;simp only [if_true,if_pos (show j<j+1 by omega)]
       ·simp only [if_neg h1,if_neg h2,if_neg (show ¬ j<i+1 by omega)]
     ·exact hVs v10 j
    rw [hC2]
    refine rnd_n ⟨2 - (i+1),Blk g5 75 (conC key (fun j=>if j<i+1 then ctHas key j ws else false) (fun j=>if j<i+1 then ctField key j ws else []) (fun j=>if j<i+1 then fset w i v10 j else .slice none 0 0))::Blk g4 75 (conC [] (fun _=>false) (fun _=>[]) (fun _=>.slice none 0 0))::rowsC ss (fset w i v10) M (i+1),by omega,?_,i+1,fset w i v10,by omega,rfl,hws v10 o10,lcons (vint rM) rfl,rfl⟩
    rw [hrow v10,← hset]
    exact Sub.fr [4,4] rE rB
 ·obtain rfl:i=2:=by omega
  obtain ⟨ct,hct⟩:∃ ct:Ct,ct=⟨key,ctHas key 0 ws,ctHas key 1 ws,ctField key 0 ws,ctField key 1 ws,w 0,ow 0,ss 0,w 1,ow 1,ss 1⟩:=⟨_,rfl⟩
  rw [show conC key (fun j=>if j<2 then ctHas key j ws else false) (fun j=>if j<2 then ctField key j ws else []) (fun j=>if j<2 then w j else .slice none 0 0)=Rep.cells ct by rw [hct];rfl]
  have q0:=ct.o0
  have q1:=ct.o1
  (refine rn ?_;intros)
  (refine fr ?_)
  refine ⟨_,?_,ct,?_,rfl,rfl⟩
  ·rw [hM']
   have:rowsC ss w M 2=RowT ct.v1 9 ct.s1::RowT ct.v0 9 ct.s0::M:=by rw [hct,rowsC_succ,rowsC_succ,rowsC_zero]
   rw [this]
   exact Sub.drop _ (Sub.drop _ (Sub.refl _))
  ·rw [hct,hss]
   unfold Ct.con bkContact
   have hm:∀ l:List (List UInt8),(l.map Txt.mk).map (·.l)=l:=fun l=>by rw [List.map_map];exact List.map_id'' (fun _=>rfl) l
   simp only [hm]
   rfl
end
end
section
def Ct.own (c:Ct):Assn:=Two (RowT c.v1 9 c.s1) (RowT c.v0 9 c.s0)
@[reducible] def Cts_ (v:Value) (cs:List Ct):Assn:=RowT v 75 cs
theorem Star.app:∀ (As Bs:List Assn) (L:List Assn),Sub (Star (As++Bs)::L) (Star As::Star Bs::L)
 | [],Bs,L=>Sub.drop _ (Sub.refl _)
 | A::As,Bs,L=>Sub.trans (Star.close1 (A:=A) (As:=As++Bs) L) (Sub.trans (Sub.cons A (Star.app As Bs L)) (Star.open1 (A:=A) (As:=As) (Star Bs::L)))
theorem Ct.rd_star {cs:List Ct} {c:Ct} (h:c∈cs) (L:List Assn):c.Rd (Star (cs.map Ct.own)::L):=by
 obtain ⟨i,hi,rfl⟩:=List.getElem_of_mem h
 have hs:Sub (RowT (cs[i]'hi).v1 9 (cs[i]'hi).s1::RowT (cs[i]'hi).v0 9 (cs[i]'hi).s0::Star ((cs.map Ct.own).eraseIdx i)::L) (Star (cs.map Ct.own)::L) :=
  Sub.trans (Two.opn _ _ _) (Star.focus (As:=cs.map Ct.own) (i:=i) (A:=(cs[i]'hi).own) L (by simp [hi]))
 exact ⟨(RdT.row 1 rfl).sub hs,(RdT.row 0 rfl).sub hs⟩
set_option maxRecDepth 20000 attribute [local irreducible] Ex ExL Fn thn inb rnd fin meet Tab Mix mxEnd Val Sats RdT Rd RowT Row Blk Sub Fac ResV RVal Evs subs subs3 Hid Capd
section
attribute [local irreducible] Star
theorem bOf_F (v0:Value) (l:List Ev) (M:List Assn) (hr:RdT M v0 l) (hl:l.length≤1000000) :
  Fn Tryz.prog 170 #[v0] M fun r L'=>∃ cs:List Ct,cs.map Ct.con=bkOf l∧r.oneCell'=true∧L'=Cts_ r cs::Star (cs.map Ct.own)::M:=by
 have hll:(bkLiving l).length≤l.length:=List.length_filter_le ..
 refine Fn.of_ex Tryz.func170 rfl Tryz.ntmps170 rfl ?_
 (refine rn ?_;(repeat (first | intro (v:Value) | intro (cs:List Value) | intro (hcs:_=List.set _ _ _) | intro h)))
 refine st_callIs [] rJ Tryz.call229 rJ rJ (bLiving_F v0 l _ rD hl) ?_
 rintro v3 _ ⟨o3,rfl⟩
 (refine rn ?_;(repeat (first | intro (v:Value) | intro (cs:List Value) | intro (hcs:_=List.set _ _ _) | intro h)))
 refine st_callIs [] rJ Tryz.call230 rJ rJ (bCounting_F v0 v3 l (bkLiving l) _ rD rD hl rM) ?_
 rintro v4 _ ⟨o4,rfl⟩
 obtain ⟨ws,hws⟩:∃ ws,ws=bkCounting l (bkLiving l):=⟨_,rfl⟩
 have hwl:ws.length≤l.length:=by rw [hws];exact List.length_filter_le ..
 obtain ⟨cr,hcr⟩:∃ cr,cr=bkLiving l:=⟨_,rfl⟩
 rw [← hws,← hcr]
 rw [← hcr] at hll
 have hk:bkKeys l=cmpK (sortK (cr.map fun e=>e.ed.key)):=by rw [hcr];rfl
 have hof:bkOf l=(bkKeys l).map fun k=>bkContact k ws:=by rw [hws];rfl
 clear hws hcr
 (refine rn ?_;(repeat (first | intro (v:Value) | intro (cs:List Value) | intro (hcs:_=List.set _ _ _) | intro h)))
 refine Ex.sub ?_ (Sub.empty (α:=Txt) none 9 _)
 refine Ex.loop [5,18] (fun z vs L'=>∃ (i:Nat) (v:Value),i≤cr.length∧z=cr.length - i∧v.oneCell'=true∧vs=[v,.int .i64 i]∧L'=RowT v 9 ((cr.take i).map fun e=>Txt.mk e.ed.key)::Evs_ v4 ws::Evs_ v3 cr::M) cr.length ⟨0,_,by omega,rfl,rfl,rfl,rfl⟩ ?_
 rintro z vs g0 L1 ⟨i,v,hi,rfl,ov,rfl,rfl⟩
 refine Ex.keep [4,5,16,17,18] rG (fun gk=>?_)
 by_cases hlt:i<cr.length
 ·have hs:(cr.take (i+1)).map (fun e=>Txt.mk e.ed.key)=(cr.take i).map (fun e=>Txt.mk e.ed.key)++[⟨(cr[i]'hlt).ed.key⟩]:=by
   rw [List.take_succ_eq_append_getElem hlt,List.map_append];rfl
  have hw:((cr.take i).map fun e=>Txt.mk e.ed.key).length≤cr.length:=by rw [List.length_map,List.length_take];omega
  (refine rn ?_;(repeat (first | intro (v:Value) | intro (cs:List Value) | intro (hcs:_=List.set _ _ _) | intro h)))
  rw [← hs]
  exact rnd_n ⟨cr.length - (i+1),_,by omega,rB,i+1,_,by omega,rfl,by assumption,lcons rfl (lcons (vint rM) rfl),rfl⟩
 ·obtain rfl:i=cr.length:=by omega
  obtain ⟨ks,hks⟩:∃ ks,ks=cr.map fun e=>e.ed.key:=⟨_,rfl⟩
  have hkl:ks.length≤1000000:=by rw [hks,List.length_map];omega
  rw [List.take_length,show cr.map (fun e=>Txt.mk e.ed.key)=ks.map Txt.mk by rw [hks,List.map_map];rfl]
  rw [← hks] at hk
  (refine rn ?_;(repeat (first | intro (v:Value) | intro (cs:List Value) | intro (hcs:_=List.set _ _ _) | intro h)))
  refine st_callIs [] rJ Tryz.call227 rJ rJ (sort_F v ks _ hkl) ?_
  rintro _ _ rfl
  (refine rn ?_;(repeat (first | intro (v:Value) | intro (cs:List Value) | intro (hcs:_=List.set _ _ _) | intro h)))
  refine st_callIs [] rJ Tryz.call231 rJ rJ (compact_F v (sortK ks) _ ov (by rw [(sortK_perm ks).length_eq];omega)) ?_
  rintro v31 _ ⟨o31,rfl⟩
  rw [← hk]
  obtain ⟨xs,hxs⟩:∃ xs:List Txt,xs=(bkKeys l).map Txt.mk:=⟨_,rfl⟩
  rw [← hxs]
  have hxl:xs.length≤1000000:=by
   rw [hxs,List.length_map,hk]
   have:=cmpK_len (sortK ks)
   rw [(sortK_perm ks).length_eq] at this
   omega
  have hof2:bkOf l=xs.map fun t=>bkContact t.l ws:=by rw [hof,hxs,List.map_map];rfl
  clear hof hk hxs
  (refine rn ?_;(repeat (first | intro (v:Value) | intro (cs:List Value) | intro (hcs:_=List.set _ _ _) | intro h)))
  refine Ex.sub ?_ (Sub.trans (Sub.cons _ (Star.nil _)) (Sub.empty (α:=Ct) none 75 _))
  refine Ex.loop [8,33] (fun z vs L'=>∃ (i:Nat) (v:Value) (cs:List Ct),i≤xs.length∧z=xs.length - i∧v.oneCell'=true∧cs.map Ct.con=(xs.take i).map (fun t=>bkContact t.l ws)∧vs=[v,.int .i64 i]∧L'=Cts_ v cs::Star (cs.map Ct.own)::RowT v31 9 xs::Evs_ v4 ws::Evs_ v3 cr::M) xs.length ⟨0,_,[],by omega,rfl,rfl,rfl,rfl,rfl⟩ ?_
  rintro z vs g1 L1 ⟨i,v8,cs,hi,rfl,o8,hcs,rfl,rfl⟩
  refine Ex.keep [4,8,31,32,33] rG (fun gk=>?_)
  by_cases hlt:i<xs.length
  ·have hcl:cs.length=i:=by
    have:=congrArg List.length hcs
    rw [List.length_map,List.length_map,List.length_take] at this
    omega
   (refine rn ?_;(repeat (first | intro (v:Value) | intro (cs:List Value) | intro (hcs:_=List.set _ _ _) | intro h)))
   refine st_callIs [] rJ Tryz.call232 rJ rJ (bContact_F (xs[i]'hlt).l v4 ws _ rD rM) ?_
   rintro _ _ ⟨c,hc,rfl,rfl⟩
   (refine rn ?_;(repeat (first | intro (v:Value) | intro (cs:List Value) | intro (hcs:_=List.set _ _ _) | intro h)))
   refine rnd_n ⟨xs.length - (i+1),Cts_ v (cs++[c])::Star ((cs++[c]).map Ct.own)::RowT v31 9 xs::Evs_ v4 ws::Evs_ v3 cr::M,by omega,?_,i+1,v,cs++[c],by omega,rfl,by assumption,?_,lcons rfl (lcons (vint rM) rfl),rfl⟩
   ·rw [List.map_append]
    exact Sub.fr [3] rE (Sub.cons _ (Sub.drop _ (Sub.trans (Star.last c.own _) (Two.cls _ _ _))))
   ·rw [List.map_append,hcs,List.take_succ_eq_append_getElem hlt,List.map_append]
    show _++[c.con]=_++[bkContact (xs[i]'hlt).l ws]
    rw [hc]
  ·obtain rfl:i=xs.length:=by omega
   rw [List.take_length,← hof2] at hcs
   (refine rn ?_;(repeat (first | intro (cs:List Value) | intro (hcs:_=List.set _ _ _) | intro h)))
   (refine fr ?_)
   exact ⟨_,rB,cs,hcs,o8,rfl⟩
end
end
section
theorem bkOf_len (l:List Ev):(bkOf l).length≤l.length:=by
 unfold bkOf bkKeys
 rw [List.length_map]
 have h1:=cmpK_len (sortK ((bkLiving l).map fun e=>e.ed.key))
 rw [(sortK_perm _).length_eq,List.length_map] at h1
 have h2:(bkLiving l).length≤l.length:=List.length_filter_le ..
 omega
theorem kget (k:List UInt8):∀ (ms:List KRow),∃ (v0:Value) (b:Bool),v0.oneCell'=true∧lookV k (ms.map KRow.kv) (.slice none 0 0)=(v0,b)∧(lvGet k (ms.map KRow.kl)).length≤lvTot (ms.map KRow.kl)∧∀ L,RdT (Star (ms.map KRow.ev)::L) v0 (lvGet k (ms.map KRow.kl)):=fun ms=>by
 have key:∀ (ms:List KRow) (s:Nat),(mposV k (ms.map KRow.kv) s=none∧lvGet k (ms.map KRow.kl)=[])∨∃ i,∃ h:i<ms.length,mposV k (ms.map KRow.kv) s=some (s+i,(ms[i]'h).v)∧lvGet k (ms.map KRow.kl)=(ms[i]'h).l:=by
  intro ms
  induction ms with
  | nil=>intro s;exact .inl ⟨rfl,rfl⟩
  | cons r ms ih =>
   intro s
   by_cases hk:k=r.k
   ·refine .inr ⟨0,by simp,?_,?_⟩
    ·show (if k=r.k then some (s,r.v) else _)=_
     rw [if_pos hk];rfl
    ·show (if k=r.k then r.l else _)=_
     rw [if_pos hk];rfl
   ·have hp:mposV k ((r::ms).map KRow.kv) s=mposV k (ms.map KRow.kv) (s+1):=by
     show (if k=r.k then some (s,r.v) else _)=_
     rw [if_neg hk]
    have hg:lvGet k ((r::ms).map KRow.kl)=lvGet k (ms.map KRow.kl):=by
     show (if k=r.k then r.l else lvGet k (ms.map KRow.kl))=_
     rw [if_neg hk]
    rw [hp,hg]
    rcases ih (s+1) with ⟨h1,h2⟩ | ⟨i,hi,h1,h2⟩
    ·exact .inl ⟨h1,h2⟩
    ·exact .inr ⟨i+1,by simpa using hi,by rw [h1];simp;omega,h2⟩
 rcases key ms 0 with ⟨h1,h2⟩ | ⟨i,hi,h1,h2⟩
 ·exact ⟨.slice none 0 0,false,rfl,by unfold lookV;rw [h1],by rw [h2];exact Nat.zero_le _,fun L=>by rw [h2];exact RdT.nil _⟩
 ·refine ⟨(ms[i]'hi).v,true,(ms[i]'hi).o,by unfold lookV;rw [h1],?_,fun L=>?_⟩
  ·rw [h2]
   have:((ms[i]'hi).k,(ms[i]'hi).l)∈ms.map KRow.kl:=List.mem_map.2 ⟨ms[i]'hi,List.getElem_mem _,rfl⟩
   exact lvTot_mem this
  ·rw [h2]
   exact (RdT.row (L:=Evs_ (ms[i]'hi).v (ms[i]'hi).l::Star ((ms.map KRow.ev).eraseIdx i)::L) 0 rfl).sub (Star.focus L (by simp [hi];rfl))
set_option maxRecDepth 20000 attribute [local irreducible] Ex ExL Fn thn inb rnd fin meet Tab Mix mxEnd Val Sats RdT Rd RowT Row Blk Sub Fac ResV RVal Evs subs subs3 Hid Capd
section
attribute [local irreducible] Star MapV
theorem llistO_F (g gm:Nat) (z:Int) (ms:List KRow) (M:List Assn) (ht:lvTot (ms.map KRow.kl)≤10000) (hl:ms.length≤10000) (hk:∀ r∈ms,r.k.length≤1000) :
  Fn Tryz.prog 98 #[.pointer (some ⟨g,0,none⟩)] (lvO g gm z ms M) fun r L'=>∃ cs:List Ct,cs.map Ct.con=lvList (ms.map KRow.kl)∧r.oneCell'=true∧L'=Cts_ r cs::Star (cs.map Ct.own)::lvO g gm z ms M:=by
 unfold lvO
 refine Fn.of_ex Tryz.func98 rfl Tryz.ntmps98 rfl ?_
 (refine rn ?_;(repeat (first | intro (g:Nat) | intro (v:Value) | intro (cs:List Value) | intro (hcs:_=List.set _ _ _) | intro h)))
 refine st_callIs [] rJ Tryz.call169 rJ rJ (keys_F (some gm) _) ?_
 rintro _ _ ⟨gk2,rfl,rfl⟩
 obtain ⟨kvs,hkvs⟩:∃ kvs,kvs=ms.map KRow.kv:=⟨_,rfl⟩
 have hkk:kvs.map (·.1)=(ms.map KRow.kl).map (·.1):=by rw [hkvs,List.map_map,List.map_map];rfl
 (refine rn ?_;(repeat (first | intro (g:Nat) | intro (v:Value) | intro (cs:List Value) | intro (hcs:_=List.set _ _ _) | intro h)))
 rw [← hkvs]
 refine st_callIs [1,2] rJ Tryz.call168 rE rJ (sorted_F gk2 gm kvs _ (fun p hp=>by
  rw [hkvs] at hp
  obtain ⟨r,hr,rfl⟩:=List.mem_map.1 hp
  exact hk r hr) (by rw [hkvs,List.length_map];omega)) ?_
 rintro v11 _ ⟨o11,rfl⟩
 obtain ⟨m,hm⟩:∃ m,m=ms.map KRow.kl:=⟨_,rfl⟩
 rw [← hm] at hkk ht ⊢
 rw [hkk]
 have hml:m.length≤10000:=by rw [hm,List.length_map];exact hl
 obtain ⟨xs,hxs⟩:∃ xs:List Txt,xs=(sortK (m.map (·.1))).map Txt.mk:=⟨_,rfl⟩
 have hxl:xs.length≤10000:=by rw [hxs,List.length_map,(sortK_perm _).length_eq,List.length_map];exact hml
 have hlist:lvList m=xs.flatMap fun t=>bkOf (lvGet t.l m):=by rw [hxs,List.flatMap_map];rfl
 rw [← hxs]
 (refine rn ?_;(repeat (first | intro (g:Nat) | intro (v:Value) | intro (cs:List Value) | intro (hcs:_=List.set _ _ _) | intro h)))
 refine Ex.sub ?_ (Sub.trans (Sub.cons _ (Star.nil _)) (Sub.empty (α:=Ct) none 75 _))
 refine Ex.loop [3,13] (fun q vs L'=>∃ (i:Nat) (v:Value) (cs:List Ct),i≤xs.length∧q=xs.length - i∧v.oneCell'=true∧cs.map Ct.con=(xs.take i).flatMap (fun t=>bkOf (lvGet t.l m))∧cs.length≤i * 10000∧vs=[v,.int .i64 i]∧L'=Cts_ v cs::Star (cs.map Ct.own)::RowT v11 9 xs::Blk gk2 253 [.map (some gm)]::MapV kvS gm kvs::Blk g 269 (lvC 1 (.int .u32 0) (.map (some gm)) z)::Star (ms.map KRow.ev)::M) xs.length ⟨0,_,[],by omega,rfl,rfl,rfl,by simp,rfl,rfl⟩ ?_
 rintro q vs g1 L1 ⟨i,v,cs,hi,rfl,ov,hcs,hcl,rfl,rfl⟩
 refine Ex.keep [0,3,11,12,13] rG (fun gk=>?_)
 by_cases hlt:i<xs.length
 ·obtain ⟨v0,b,o0,hlook,hgl,hrd⟩:=kget (xs[i]'hlt).l ms
  rw [← hkvs] at hlook
  rw [← hm] at hgl hrd
  (refine rn ?_;(repeat (first | intro (g:Nat) | intro (v:Value) | intro (cs:List Value) | intro (hcs:_=List.set _ _ _) | intro h)))
  refine ExL.val rJ rJ rJ (vl_look1 (kt:=9) (et:=86) 4 (k:=(xs[i]'hlt).l) (m:=kvs) rJ rJ rJ rQ (z:=.slice none 0 0) rQ) ?_
  rw [hlook]
  (refine rn ?_;(repeat (first | intro (g:Nat) | intro (v:Value) | intro (cs:List Value) | intro (hcs:_=List.set _ _ _) | intro h)))
  refine st_callIs [] rJ Tryz.call170 rJ rJ (bOf_F v0 (lvGet (xs[i]'hlt).l m) _ ((hrd M).sub rB) rM) ?_
  rintro v24 _ ⟨cs2,hc2,o24,rfl⟩
  have hc2l:cs2.length≤10000:=by
   have:=congrArg List.length hc2
   rw [List.length_map] at this
   have h2:=bkOf_len (lvGet (xs[i]'hlt).l m)
   omega
  (refine rn ?_;(repeat (first | intro (g:Nat) | intro (v:Value) | intro (cs:List Value) | intro (hcs:_=List.set _ _ _) | intro h)))
  refine rnd_n ⟨xs.length - (i+1),Cts_ v (cs++cs2)::Star ((cs++cs2).map Ct.own)::RowT v11 9 xs::Blk gk2 253 [.map (some gm)]::MapV kvS gm kvs::Blk g 269 (lvC 1 (.int .u32 0) (.map (some gm)) z)::Star (ms.map KRow.ev)::M,by omega,?_,i+1,v,cs++cs2,by omega,rfl,by assumption,?_,by rw [List.length_append];omega,lcons rfl (lcons (vint rM) rfl),rfl⟩
  ·rw [List.map_append]
   exact Sub.fr [3,3,1] rE (Sub.cons _ (Sub.trans (Sub.cons _ rB) (Star.app _ _ _)))
  ·rw [List.map_append,hcs,hc2,List.take_succ_eq_append_getElem hlt,List.flatMap_append]
   simp
 ·obtain rfl:i=xs.length:=by omega
  rw [List.take_length,← hlist] at hcs
  (refine rn ?_;(repeat (first | intro (cs:List Value) | intro (hcs:_=List.set _ _ _) | intro h)))
  (refine fr ?_)
  exact ⟨_,Sub.fr [3,3,5,4] rE rB,cs,hcs,ov,rfl⟩
theorem llistZ_F (g:Nat) (M:List Assn) :
  Fn Tryz.prog 98 #[.pointer (some ⟨g,0,none⟩)] (Blk g 269 (lvC 0 (.int .u32 0) (.map none) 0)::M) fun r L'=>r.oneCell'=true∧L'=Cts_ r []::Blk g 269 (lvC 0 (.int .u32 0) (.map none) 0)::M:=by
 refine Fn.of_ex Tryz.func98 rfl Tryz.ntmps98 rfl ?_
 (refine rn ?_;intros)
 refine st_callIs [] rJ Tryz.call169 rJ rJ (keys_F none _) ?_
 rintro _ _ ⟨gk2,rfl,rfl⟩
 (refine rn ?_;intros)
 refine st_callIs [] rJ Tryz.call168 rJ rJ (sortedNil_F gk2 _) ?_
 rintro v11 _ ⟨o11,rfl⟩
 (refine rn ?_;intros)
 refine Ex.loopS [3,13] (fun q vs=>q=0∧vs=[.slice none 0 0,.int .i64 0]) 0 ⟨rfl,rfl⟩ ?_
 rintro q vs g1 ⟨rfl,rfl⟩
 (refine rn ?_;intros)
 (refine fr ?_)
 exact ⟨_,Sub.trans (Sub.empty (α:=Ct) none 75 _) rB,rfl,rfl⟩
theorem llist_F (g:Nat) (m:KMap) (M:List Assn) (ht:lvTot m≤10000) (hl:m.length≤10000) (hk:∀ p∈m,p.1.length≤1000) :
  Fn Tryz.prog 98 #[.pointer (some ⟨g,0,none⟩)] (LvA g m::M) fun r L'=>∃ cs:List Ct,cs.map Ct.con=lvList m∧r.oneCell'=true∧L'=Cts_ r cs::Star (cs.map Ct.own)::LvA g m::M:=by
 refine LvA.fn (fun h0=>?_) (fun gm ms h=>?_)
 ·subst h0
  refine (llistZ_F g M).resv ?_
  rintro v L' ⟨o,rfl⟩
  exact ⟨_,Sub.cons _ (Sub.trans (Sub.cons _ (Sub.cons' (fun x a=>.inl ⟨rfl,a⟩) (Sub.refl M))) (Star.nil _)),[],rfl,o,rfl⟩
 ·subst h
  refine (llistO_F g gm _ ms M ht (by simpa using hl) (fun r hr=>hk r.kl (List.mem_map_of_mem hr))).resv ?_
  rintro v L' ⟨cs,hcs,o,rfl⟩
  exact ⟨_,Sub.cons _ (Sub.cons _ (LvA.cls rfl rfl M)),cs,hcs,o,rfl⟩
end
end
section
structure DS where
 b:List UInt8
 down:Bool
 cut:Bool
 keep:Int
def DS.write (s:DS) (xs:List UInt8):DS×Int:=match s.down,s.cut with
 | true,_=>(s,18)
 | false,true=>(⟨s.b++xs.take (min (max s.keep 0) xs.length).toNat,true,false,s.keep⟩,18)
 | false,false=>(⟨s.b++xs,false,false,s.keep⟩,0)
def DS.trim (s:DS) (n:Int):DS:=if 0≤n∧n≤s.b.length then { s with b:=s.b.take n.toNat } else s
theorem Sub.row0 {α:Type} [Rep α] (b:Option Addr) (e:TypeId) (L:List Assn):Sub (RowT (.slice b 0 0) e ([]:List α)::L) L:=fun w F s=>Sats.add_empty s (rowT_nil b e)
set_option maxRecDepth 20000 attribute [local irreducible] Ex ExL Fn thn inb rnd fin meet Tab Mix mxEnd Val Sats RdT Rd RowT Row Blk Sub Fac ResV RVal Evs subs subs3 Hid Capd
section
theorem disk_New (L:List Assn):Fn Tryz.prog 184 #[] L fun v L'=>∃ g,v=.pointer (some ⟨g,0,none⟩)∧L'=Blk g 284 [.slice none 0 0,.bool false,.bool false,.int .i64 0]::RowT (.slice none 0 0) 5 ([]:List UInt8)::L:=by
 refine Fn.of_ex Tryz.func184 rfl Tryz.ntmps184 rfl ?_
 (refine rn ?_;intros)
 (refine fr ?_)
 exact ⟨_,Sub.cons _ (Sub.row0 none _ _),_,rfl,rfl⟩
theorem disk_Cut (g:Nat) (v:Value) (b:List UInt8) (down cut:Bool) (keep n:Int) (M:List Assn):Fn Tryz.prog 369 #[.pointer (some ⟨g,0,none⟩),.int .i64 n] (Blk g 284 [v,.bool down,.bool cut,.int .i64 keep]::RowT v 5 b::M)
  fun r L'=>L'=Blk g 284 [v,.bool down,.bool true,.int .i64 n]::RowT v 5 b::M:=by
 refine Fn.of_ex Tryz.func369 rfl Tryz.ntmps369 rfl ?_
 exact re3
theorem disk_Start (g:Nat) (v:Value) (b:List UInt8) (down cut:Bool) (keep:Int) (M:List Assn):Fn Tryz.prog 124 #[.pointer (some ⟨g,0,none⟩)] (Blk g 284 [v,.bool down,.bool cut,.int .i64 keep]::RowT v 5 b::M)
  fun r L'=>L'=Blk g 284 [v,.bool false,.bool false,.int .i64 keep]::RowT v 5 b::M:=by
 refine Fn.of_ex Tryz.func124 rfl Tryz.ntmps124 rfl ?_
 exact re3
theorem disk_Crash (g:Nat) (v:Value) (b:List UInt8) (down cut:Bool) (keep:Int) (M:List Assn):Fn Tryz.prog 123 #[.pointer (some ⟨g,0,none⟩)] (Blk g 284 [v,.bool down,.bool cut,.int .i64 keep]::RowT v 5 b::M)
  fun r L'=>L'=Blk g 284 [v,.bool true,.bool false,.int .i64 keep]::RowT v 5 b::M:=by
 refine Fn.of_ex Tryz.func123 rfl Tryz.ntmps123 rfl ?_
 exact re3
theorem clone_bytes (v:Value) (b:List UInt8) (L:List Assn) (hr:RdT L v b) (hb:b.length≤140737488355328):Fn Tryz.prog 162 #[v] L fun r L'=>r.oneCell'=true∧L'=RowT r 5 b::L:=by
 refine Fn.of_ex Tryz.func162 rfl Tryz.ntmps162 rfl ?_
 refine Ex.know hr.ca ?_
 rintro ⟨a,c,rfl,hn⟩
 cases a with
 | none =>
  obtain ⟨rfl,hb0⟩:=hn rfl
  obtain rfl:=List.eq_nil_of_length_eq_zero hb0
  (refine rn ?_;intros)
  (refine fr ?_)
  exact ⟨_,Sub.row0 none _ _,rfl,rfl⟩
 | some a =>
  exact re2
theorem disk_Write (g:Nat) (v x:Value) (s:DS) (xs:List UInt8) (M:List Assn) (hx:RdT M x xs) (hv:v.oneCell'=true) (hb:s.b.length+xs.length≤140737488355328):Fn Tryz.prog 173 #[.pointer (some ⟨g,0,none⟩),x] (Blk g 284 [v,.bool s.down,.bool s.cut,.int .i64 s.keep]::RowT v 5 s.b::M)
  fun r L'=>r=.int .i64 (s.write xs).2∧∃ v',v'.oneCell'=true∧L'=Blk g 284 [v',.bool (s.write xs).1.down,.bool (s.write xs).1.cut,.int .i64 (s.write xs).1.keep]::RowT v' 5 (s.write xs).1.b::M:=by
 obtain ⟨b,down,cut,keep⟩:=s
 simp only at hb ⊢
 refine Fn.of_ex Tryz.func173 rfl Tryz.ntmps173 rfl ?_
 cases down
 ·cases cut
  ·(refine rn ?_;intros)
   (refine fr ?_)
   exact ⟨_,rB,rfl,_,by assumption,rfl⟩
  ·(refine rn ?_;intros)
   refine st_callIs [] rJ Tryz.call123 rJ rJ (disk_Crash _ _ _ _ _ _ _) ?_
   rintro _ _ rfl
   (refine rn ?_;intros)
   (refine fr ?_)
   exact ⟨_,rB,rfl,_,by assumption,rfl⟩
 ·(refine rn ?_;intros)
  (refine fr ?_)
  exact ⟨_,rB,rfl,_,hv,rfl⟩
theorem disk_Bytes (g:Nat) (v:Value) (b:List UInt8) (down cut:Bool) (keep:Int) (M:List Assn) (hb:b.length≤140737488355328):Fn Tryz.prog 126 #[.pointer (some ⟨g,0,none⟩)] (Blk g 284 [v,.bool down,.bool cut,.int .i64 keep]::RowT v 5 b::M)
  fun r L'=>r.oneCell'=true∧L'=RowT r 5 b::Blk g 284 [v,.bool down,.bool cut,.int .i64 keep]::RowT v 5 b::M:=by
 refine Fn.of_ex Tryz.func126 rfl Tryz.ntmps126 rfl ?_
 (refine rn ?_;intros)
 refine st_callIs [] rJ Tryz.call162 rJ rJ (clone_bytes _ _ _ rD hb) ?_
 rintro r _ ⟨hr,rfl⟩
 (refine rn ?_;intros)
 (refine fr ?_)
 exact ⟨_,rB,hr,rfl⟩
theorem disk_Trim (g:Nat) (v:Value) (s:DS) (n:Int) (M:List Assn) (hv:v.oneCell'=true) (hb:s.b.length≤140737488355328):Fn Tryz.prog 127 #[.pointer (some ⟨g,0,none⟩),.int .i64 n] (Blk g 284 [v,.bool s.down,.bool s.cut,.int .i64 s.keep]::RowT v 5 s.b::M)
  fun r L'=>∃ v',v'.oneCell'=true∧L'=Blk g 284 [v',.bool (s.trim n).down,.bool (s.trim n).cut,.int .i64 (s.trim n).keep]::RowT v' 5 (s.trim n).b::M:=by
 obtain ⟨b,down,cut,keep⟩:=s
 simp only at hb ⊢
 refine Fn.of_ex Tryz.func127 rfl Tryz.ntmps127 rfl ?_
 by_cases h0:n<0
 ·have e:DS.trim ⟨b,down,cut,keep⟩ n=⟨b,down,cut,keep⟩:=by unfold DS.trim;rw [if_neg rM]
  rw [e]
  (refine rn ?_;(repeat (first | intro (g:Nat) | intro (v:Value) | intro h)))
  (refine fr ?_)
  exact ⟨_,rB,v,hv,rfl⟩
 by_cases h1:(b.length:Int)<n
 ·have e:DS.trim ⟨b,down,cut,keep⟩ n=⟨b,down,cut,keep⟩:=by unfold DS.trim;rw [if_neg (by simp only;omega)]
  rw [e]
  (refine rn ?_;(repeat (first | intro (g:Nat) | intro (v:Value) | intro h)))
  (refine fr ?_)
  exact ⟨_,rB,v,hv,rfl⟩
 have e:DS.trim ⟨b,down,cut,keep⟩ n=⟨b.take n.toNat,down,cut,keep⟩:=by unfold DS.trim;rw [if_pos (by simp only;omega)]
 rw [e]
 (refine rn ?_;(repeat (first | intro (g:Nat) | intro (v:Value) | intro h)))
 (refine fr ?_)
 refine ⟨_,?_,subs v 0 n.toNat 1,subs_one hv,rfl⟩
 have h2:(b.take n.toNat++List.replicate (b.length - n.toNat) (0:UInt8)).take n.toNat=b.take n.toNat:=by
  rw [List.take_append_of_le_length (by simp;omega),List.take_take,Nat.min_self]
 have h3:=Sub.rowTo (L:=Blk g 284 [subs v 0 n.toNat 1,.bool down,.bool cut,.int .i64 keep]::RowT v 5 (b.take n.toNat++List.replicate (b.length - n.toNat) (0:UInt8))::M) 1 rfl (h:=n.toNat) (by simp;omega) (sz:=1) rfl
 rw [h2] at h3
 exact h3
end
section
theorem delete_evs (v0:Value) (xs:List Ev) (i j:Nat) (M:List Assn) (hij:i≤j) (hj:j≤xs.length) (hb:xs.length≤1000000000) (o0:v0.oneCell'=true):Fn Tryz.prog 253 #[v0,.int .i64 i,.int .i64 j] (Evs_ v0 xs::M)
  fun r L'=>r.oneCell'=true∧L'=Evs_ r (xs.take i++xs.drop j)::M:=by
 refine Fn.of_ex Tryz.func253 rfl Tryz.ntmps253 rfl ?_
 by_cases h:i=j
 ·subst h
  (refine rn ?_;(repeat (first | intro (zs:List _) | intro h)))
  (refine fr ?_)
  exact ⟨_,rB,o0,by rw [List.take_append_drop]⟩
 ·refine Ex.know (RdT.row (xs:=xs) 0 rfl).capd ?_
  intro hcap
  (refine rn ?_;(repeat (first | intro (zs:List _) | intro h)))
  (refine Ex.mixA 7 M rfl rQ rF ?_;(refine mn ?_;(repeat (first | intro (zs:List _) | intro h))))
  (refine rn ?_;(repeat (first | intro (zs:List _) | intro h)))
  (refine fr ?_)
  refine ⟨_,?_,subs_one o0,rfl⟩
  have h2:∀ zs:List Ev,((xs.take i++xs.drop j++xs.drop (i+(xs.length - j))).take (i+(xs.length - j))++zs).take (i+(xs.length - j))=xs.take i++xs.drop j:=fun zs=>by
   have hl:(xs.take i++xs.drop j).length=i+(xs.length - j):=by simp;omega
   rw [← hl,List.take_left,List.take_left]
  have h3:=Sub.rowTo (α:=Ev) (L:=Evs_ v0 ((xs.take i++xs.drop j++xs.drop (i+(xs.length - j))).take (i+(xs.length - j))++List.replicate ((xs.take i++xs.drop j++xs.drop (i+(xs.length - j))).length - (i+(xs.length - j))) (ZRep.z 80))::M) 0 rfl (h:=i+(xs.length - j)) (by simp;omega) (sz:=12) rfl
  rw [h2] at h3
  exact h3
end
end
section
@[reducible] def OxO (g:Nat) (most size sent:Int) (v:Value):Assn:=Blk g 271 [.int .i64 most,.int .i64 size,.int .i64 sent,v]
def Wait (sent:Int) (l:List Ev):Prop:=∀ j (hj:j<l.length),(l[j]'hj).n=sent+1+j
theorem Wait.nil (sent:Int):Wait sent []:=fun j hj=>by simp at hj
theorem Wait.drop {sent:Int} {l:List Ev} (h:Wait sent l) (k:Nat) (hk:k≤l.length):Wait (sent+k) (l.drop k):=fun j hj=>by
 simp only [List.length_drop] at hj
 rw [List.getElem_drop,h _ rM]
 omega
theorem Wait.snoc {sent:Int} {l:List Ev} (h:Wait sent l) {e:Ev} (he:e.n=sent+l.length+1):Wait sent (l++[e]):=fun j hj=>by
 simp only [List.length_append,List.length_cons,List.length_nil] at hj
 by_cases hl:j<l.length
 ·rw [List.getElem_append_left hl];exact h j hl
 ·rw [List.getElem_append_right rM]
  simp only [List.getElem_singleton]
  omega
def addR (most sent:Int) (wait:List Ev) (e:Ev):Int×List Ev:=if most≤wait.length then (17,wait) else if e.n=sent+wait.length+1 then (0,wait++[e]) else (20,wait)
def sentR (sent:Int) (wait:List Ev) (upto:Int):Int:=max sent (min upto (sent+wait.length))
theorem addR_wait {most sent:Int} {wait:List Ev} {e:Ev} (h:Wait sent wait):Wait sent (addR most sent wait e).2:=by
 unfold addR
 split
 ·exact h
 ·split
  ·rename_i he;exact h.snoc he
  ·exact h
theorem addR_len {most sent:Int} {wait:List Ev} {e:Ev}:(addR most sent wait e).2.length≤wait.length+1:=by
 unfold addR
 split
 ·simp
 ·split <;> simp
set_option maxRecDepth 20000 attribute [local irreducible] Ex ExL Fn thn inb rnd fin meet Tab Mix mxEnd Val Sats RdT Rd RowT Row Blk Sub Fac ResV RVal Evs subs subs3 Hid Capd
section
theorem outbox_New (most size sent:Int) (L:List Assn):Fn Tryz.prog 187 #[.int .i64 most,.int .i64 size,.int .i64 sent] L fun v L'=>∃ g,v=.pointer (some ⟨g,0,none⟩)∧L'=OxO g most size sent (.slice none 0 0)::Evs_ (.slice none 0 0) []::L:=by
 refine Fn.of_ex Tryz.func187 rfl Tryz.ntmps187 rfl ?_
 (refine rn ?_;intros)
 (refine fr ?_)
 exact ⟨_,Sub.cons _ (Sub.empty none _ _),_,rfl,rfl⟩
theorem outbox_Len (g:Nat) (most size sent:Int) (v0:Value) (wait:List Ev) (M:List Assn):Fn Tryz.prog 108 #[.pointer (some ⟨g,0,none⟩)] (OxO g most size sent v0::Evs_ v0 wait::M)
  fun r L'=>r=.int .i64 wait.length∧L'=OxO g most size sent v0::Evs_ v0 wait::M:=by
 refine Fn.of_ex Tryz.func108 rfl Tryz.ntmps108 rfl ?_
 exact re0
theorem outbox_Room (g:Nat) (most size sent:Int) (v0:Value) (wait:List Ev) (M:List Assn):Fn Tryz.prog 99 #[.pointer (some ⟨g,0,none⟩)] (OxO g most size sent v0::Evs_ v0 wait::M)
  fun r L'=>r=.bool (decide ((wait.length:Int)<most))∧L'=OxO g most size sent v0::Evs_ v0 wait::M:=by
 refine Fn.of_ex Tryz.func99 rfl Tryz.ntmps99 rfl ?_
 by_cases h:(wait.length:Int)<most
 ·rw [decide_eq_true h]
  (refine rn ?_;intros)
  (refine mu10 ?_;intros)
  exact re0
 ·rw [decide_eq_false h]
  (refine rn ?_;intros)
  (refine mu10 ?_;intros)
  exact re0
end
end
section
set_option maxRecDepth 20000
instance:KeyT Tryz.prog 90 Mk where
 depth:=3
 ls:=[.i .i64,.i .i64]
 small:=rfl
 leaves:=by kernel_rfl
 agg:=by kernel_rfl
 guard:=by kernel_rfl
 ok:=fun _=>rfl
 inj:=fun a b h=>by
  obtain ⟨a1,a2⟩:=a
  obtain ⟨b1,b2⟩:=b
  simp only [Rep.cells,List.cons.injEq,Value.int.injEq,true_and,and_true] at h
  simp [h]
 check:=fun w em a=>check_2int (e:=3) Tryz.underlying90 ⟨rfl,rfl,by decide⟩ ⟨rfl,rfl,by decide⟩ rQ w em a.r a.n
end
section
set_option maxRecDepth 20000
set_option maxRecDepth 20000 attribute [local irreducible] Ex ExL Fn thn inb rnd fin meet Tab Mix mxEnd Val Sats RdT Rd RowT Row Blk Sub Fac ResV RVal Evs subs subs3 Hid Capd
section
theorem mark_F (e:Ev) (M:List Assn):Fn Tryz.prog 272 #[.agg (Rep.cells e).toArray] M fun v L'=>v=.agg (Rep.cells e.mk_).toArray∧L'=M:=by
 refine Fn.of_ex Tryz.func272 rfl Tryz.ntmps272 rfl ?_
 exact re0
def Next5 (c:Clk) (l:List Ev) (v:Value):Prop:=(∃ i,∃ hi:i<l.length,NextI c l i∧v=.tuple #[.agg (Rep.cells (l[i]'hi)).toArray,.bool true])∨((∀ i,¬ NextI c l i)∧v=.tuple #[.agg (Rep.cells Ev.zero).toArray,.bool false])
theorem next_F (c:Clk) (g0:Nat) (l:List Ev) (M:List Assn) (hd:Dst l) (hI:∀ e∈l,I64 e.n) (hc:∀ i,i<5→I64 (c.get i)):Fn Tryz.prog 273 #[c.val,.map (some g0)] (MapT g0 (mapL l)::M)
  fun v L'=>Next5 c l v∧L'=MapT g0 (mapL l)::M:=by
 refine Fn.of_ex Tryz.func273 rfl Tryz.ntmps273 rfl ?_
 (refine rn ?_;intros)
 refine Ex.loopS [9] (fun m vs=>∃ (i:Nat),i≤5∧m=5 - i∧vs=[.int .i64 i]∧∀ e∈l,e.rdy c→(i:Int)≤e.r) 5 ⟨0,by omega,by omega,rfl,fun e _ h=>h.1⟩ ?_
 rintro m vs g1 ⟨i,hi,rfl,rfl,hall⟩
 refine Ex.keep [1,2,4,9] rG (fun gk=>?_)
 by_cases hlt:i<5
 ·have e1:=Clk.getD_eq c (i:Int).toNat
  rw [show c.get (i:Int).toNat=c.get i from rfl] at e1
  have hci:=hc i hlt
  unfold I64 at hci
  have hstep:∀ K:Int,(∀ e∈l,e.rdy c→e.r=i→e.n=K→False)→(∀ e∈l,e.rdy c→e.r=i→e.n=K)→∀ e∈l,e.rdy c→((i+1:Nat):Int)≤e.r:=fun K h1 h2 e he hr=>by
   have:=hall e he hr
   by_cases h:e.r=i
   ·exact (h1 e he hr h (h2 e he hr h)).elim
   ·omega
  by_cases hmx:c.get i=9223372036854775807
  ·have hn:∀ e∈l,e.rdy c→((i+1:Nat):Int)≤e.r:=fun e he hr=>by
    have h1:=hall e he hr
    by_cases h:e.r=i
    ·have h2:=hr.2.2.2.1
     rw [h,show c.get (i:Int).toNat=c.get i from rfl] at h2
     have h3:=hI e he
     unfold I64 at h3
     omega
    ·omega
   clear hstep hall
   (refine rn ?_;intros)
   rcases mpos_spec (⟨i,IntKind.i64.wrap ([c.a,c.b,c.c,c.d,c.e].getD (i:Int).toNat 0+1)⟩:Mk) l 0 with ⟨h1,h2⟩ | ⟨j,hj,h1,h2⟩
   ·refine st_lookup_none 2 rJ rJ rJ rfl rJ rJ h1 ?_
    (refine rn ?_;intros)
    exact rnd_n ⟨5 - (i+1),_,by omega,rB,⟨i+1,by omega,by omega,lcons (vint rM) rfl,hn⟩,rfl⟩
   ·have hn1:(l[j]'hj).n=IntKind.i64.wrap ([c.a,c.b,c.c,c.d,c.e].getD (i:Int).toNat 0+1):=congrArg Mk.n h1
    rw [e1,hmx,show IntKind.i64.wrap (9223372036854775807+1)=-9223372036854775808 by rw [IntKind.wrap_i64];decide] at hn1
    refine st_lookup_some 2 rJ rJ rJ rfl rJ rJ h2 ?_
    (refine rn ?_;intros)
    exact rnd_n ⟨5 - (i+1),_,by omega,rB,⟨i+1,by omega,by omega,lcons (vint rM) rfl,hn⟩,rfl⟩
  ·have hK:∀ e∈l,e.rdy c→e.r=i→e.n=[c.a,c.b,c.c,c.d,c.e].getD (i:Int).toNat 0+1:=fun e he hr hri=>by
    have:=hr.2.2.2.1
    rw [hri,show c.get (i:Int).toNat=c.get i from rfl] at this
    omega
   (refine rn ?_;intros)
   rcases mpos_spec (⟨i,[c.a,c.b,c.c,c.d,c.e].getD (i:Int).toNat 0+1⟩:Mk) l 0 with ⟨h1,h2⟩ | ⟨j,hj,h1,h2⟩
   ·refine st_lookup_none 2 rJ rJ rJ rfl rJ rJ h1 ?_
    have hn:=hstep _ (fun e he hr hri hn=>h2 e he (by simp only [Ev.mk_,hri,hn])) hK
    clear hstep hK hall
    (refine rn ?_;intros)
    exact rnd_n ⟨5 - (i+1),_,by omega,rB,⟨i+1,by omega,by omega,lcons (vint rM) rfl,hn⟩,rfl⟩
   ·have hr1:(l[j]'hj).r=i:=congrArg Mk.r h1
    have hn1:(l[j]'hj).n=[c.a,c.b,c.c,c.d,c.e].getD (i:Int).toNat 0+1:=congrArg Mk.n h1
    have hIj:=hI _ (List.getElem_mem hj)
    unfold I64 at hIj
    have hun:∀ e∈l,e.rdy c→e.r=i→e=l[j]'hj:=fun e he hr hri=>by
     obtain ⟨q,hq,rfl⟩:=List.getElem_of_mem he
     have:=hd.inj hq hj (by simp only [Ev.mk_,hri,hr1,hn1,hK _ he hr hri])
     subst this
     rfl
    have hnx:¬ (l[j]'hj).rdy c→∀ e∈l,e.rdy c→((i+1:Nat):Int)≤e.r:=fun hnr e he hr=>by
     have:=hall e he hr
     by_cases h:e.r=i
     ·rw [hun e he hr h] at hr;exact (hnr hr).elim
     ·omega
    clear hstep hK hun
    by_cases hn0:1≤(l[j]'hj).n
    ·cases hle:(l[j]'hj).c.le c
     ·have hn:=hnx fun hr=>by rw [hr.2.2.2.2] at hle;cases hle
      clear hnx hall
      refine st_lookup_some 2 rJ rJ rJ rfl rJ rJ h2 ?_
      (refine rn ?_;intros)
      refine st_callIs [] rJ Tryz.call312 rJ rJ (le_F (l[j]'hj).c c _) ?_
      rintro _ _ ⟨rfl,rfl⟩
      rw [hle]
      (refine rn ?_;intros)
      exact rnd_n ⟨5 - (i+1),_,by omega,rB,⟨i+1,by omega,by omega,lcons (vint rM) rfl,hn⟩,rfl⟩
     ·have hrdy:(l[j]'hj).rdy c:=⟨by omega,by omega,hn0,by rw [hr1,show c.get (i:Int).toNat=c.get i from rfl];omega,hle⟩
      have hnext:NextI c l j:=⟨hj,hrdy,fun q hq hr=>by rw [hr1];exact hall _ (List.getElem_mem hq) hr⟩
      clear hnx hall
      refine st_lookup_some 2 rJ rJ rJ rfl rJ rJ h2 ?_
      (refine rn ?_;intros)
      refine st_callIs [] rJ Tryz.call312 rJ rJ (le_F (l[j]'hj).c c _) ?_
      rintro _ _ ⟨rfl,rfl⟩
      rw [hle]
      (refine rn ?_;intros)
      (refine fr ?_)
      exact ⟨_,rB,.inl ⟨j,hj,hnext,rfl⟩,rfl⟩
    ·have hn:=hnx fun hr=>hn0 hr.2.2.1
     clear hnx hall
     refine st_lookup_some 2 rJ rJ rJ rfl rJ rJ h2 ?_
     (refine rn ?_;intros)
     exact rnd_n ⟨5 - (i+1),_,by omega,rB,⟨i+1,by omega,by omega,lcons (vint rM) rfl,hn⟩,rfl⟩
 ·have hno:∀ i,¬ NextI c l i:=fun j ⟨hj,h1,h2⟩=>by
   have:=hall _ (List.getElem_mem hj) h1
   have:=h1.2.1
   omega
  (refine rn ?_;intros)
  (refine fr ?_)
  exact ⟨_,rB,.inr ⟨hno,rfl⟩,rfl⟩
end
end
section
instance (c:Clk) (e:Ev):Decidable (e.rdy c):=by unfold Ev.rdy;exact inferInstance
@[reducible] def St1 (gm g6 g2:Nat) (c:Clk) (vo:Value) (F:List Ev) (M:List Assn):List Assn:=Evs_ vo F::Evs_ (.slice none 0 0) []::Evs_ (.slice none 0 0) []::MapT gm (mapL F)::Blk g6 50 (Rep.cells Clk.zero)::Blk g2 50 (Rep.cells c)::M
@[reducible] def St2 (gm g6 g2 gz:Nat) (c:Clk) (z:Ev) (v4:Value) (dn:List Ev) (vo:Value) (O left:List Ev) (M:List Assn):List Assn :=
 Evs_ v4 dn::Evs_ (.slice none 0 0) []::MapT gm (mapL left)::Blk gz 80 (Rep.cells z)::Evs_ vo O::Blk g6 50 (Rep.cells Clk.zero)::Blk g2 50 (Rep.cells c)::M
@[reducible] def St3 (gm g6 g2:Nat) (c:Clk) (v4:Value) (dn:List Ev) (v5:Value) (out:List Ev) (vo:Value) (O left:List Ev) (M:List Assn):List Assn :=
 Evs_ v5 out::Evs_ v4 dn::MapT gm (mapL left)::Evs_ vo O::Blk g6 50 (Rep.cells Clk.zero)::Blk g2 50 (Rep.cells c)::M
def NB (c:Clk) (l:List Ev) (z:Ev) (b:Bool):Prop:=(b=true→∃ i,∃ hi:i<l.length,NextI c l i∧z=l[i]'hi)∧(b=false→∀ i,¬ NextI c l i)
theorem Next5.nb {c:Clk} {l:List Ev} {v:Value} (h:Next5 c l v):∃ z b,v=.tuple #[.agg (Rep.cells z).toArray,.bool b]∧NB c l z b:=by
 rcases h with ⟨i,hi,hn,rfl⟩ | ⟨hn,rfl⟩
 ·exact ⟨_,true,rfl,(fun _=>⟨i,hi,hn,rfl⟩),(fun h=>by cases h)⟩
 ·exact ⟨_,false,rfl,(fun h=>by cases h),(fun _=>hn)⟩
def inL (left:List Ev) (e:Ev):Bool:=left.any fun x=>decide (x.mk_=e.mk_)
theorem filter_take {p:Ev→Bool} (l:List Ev) (i:Nat) (h:i<l.length):(l.take (i+1)).filter p=if p (l[i]'h) then (l.take i).filter p++[l[i]'h] else (l.take i).filter p:=by
 rw [List.take_succ_eq_append_getElem h,List.filter_append]
 split <;> rename_i hc <;> simp [hc]
set_option maxRecDepth 20000 attribute [local irreducible] Ex ExL Fn thn inb rnd fin meet Tab Mix mxEnd Val Sats RdT Rd RowT Row Blk Sub Fac ResV RVal Evs subs subs3 Hid Capd
section
theorem drain_F (c:Clk) (v0:Value) (l:List Ev) (M:List Assn) (hr:RdT M v0 l) (hl:l.length≤1000000) (hI:∀ e∈l,I64 e.n) (hc:c.I):Fn Tryz.prog 235 #[c.val,v0] M
  fun v L'=>∃ v1 v2:Value,v1.oneCell'=true∧v2.oneCell'=true∧v=.tuple #[v1,v2,.agg (Rep.cells (drain c (freshL c l)).2.2).toArray]∧L'=Evs_ v1 (drain c (freshL c l)).1::Evs_ v2 (drain c (freshL c l)).2.1::M:=by
 have hF:=freshL_len c l
 have hFd:Dst (freshL c l):=freshL_dst c l [] List.Pairwise.nil
 have hFI:∀ e∈freshL c l,I64 e.n:=fun e he=>hI e (freshL_mem c l e he)
 refine Fn.of_ex Tryz.func235 rfl Tryz.ntmps235 rfl ?_
 (refine rn ?_;(repeat (first | intro (g:Nat) | intro (v:Value) | intro (cs:List Value) | intro (hcs:_=List.set _ _ _) | intro h)))
 revert g
 intro g6
 revert g
 intro g2
 refine st_makeMap Mk Ev rJ (fun gm=>?_)
 (refine rn ?_;(repeat (first | intro (g:Nat) | intro (v:Value) | intro (cs:List Value) | intro (hcs:_=List.set _ _ _) | intro h)))
 refine Ex.sub (L':=St1 gm g6 g2 c (.slice none 0 0) [] M) ?_ (Sub.trans (Sub.empty none _ _) (Sub.trans (Sub.empty none _ _) (Sub.empty none _ _)))
 refine Ex.loop [8,22] (fun m vs L'=>∃ (i:Nat) (vo:Value),i≤l.length∧m=l.length - i∧vo.oneCell'=true∧vs=[vo,.int .i64 i]∧L'=St1 gm g6 g2 c vo (freshL c (l.take i)) M) l.length ⟨0,_,by omega,by omega,rfl,rfl,rfl⟩ ?_
 rintro m vs g1 L' ⟨i,vo,hi,rfl,ho,rfl,rfl⟩
 refine Ex.keep [2,4,5,6,7,8,20,21,22] rG (fun gk=>?_)
 by_cases hlt:i<l.length
 ·have hfi:=freshL_len c (l.take i)
  simp only [List.length_take] at hfi
  have hst:=freshL_take c l i hlt
  have hany:=any_iff_mpos (l[i]'hlt) (freshL c (l.take i))
  obtain ⟨F,hF1⟩:∃ F,F=freshL c (l.take i):=⟨_,rfl⟩
  rw [← hF1] at hfi hst hany ⊢
  (refine rn ?_;(repeat (first | intro (g:Nat) | intro (v:Value) | intro (cs:List Value) | intro (hcs:_=List.set _ _ _) | intro h)))
  refine st_callIs [] rJ Tryz.call272 rJ rJ (mark_F (l[i]'hlt) _) ?_
  rintro _ _ ⟨rfl,rfl⟩
  rcases mpos_spec (l[i]'hlt).mk_ F 0 with ⟨h1,h2⟩ | ⟨j,hj,h1,h2⟩
  ·rw [h1] at hany
   refine st_lookup_none 4 rJ rJ rJ rfl rJ rJ h1 ?_
   (refine rn ?_;(repeat (first | intro (g:Nat) | intro (v:Value) | intro (cs:List Value) | intro (hcs:_=List.set _ _ _) | intro h)))
   refine st_callIs [] rJ Tryz.call171 rJ rJ (has_F c (l[i]'hlt).r (l[i]'hlt).n _) ?_
   rintro _ _ ⟨rfl,rfl⟩
   cases hh:c.has (l[i]'hlt).r (l[i]'hlt).n
   ·have hs2:freshL c (l.take (i+1))=F++[l[i]'hlt]:=by
     rw [hst];unfold freshS;rw [if_neg (by rw [hany,hh];simp)]
    clear hst hany h2
    (refine rn ?_;(repeat (first | intro (g:Nat) | intro (v:Value) | intro (cs:List Value) | intro (hcs:_=List.set _ _ _) | intro h)))
    (refine mu4 ?_;(repeat (first | intro (g:Nat) | intro (v:Value) | intro (cs:List Value) | intro (hcs:_=List.set _ _ _) | intro h)))
    (refine mx_act rJ rJ rJ ?_;refine st_callIs [] rJ Tryz.call272 rE rJ (mark_F (l[i]'hlt) _) ?_)
    rintro _ _ ⟨rfl,rfl⟩
    (refine ExL.nil ?_;refine mxEnd_n rF ?_;(refine mn ?_;(repeat (first | intro (g:Nat) | intro (v:Value) | intro (cs:List Value) | intro (hcs:_=List.set _ _ _) | intro h))))
    refine st_mapNew _ rJ rJ rJ rK rJ h1 rE ?_
    (refine rn ?_;(repeat (first | intro (g:Nat) | intro (v:Value) | intro (cs:List Value) | intro (hcs:_=List.set _ _ _) | intro h)))
    refine rnd_n ⟨l.length - (i+1),St1 gm g6 g2 c v (F++[l[i]'hlt]) M,by omega,?_,i+1,v,by omega,rfl,by assumption,lcons rfl (lcons (vint rM) rfl),by rw [hs2]⟩
    rw [St1,mapL_snoc]
    exact rB
   ·have hs2:freshL c (l.take (i+1))=F:=by
     rw [hst];unfold freshS;rw [if_pos (.inr hh)]
    clear hst hany h2
    (refine rn ?_;(repeat (first | intro (g:Nat) | intro (v:Value) | intro (cs:List Value) | intro (hcs:_=List.set _ _ _) | intro h)))
    exact rnd_n ⟨l.length - (i+1),St1 gm g6 g2 c vo F M,by omega,rB,i+1,vo,by omega,rfl,ho,lcons rfl (lcons (vint rM) rfl),by rw [hs2]⟩
  ·rw [h2] at hany
   have hs2:freshL c (l.take (i+1))=F:=by
    rw [hst];unfold freshS;rw [if_pos (.inl hany)]
   clear hst hany
   refine st_lookup_some 4 rJ rJ rJ rfl rJ rJ h2 ?_
   (refine rn ?_;(repeat (first | intro (g:Nat) | intro (v:Value) | intro (cs:List Value) | intro (hcs:_=List.set _ _ _) | intro h)))
   exact rnd_n ⟨l.length - (i+1),St1 gm g6 g2 c vo F M,by omega,rB,i+1,vo,by omega,rfl,ho,lcons rfl (lcons (vint rM) rfl),by rw [hs2]⟩
 ·obtain rfl:i=l.length:=by omega
  rw [List.take_length]
  obtain ⟨O,hO⟩:∃ O,O=freshL c l:=⟨_,rfl⟩
  rw [← hO] at hF hFd hFI ⊢
  (refine rn ?_;(repeat (first | intro (g:Nat) | intro (v:Value) | intro (cs:List Value) | intro (hcs:_=List.set _ _ _) | intro h)))
  refine st_callIs [3] rJ Tryz.call273 rE rJ (next_F c gm O _ hFd hFI hc) ?_
  rintro _ _ ⟨hn5,rfl⟩
  obtain ⟨z,b,rfl,hnb⟩:=hn5.nb
  clear hn5
  (refine rn ?_;(repeat (first | intro (g:Nat) | intro (v:Value) | intro (cs:List Value) | intro (hcs:_=List.set _ _ _) | intro h)))
  revert g
  intro gz
  refine Ex.sub (L':=St2 gm g6 g2 gz c z (.slice none 0 0) [] vo O O M) ?_ (Sub.trans rB (fronts_sub [4,4,2,1,2] _))
  refine Ex.loop [4,13,14] (fun m vs L'=>∃ (c':Clk) (left dn:List Ev) (v4:Value) (gz:Nat) (z:Ev) (b:Bool),m=left.length∧Dst left∧left.Sublist O∧c'.I∧dn++(drain c' left).1=(drain c O).1∧(drain c' left).2=(drain c O).2∧NB c' left z b∧v4.oneCell'=true∧dn.length+left.length=O.length∧vs=[v4,.pointer (some ⟨gz,0,none⟩),.bool b]∧L'=St2 gm g6 g2 gz c' z v4 dn vo O left M) O.length ⟨c,O,[],_,gz,z,b,rfl,hFd,List.Sublist.refl _,hc,rfl,rfl,hnb,rfl,by simp,rfl,rfl⟩ ?_
  clear hnb
  rintro m vs g3 L' ⟨c',left,dn,v4,gz,z,b,rfl,hld,hls,hci,hd1,hd2,hnb,o4,hlen,rfl,rfl⟩
  refine Ex.keep [2,4,5,6,7,8,13,14] rG (fun gk=>?_)
  cases b
  ·have hno:=hnb.2 rfl
   rw [drain_stop hno] at hd1 hd2
   simp only [List.append_nil] at hd1
   rw [← hd1,← hd2]
   (refine rn ?_;(repeat (first | intro (g:Nat) | intro (v:Value) | intro (cs:List Value) | intro (hcs:_=List.set _ _ _) | intro h)))
   refine Ex.sub (L':=St3 gm g6 g2 c' v4 dn (.slice none 0 0) [] vo O left M) ?_ (Sub.trans rB (fronts_sub [1] _))
   refine Ex.loop [5,82] (fun m vs L'=>∃ (i:Nat) (v5:Value),i≤O.length∧m=O.length - i∧v5.oneCell'=true∧vs=[v5,.int .i64 i]∧L'=St3 gm g6 g2 c' v4 dn v5 ((O.take i).filter (inL left)) vo O left M) O.length ⟨0,_,by omega,by omega,rfl,rfl,rfl⟩ ?_
   rintro m vs g4 L' ⟨i,v5,hi,rfl,o5,rfl,rfl⟩
   refine Ex.keep [2,4,5,6,7,80,81,82] rG (fun gk=>?_)
   by_cases hlt:i<O.length
   ·have hft:=filter_take (p:=inL left) O i hlt
    have hfl:=List.length_filter_le (inL left) (O.take i)
    simp only [List.length_take] at hfl
    have hany:=any_iff_mpos (O[i]'hlt) left
    obtain ⟨X,hX⟩:∃ X,X=(O.take i).filter (inL left):=⟨_,rfl⟩
    rw [← hX] at hft hfl ⊢
    (refine rn ?_;(repeat (first | intro (g:Nat) | intro (v:Value) | intro (cs:List Value) | intro (hcs:_=List.set _ _ _) | intro h)))
    refine st_callIs [] rJ Tryz.call272 rJ rJ (mark_F (O[i]'hlt) _) ?_
    rintro _ _ ⟨rfl,rfl⟩
    rcases mpos_spec (O[i]'hlt).mk_ left 0 with ⟨h1,h2⟩ | ⟨j,hj,h1,h2⟩
    ·rw [h1] at hany
     rw [if_neg (by unfold inL;rw [hany];simp)] at hft
     clear hany h2
     refine st_lookup_none 3 rJ rJ rJ rfl rJ rJ h1 ?_
     (refine rn ?_;(repeat (first | intro (g:Nat) | intro (v:Value) | intro (cs:List Value) | intro (hcs:_=List.set _ _ _) | intro h)))
     exact rnd_n ⟨O.length - (i+1),St3 gm g6 g2 c' v4 dn v5 X vo O left M,by omega,rB,i+1,v5,by omega,rfl,o5,lcons rfl (lcons (vint rM) rfl),by rw [hft]⟩
    ·rw [h2] at hany
     rw [if_pos (by unfold inL;rw [hany];rfl)] at hft
     clear hany
     refine st_lookup_some 3 rJ rJ rJ rfl rJ rJ h2 ?_
     (refine rn ?_;(repeat (first | intro (g:Nat) | intro (v:Value) | intro (cs:List Value) | intro (hcs:_=List.set _ _ _) | intro h)))
     exact rnd_n ⟨O.length - (i+1),St3 gm g6 g2 c' v4 dn v (X++[O[i]'hlt]) vo O left M,by omega,rB,i+1,v,by omega,rfl,by assumption,lcons rfl (lcons (vint rM) rfl),by rw [hft]⟩
   ·obtain rfl:i=O.length:=by omega
    have hfs:O.filter (inL left)=left:=filter_sub hls hFd
    rw [List.take_length,hfs]
    (refine rn ?_;(repeat (first | intro (g:Nat) | intro (v:Value) | intro (cs:List Value) | intro (hcs:_=List.set _ _ _) | intro h)))
    (refine mu5 ?_;(repeat (first | intro (g:Nat) | intro (v:Value) | intro (cs:List Value) | intro (hcs:_=List.set _ _ _) | intro h)))
    (refine rn ?_;(repeat (first | intro (g:Nat) | intro (v:Value) | intro (cs:List Value) | intro (hcs:_=List.set _ _ _) | intro h)))
    (refine fr ?_)
    exact ⟨_,Sub.trans rB (fronts_sub [1] _),v4,v5,o4,o5,rfl,rfl⟩
  ·obtain ⟨i,hil,hnx,rfl⟩:=hnb.1 rfl
   have hstep:=drain_step hld hil hnx
   have hle:(left.eraseIdx i).length=left.length - 1:=by rw [List.length_eraseIdx,if_pos hil]
   have hrd:=hnx.2.1
   have hnI:=hFI _ (hls.subset (List.getElem_mem hil))
   have hne:c'.get (left[i]'hil).r.toNat=(left[i]'hil).n - 1:=by have:=hrd.2.2.2.1;omega
   have e1:=Clk.getD_eq c' (left[i]'hil).r.toNat
   have hcl:(Rep.cells c').length=5:=rfl
   have hnI2:=hnI
   unfold I64 at hnI2
   have hr0:=hrd.1
   have hr5:=hrd.2.1
   (refine rn ?_;(repeat (first | intro (g:Nat) | intro (v:Value) | intro (cs:List Value) | intro (hcs:_=List.set _ _ _) | intro h)))
   refine st_callIs [] rJ Tryz.call272 rJ rJ (mark_F (left[i]'hil) _) ?_
   rintro _ _ ⟨rfl,rfl⟩
   refine st_mapDel _ rJ rJ rK rfl rJ (mpos_at hld hil) rE ?_
   rw [← mapL_erase]
   (refine rn ?_;(repeat (first | intro (g:Nat) | intro (v:Value) | intro (cs:List Value) | intro (hcs:_=List.set _ _ _) | intro h)))
   have hcs2:cs=Rep.cells (c'.set (left[i]'hil).r.toNat (left[i]'hil).n):=by
    rw [hcs,← Clk.cells_set _ _ rM,e1,hne,Int.sub_add_cancel,Nat.mul_one,Nat.zero_add]
   clear hcs
   subst hcs2
   revert g
   intro gy
   refine ExL.sub (L':=St2 gm g6 g2 gy (c'.set (left[i]'hil).r.toNat (left[i]'hil).n) (left[i]'hil) v (dn++[left[i]'hil]) vo O (left.eraseIdx i) M) ?_ (Sub.trans rB (fronts_sub [4,4,4,0] _))
   (refine rn ?_;(repeat (first | intro (v:Value) | intro h)))
   refine st_callIs [2] rJ Tryz.call273 rE rJ (next_F (c'.set (left[i]'hil).r.toNat (left[i]'hil).n) gm (left.eraseIdx i) _ (hld.erase i) (fun e he=>hFI e (hls.subset ((List.eraseIdx_sublist ..).subset he))) (hci.set rM hnI)) ?_
   rintro _ _ ⟨hn5,rfl⟩
   obtain ⟨z,b,rfl,hnb2⟩:=hn5.nb
   clear hn5
   (refine rn ?_;(repeat (first | intro (v:Value) | intro h)))
   rw [hstep] at hd1 hd2
   exact rnd_n ⟨(left.eraseIdx i).length,St2 gm g6 g2 gy (c'.set (left[i]'hil).r.toNat (left[i]'hil).n) z v (dn++[left[i]'hil]) vo O (left.eraseIdx i) M,by omega,Sub.trans rB (fronts_sub [2,2] _),_,_,_,v,gy,z,b,rfl,hld.erase i,(List.eraseIdx_sublist ..).trans hls,hci.set rM hnI,by rw [List.append_assoc];exact hd1,hd2,hnb2,by assumption,by simp;omega,rfl,rfl⟩
end
end
section
structure Sv where
 v:Value
 one:v.oneCell'=true
instance:Rep Sv:=⟨1,fun b=>[b.v],by decide,fun _=>rfl,fun b=>by simp [b.one]⟩
section
variable {P:Program} {n:Nat} {ops:Array Oper} {Q:Post} {f:Nat→Value} {L:List Assn} {rest:List Oper} {d:Nat} {ty:TypeId} {pos:String} {af:Array Edge} {gd:Option (Nat×Bool)}
theorem st_callV (is:List Nat) {dd:Option Nat} {x:Operand} {fn:FuncId} {xs:List Operand} {fs vs:List Value} {ts:Array TypeId} {L1:List Assn} {R:Value→List Assn→Prop} (hd:dstOk n dd=true) (hx:evalF f x=.func (.func fn) fs.toArray #[])
  (hrun:∀ (xs:Array Value) (w:World),(callFunc fn xs).run P w=.ok (.enter fn xs) w) (hl:fronts is L=L1) (ha:xs.map (evalF f)=vs) (hf:Fn P fn (fs++vs).toArray L1 R) (h:∀ v L',R v L'→ExL P n ops rest Q (updo f dd v) L') :
  ExL P n ops (⟨dd,.call ⟨.value x,xs.toArray,ts⟩,ty,pos,af,none⟩::rest) Q f L:=by
 have hf:=hf.sub (L:=L) (by subst hl;exact fronts_sub is L)
 intro D F w0 f0 ws a w H hc
 refine wpList_plain rfl fun K hK=>?_
 have hx2:(execOp a.eval ⟨dd,.call ⟨.value x,xs.toArray,ts⟩,ty,pos,af,none⟩).run P w=.ok (.enter fn (fs++vs).toArray) w:=by
  rw [H.2.1.eval]
  subst ha
  unfold execOp
  simp [resolve,Deferred.ofValue,hx,invoke,hrun]
 unfold Oper.wp
 rw [hx2]
 show Calls P fn _ w _
 refine (hf F w0 w H.1 H.2.2.1).mono ?_
 rintro e w' ⟨v,L',rfl,hr,hs,hR⟩
 have hp:Here D n F w0 f0 ws (a.put dd v) w' (updo f dd v) L':=by
  have:=Here.puto (w':=w) H (Rest.refl w) H.2.2.1 hd (fun t ht=>hc t (mem_writesL (o:=⟨dd,.call ⟨.value x,xs.toArray,ts⟩,ty,pos,af,none⟩) (t:=0) ht)) v
  exact ⟨hr,this.2.1,hs,this.2.2.2⟩
 exact hK _ _ (h v L' hR D F w0 f0 ws _ _ hp fun d hd=>hc d (mem_writesL' hd))
theorem vl_capNil {x:Operand} {t e:TypeId} (hx:evalF f x=.slice none 0 0) (hu:P.underlying t=some (.slice e)) :
  Val P ⟨some d,.call ⟨.builtin .cap,#[x],#[t]⟩,ty,pos,af,gd⟩ f L (.int .i64 0):=fun F w s=>by
 simp [execOp,resolve,invoke,builtin,hx,Builtin.cap_,run_underlying hu,goInt]
variable {α:Type} [Rep α]
theorem st_growNil {t tn e:TypeId} [Z:ZRep P e α] {x y:Operand} {k kn:IntKind} {m:Nat} {by_:Nat} (hd:Nat.blt d n=true) (hx:evalF f x=.slice none 0 0) (hy:evalF f y=.int k (m:Int)) (ht:P.underlying t=some (.slice e)) (htn:P.underlying tn=some (.int kn)) (hby:P.bytesOf e=by_) (h0:0<m) (hb:m * by_≤140737488355328) (hm:m≤140737488355328)
  (h:∀ v',v'.oneCell'=true→ExL P n ops rest Q (upd f d v') (RowT v' e (List.replicate m Z.z)::L)):ExL P n ops (⟨some d,.call ⟨.builtin .append,#[x,y],#[t,tn]⟩,ty,pos,af,none⟩::rest) Q f L:=by
 refine ExL.eff rfl hd (R:=fun v' L'=>v'.oneCell'=true∧L'=RowT v' e (List.replicate m Z.z)::L) (fun F w s=>?_) (fun v' L' e=>by obtain ⟨e1,rfl⟩:=e;exact h v' e1)
 obtain ⟨inf,z,hinf,hsize,hbytes,hzero,hzc⟩:∃ i z,P.info? e=some i∧i.size=Rep.sz α∧i.bytes=by_∧i.zero=some z∧z.cells=(Rep.cells Z.z).toArray:=by
  have hz:=Z.eq
  have hs:=Z.size
  unfold zeroC at hz
  unfold Program.cellsOf at hs
  unfold Program.bytesOf at hby
  cases hi:P.info? e with
  | none=>rw [hi] at hz;cases hz
  | some inf =>
   rw [hi] at hz hs hby
   simp at hz hs hby
   obtain ⟨z,hz1,hz2⟩:=hz
   exact ⟨inf,z,rfl,hs,hby,hz1,by rw [← hz2]⟩
 have hrun:=Lib.run_append_nil_zeros (P:=P) w t tn ty e inf z k kn ht htn hinf hzero m h0 (by rw [hsize];exact Rep.pos) rM (by rw [hbytes];omega)
 have hge:=grownCap_ge w m 0 e
 have hcm:grownCap w m 0 e≤maxLen:=grownCap_le_maxLen w m 0 e (by unfold maxLen;omega)
 have hzs:z.cells.size=Rep.sz α:=by rw [hzc];simp [Rep.len]
 refine ⟨.slice (some ⟨w.heap.size,0,none⟩) m (grownCap w m 0 e),w.drew.alloc (.cells (Builtin.zeroCells z.cells m++Builtin.zeroCells z.cells (grownCap w m 0 e - m)) e),_,.inl (by simp [execOp,resolve,invoke,builtin,hx,hy,hrun]),Rest.alloc (Rest.drew (Rest.refl w)) _,Sats.alloc (w:=w.drew) _ (Sats.drew s) (A:=RowT (.slice (some ⟨w.heap.size,0,none⟩) m (grownCap w m 0 e)) e (List.replicate m Z.z)) ?_,rfl,rfl⟩
 refine ⟨cellsOf_len _,.inr ⟨w.heap.size,_,_,by simp,rfl,by simpa using hge,hcm,?_,?_⟩⟩
 ·simp only [Array.size_append,size_zeroCells,hzs,← Nat.add_mul]
  congr 1
  omega
 ·have hz0:z.cells.toList=Rep.cells Z.z:=by rw [hzc]
  simp only [Array.toList_append,List.length_replicate]
  rw [zeroCells_rep hz0,List.take_append_of_le_length (by rw [cellsOf_len];simp),List.take_of_length_le (by rw [cellsOf_len];simp)]
end
end
section
@[reducible] def InO (g:Nat) (most:Int) (c:Clk) (v:Value):Assn:=Blk g 273 [.int .i64 most,.int .i64 c.a,.int .i64 c.b,.int .i64 c.c,.int .i64 c.d,.int .i64 c.e,v]
theorem capd_nil:Capd (.slice none 0 0) 0:=⟨none,0,rfl,Nat.le_refl _,Nat.zero_le _⟩
set_option maxRecDepth 20000 attribute [local irreducible] Ex ExL Fn thn inb rnd fin meet Tab Mix mxEnd Val Sats RdT Rd RowT Row Blk Sub Fac ResV RVal Evs subs subs3 Hid Capd
section
theorem inbox_New (most:Int) (c:Clk) (L:List Assn):Fn Tryz.prog 188 #[.int .i64 most,c.val] L fun v L'=>∃ g,v=.pointer (some ⟨g,0,none⟩)∧L'=InO g most c (.slice none 0 0)::Evs_ (.slice none 0 0) []::L:=by
 refine Fn.of_ex Tryz.func188 rfl Tryz.ntmps188 rfl ?_
 (refine rn ?_;intros)
 (refine fr ?_)
 exact ⟨_,Sub.trans (Sub.cons _ (Sub.drop _ (Sub.refl _))) (Sub.refl _) |> fun h=>Sub.trans (Sub.cons _ (Sub.empty none _ _)) h,_,rfl,rfl⟩
theorem inbox_Clock (g:Nat) (most:Int) (c:Clk) (v0:Value) (held:List Ev) (M:List Assn):Fn Tryz.prog 100 #[.pointer (some ⟨g,0,none⟩)] (InO g most c v0::Evs_ v0 held::M)
  fun r L'=>r=.agg (Rep.cells c).toArray∧L'=InO g most c v0::Evs_ v0 held::M:=by
 refine Fn.of_ex Tryz.func100 rfl Tryz.ntmps100 rfl ?_
 exact re0
theorem inbox_Held (g:Nat) (most:Int) (c:Clk) (v0:Value) (held:List Ev) (M:List Assn) (hb:held.length≤1000000):Fn Tryz.prog 121 #[.pointer (some ⟨g,0,none⟩)] (InO g most c v0::Evs_ v0 held::M)
  fun r L'=>r.oneCell'=true∧L'=Evs_ r held::InO g most c v0::Evs_ v0 held::M:=by
 refine Fn.of_ex Tryz.func121 rfl Tryz.ntmps121 rfl ?_
 (refine rn ?_;intros)
 refine st_callIs [] rJ Tryz.call181 rJ rJ (clone_evs _ _ _ rD rM) ?_
 rintro r _ ⟨hr,rfl⟩
 (refine rn ?_;intros)
 (refine fr ?_)
 exact ⟨_,rB,hr,rfl⟩
theorem inbox_drain (g:Nat) (most:Int) (c:Clk) (v0 u:Value) (held l:List Ev) (M:List Assn) (hu:RdT (InO g most c v0::Evs_ v0 held::M) u l) (hl:l.length≤1000000) (hI:∀ e∈l,I64 e.n) (hc:c.I) :
  Fn Tryz.prog 174 #[.pointer (some ⟨g,0,none⟩),u] (InO g most c v0::Evs_ v0 held::M)
  fun v L'=>∃ v1 v2:Value,v1.oneCell'=true∧v2.oneCell'=true∧v=.tuple #[v1,v2,.agg (Rep.cells (drain c (freshL c l)).2.2).toArray]∧L'=Evs_ v1 (drain c (freshL c l)).1::Evs_ v2 (drain c (freshL c l)).2.1::InO g most c v0::Evs_ v0 held::M:=by
 refine Fn.of_ex Tryz.func174 rfl Tryz.ntmps174 rfl ?_
 (refine rn ?_;intros)
 refine st_callIs [] rJ Tryz.call235 rJ rJ (drain_F c u l _ rD hl hI hc) ?_
 rintro _ _ ⟨v1,v2,o1,o2,rfl,rfl⟩
 (refine rn ?_;intros)
 (refine fr ?_)
 exact ⟨_,rB,v1,v2,o1,o2,rfl,rfl⟩
theorem grow_evs (m:Nat) (M:List Assn) (hm:m≤1000000000):Fn Tryz.prog 291 #[.slice none 0 0,.int .i64 m] M fun v L'=>v.oneCell'=true∧L'=Evs_ v []::M:=by
 refine Fn.of_ex Tryz.func291 rfl Tryz.ntmps291 rfl ?_
 (refine rn ?_;(repeat (first | intro (v:Value) | intro (o:O1 _) | intro h)))
 refine ExL.val rJ rJ rJ (vl_capNil rJ rJ) ?_
 have hcn:=capd_nil
 by_cases h0:m=0
 ·subst h0
  (refine rn ?_;(repeat (first | intro (v:Value) | intro (o:O1 _) | intro h)))
  (refine fr ?_)
  exact ⟨_,Sub.empty none _ _,rfl,rfl⟩
 ·(refine rn ?_;(repeat (first | intro (v:Value) | intro (o:O1 _) | intro h)))
  refine ExL.val rJ rJ rJ (vl_capNil rJ rJ) ?_
  (refine rn ?_;(repeat (first | intro (v:Value) | intro (o:O1 _) | intro h)))
  refine st_growNil (m:=m) (by_:=112) rJ (show subs (.slice none 0 0) 0 (0:Int).toNat 12=.slice none 0 0 by simp [subs]) rJ rJ rJ rQ rM rM rM (fun v o=>?_)
  (refine rn ?_;(repeat (first | intro (o:O1 _) | intro h)))
  (refine fr ?_)
  exact ⟨_,Sub.rowTo (α:=Ev) 0 rfl (h:=0) (Nat.zero_le _) (sz:=12) rfl,subs_one o,rfl⟩
end
section
theorem concat2 (u v1 v2:Value) (o1:v1.oneCell'=true) (o2:v2.oneCell'=true) (l1 l2:List Ev) (M:List Assn) (hu:RdT M u [(⟨v1,o1⟩:Sv),⟨v2,o2⟩]) (h1:RdT M v1 l1) (h2:RdT M v2 l2) (hb1:l1.length≤1000000) (hb2:l2.length≤1000000) :
  Fn Tryz.prog 254 #[u] M fun r L'=>r.oneCell'=true∧L'=Evs_ r (l1++l2)::M:=by
 refine Fn.of_ex Tryz.func254 rfl Tryz.ntmps254 rfl ?_
 (refine rn ?_;(repeat (first | intro (v:Value) | intro h)))
 refine Ex.loopS [3,11] (fun m vs=>(m=2∧vs=[.int .i64 0,.int .i64 0])∨(m=1∧vs=[.int .i64 l1.length,.int .i64 1])∨(m=0∧vs=[.int .i64 (l1.length+l2.length),.int .i64 2])) 2 (.inl ⟨rfl,rfl⟩) ?_
 rintro m vs g1 (⟨rfl,rfl⟩ | ⟨rfl,rfl⟩ | ⟨rfl,rfl⟩)
 ·refine Ex.keep [0,3,9,10,11] rG (fun gk=>?_)
  (refine rn ?_;(repeat (first | intro (v:Value) | intro h)))
  exact rnd_n ⟨1,_,by omega,Sub.refl _,.inr (.inl ⟨rfl,lcons (vint rM) (lcons rfl rfl)⟩),rfl⟩
 ·refine Ex.keep [0,3,9,10,11] rG (fun gk=>?_)
  (refine rn ?_;(repeat (first | intro (v:Value) | intro h)))
  exact rnd_n ⟨0,_,by omega,Sub.refl _,.inr (.inr ⟨rfl,lcons (vint rM) (lcons rfl rfl)⟩),rfl⟩
 ·refine Ex.keep [0,3,9,10,11] rG (fun gk=>?_)
  (refine rn ?_;(repeat (first | intro (v:Value) | intro h)))
  refine st_callIs [] rJ Tryz.call291 rJ rJ (grow_evs (l1.length+l2.length) _ rM) ?_
  rintro v0 _ ⟨o0,rfl⟩
  (refine rn ?_;(repeat (first | intro (v:Value) | intro h)))
  refine Ex.loop [6,27] (fun m vs L'=>(m=2∧vs=[v0,.int .i64 0]∧L'=Evs_ v0 []::M)∨(m=1∧∃ v:Value,v.oneCell'=true∧vs=[v,.int .i64 1]∧L'=Evs_ v l1::M)∨(m=0∧∃ v:Value,v.oneCell'=true∧vs=[v,.int .i64 2]∧L'=Evs_ v (l1++l2)::M)) 2 (.inl ⟨rfl,rfl,rfl⟩) ?_
  rintro m vs g2 L' (⟨rfl,rfl,rfl⟩ | ⟨rfl,v3,o3,rfl,rfl⟩ | ⟨rfl,v3,o3,rfl,rfl⟩)
  ·refine Ex.keep [6,25,26,27] rG (fun gk=>?_)
   (refine rn ?_;(repeat (first | intro (v:Value) | intro h)))
   exact rnd_n ⟨1,_,by omega,Sub.refl _,.inr (.inl ⟨rfl,v,by assumption,rfl,rfl⟩)⟩
  ·refine Ex.keep [6,25,26,27] rG (fun gk=>?_)
   (refine rn ?_;(repeat (first | intro (v:Value) | intro h)))
   exact rnd_n ⟨0,_,by omega,Sub.refl _,.inr (.inr ⟨rfl,v,by assumption,rfl,rfl⟩)⟩
  ·refine Ex.keep [6,25,26,27] rG (fun gk=>?_)
   (refine rn ?_;intros)
   (refine fr ?_)
   exact ⟨_,rB,o3,rfl⟩
def TakeR (g:Nat) (most:Int) (c:Clk) (v0:Value) (held l:List Ev) (M:List Assn) (r:Value) (L':List Assn):Prop :=
 (most<((drain c (freshL c (held++l))).2.1.length:Int)∧r=.tuple #[.slice none 0 0,.int .i64 22]∧L'=InO g most c v0::Evs_ v0 held::M) ∨
 (¬ most<((drain c (freshL c (held++l))).2.1.length:Int)∧∃ v1 v2:Value,v1.oneCell'=true∧v2.oneCell'=true∧r=.tuple #[v1,.int .i64 0] ∧
  L'=InO g most (drain c (freshL c (held++l))).2.2 v2::Evs_ v2 (drain c (freshL c (held++l))).2.1::Evs_ v1 (drain c (freshL c (held++l))).1::M)
theorem inbox_Take (g0:Nat) (most:Int) (c:Clk) (v0 u:Value) (held l:List Ev) (M:List Assn) (hu:RdT M u l) (o0:v0.oneCell'=true) (ou:u.oneCell'=true) (hb1:held.length≤100000) (hb2:l.length≤100000) (hI:∀ e∈held++l,I64 e.n) (hc:c.I) :
  Fn Tryz.prog 201 #[.pointer (some ⟨g0,0,none⟩),u] (InO g0 most c v0::Evs_ v0 held::M) (TakeR g0 most c v0 held l M):=by
 have hlen:(held++l).length≤1000000:=by rw [List.length_append];omega
 have hdl:=drain_len c (freshL c (held++l)) (freshL_dst c _ [] List.Pairwise.nil)
 have hfl:=freshL_len c (held++l)
 refine Fn.of_ex Tryz.func201 rfl Tryz.ntmps201 rfl ?_
 (refine rn ?_;(repeat (first | intro (g:Nat) | intro (zs:List _) | intro h)))
 refine st_sliceN (parts:=[(0,.tmp 17),(1,.tmp 18)]) (ps:=[(0,[v0]),(1,[u])]) (vs:=[v0,u]) (zs:=[.slice none 0 0]) [(⟨v0,o0⟩:Sv),⟨u,ou⟩] rJ rJ rJ rJ rJ rJ rQ rJ (evs_one rJ o0 (evs_one rJ ou evs_nil)) rJ rfl rfl rfl (fun g=>?_)
 refine st_callIs [] rJ Tryz.call254 rJ rJ (concat2 _ v0 u o0 ou held l _ rD rD rD rM rM) ?_
 rintro rc _ ⟨oc,rfl⟩
 refine st_callV [3,3] (xs:=[.tmp 20]) (fs:=[.pointer (some ⟨g0,0,none⟩)]) (vs:=[rc]) rJ rJ Tryz.call174 rE rJ (inbox_drain g0 most c v0 rc held (held++l) _ rD hlen hI hc) ?_
 rintro _ _ ⟨v1,v2,o1,o2,rfl,rfl⟩
 obtain ⟨D,hD⟩:∃ D,D=drain c (freshL c (held++l)):=⟨_,rfl⟩
 unfold TakeR
 rw [← hD] at hdl ⊢
 by_cases hm:most<(D.2.1.length:Int)
 ·(refine rn ?_;intros)
  (refine fr ?_)
  exact ⟨_,rB,.inl ⟨hm,rfl,rfl⟩⟩
 ·(refine rn ?_;intros)
  (refine fr ?_)
  exact ⟨_,Sub.trans rB (fronts_sub [3,2] _),.inr ⟨hm,v1,v2,o1,o2,rfl,rfl⟩⟩
def OwnR (g:Nat) (most:Int) (c:Clk) (v0:Value) (held:List Ev) (e:Ev) (M:List Assn) (r:Value) (L':List Assn):Prop :=
 (¬ e.rdy c∧r=.int .i64 20∧L'=InO g most c v0::Evs_ v0 held::M)∨(e.rdy c∧r=.int .i64 0∧L'=InO g most (c.set e.r.toNat e.n) v0::Evs_ v0 held::M)
theorem drain_one (c:Clk) (e:Ev):(e.rdy c→drain c (freshL c [e])=([e],[],c.set e.r.toNat e.n))∧(¬ e.rdy c→(drain c (freshL c [e])).1=[]):=by
 have hf:freshL c [e]=if c.has e.r e.n=true then [] else [e]:=by
  simp [freshL,freshS]
 constructor
 ·intro h
  have hn:c.has e.r e.n=false:=Clk.has_f fun k=>by have:=h.2.2.2.1;omega
  rw [hf,if_neg (by rw [hn];simp)]
  have hd:Dst [e]:=by simp [Dst]
  have hx:NextI c [e] 0:=⟨by simp,h,fun j hj hr=>by
   have:j=0:=by simpa using hj
   subst this
   exact Int.le_refl _⟩
  rw [drain_step hd (by simp) hx]
  have hs:drain (c.set e.r.toNat e.n) ([]:List Ev)=([],[],c.set e.r.toNat e.n):=drain_stop fun i ⟨hi,_⟩=>by simp at hi
  show (e::(drain (c.set e.r.toNat e.n) []).1,(drain (c.set e.r.toNat e.n) []).2)=_
  rw [hs]
 ·intro h
  rw [hf]
  rw [drain_stop]
  rintro i ⟨hi,hr,_⟩
  split at hi
  ·simp at hi
  ·rename_i hh
   have hi0:i=0:=by simpa using hi
   subst hi0
   apply h
   have hl:(if c.has e.r e.n=true then [] else [e])=[e]:=if_neg hh
   simp only [hl] at hr
   exact hr
theorem inbox_Own (g0:Nat) (most:Int) (c:Clk) (v0:Value) (held:List Ev) (e:Ev) (M:List Assn) (hI:I64 e.n) (hc:c.I) :
  Fn Tryz.prog 104 #[.pointer (some ⟨g0,0,none⟩),.agg (Rep.cells e).toArray] (InO g0 most c v0::Evs_ v0 held::M) (OwnR g0 most c v0 held e M):=by
 refine Fn.of_ex Tryz.func104 rfl Tryz.ntmps104 rfl ?_
 (refine rn ?_;intros)
 refine st_callIs [3,3] rJ Tryz.call174 rE rJ (inbox_drain g0 most c v0 _ held [e] _ rD (by simp) (by intro x hx;simp at hx;subst hx;exact hI) hc) ?_
 rintro _ _ ⟨v1,v2,o1,o2,rfl,rfl⟩
 unfold OwnR
 by_cases h:e.rdy c
 ·rw [(drain_one c e).1 h]
  (refine rn ?_;intros)
  (refine fr ?_)
  exact ⟨_,Sub.trans rB (fronts_sub [2,2] _),.inr ⟨h,rfl,rfl⟩⟩
 ·have h1:=(drain_one c e).2 h
  generalize drain c (freshL c [e])=D at h1 ⊢
  obtain ⟨D1,D2,D3⟩:=D
  simp only at h1
  subst h1
  (refine rn ?_;intros)
  (refine fr ?_)
  exact ⟨_,Sub.trans rB (fronts_sub [2,2] _),.inl ⟨h,rfl,rfl⟩⟩
end
section
theorem hasT_at {l:List Txt} {v:List UInt8} {i:Nat} (hi:i<l.length) (h:(l[i]'hi).l=v):hasT l v=true:=by
 unfold hasT
 rw [List.any_eq_true]
 exact ⟨_,List.getElem_mem hi,decide_eq_true h⟩
theorem hasT_no {l:List Txt} {v:List UInt8} (h:∀ j (hj:j<l.length),(l[j]'hj).l≠v):hasT l v=false:=by
 unfold hasT
 rw [List.any_eq_false]
 intro x hx
 obtain ⟨j,hj,rfl⟩:=List.getElem_of_mem hx
 simpa using h j hj
theorem upto_F (n m:Int) (L:List Assn):Fn Tryz.prog 183 #[.int .i64 n,.int .i64 m] L fun v L'=>v=.bool (inB n m)∧L'=L:=by
 unfold inB
 refine Fn.of_ex Tryz.func183 rfl Tryz.ntmps183 rfl ?_
 (repeat' (first | (refine r1 ?_;intros) | (refine Ex.cond_d rJ (fun h=>?_) (fun h=>?_) <;> try (exfalso;omega)) | (apply exlGuard;refine ExL.gsplit rJ rJ rJ (fun h=>?_) (fun h=>?_) <;> try (exfalso;omega))))
 all_goals
  (refine fr ?_)
  exact ⟨_,rB,vbool (by first | (rw [decide_eq_decide];omega) | (rw [decide_eq_false rM])),rfl⟩
theorem may_F (c:Cfg) (L:List Assn):Fn Tryz.prog 119 #[.agg (Rep.cells c).toArray] L fun v L'=>v=.bool (mayC c)∧L'=L:=by
 refine Fn.of_ex Tryz.func119 rfl Tryz.ntmps119 rfl ?_
 (refine rn ?_;intros)
 (refine st_callIs [] rJ Tryz.call183 rJ rJ (upto_F _ _ _) ?_;rintro _ _ ⟨rfl,rfl⟩)
 (repeat' (first | (refine r1 ?_;intros) | (refine Ex.cond_d rJ (fun h=>?_) (fun h=>?_) <;> try (exfalso;omega)) | (apply exlGuard;refine ExL.gsplit rJ rJ rJ (fun h=>?_) (fun h=>?_) <;> try (exfalso;omega))))
 ·skip
  (refine st_callIs [] rJ Tryz.call183 rJ rJ (upto_F _ _ _) ?_;rintro _ _ ⟨rfl,rfl⟩)
  (repeat' (first | (refine r1 ?_;intros) | (refine Ex.cond_d rJ (fun h=>?_) (fun h=>?_) <;> try (exfalso;omega)) | (apply exlGuard;refine ExL.gsplit rJ rJ rJ (fun h=>?_) (fun h=>?_) <;> try (exfalso;omega))))
  ·skip
   (refine st_callIs [] rJ Tryz.call183 rJ rJ (upto_F _ _ _) ?_;rintro _ _ ⟨rfl,rfl⟩)
   (repeat' (first | (refine r1 ?_;intros) | (refine Ex.cond_d rJ (fun h=>?_) (fun h=>?_) <;> try (exfalso;omega)) | (apply exlGuard;refine ExL.gsplit rJ rJ rJ (fun h=>?_) (fun h=>?_) <;> try (exfalso;omega))))
   ·skip
    (refine st_callIs [] rJ Tryz.call183 rJ rJ (upto_F _ _ _) ?_;rintro _ _ ⟨rfl,rfl⟩)
    (repeat' (first | (refine r1 ?_;intros) | (refine Ex.cond_d rJ (fun h=>?_) (fun h=>?_) <;> try (exfalso;omega)) | (apply exlGuard;refine ExL.gsplit rJ rJ rJ (fun h=>?_) (fun h=>?_) <;> try (exfalso;omega))))
    ·skip
     (refine st_callIs [] rJ Tryz.call183 rJ rJ (upto_F _ _ _) ?_;rintro _ _ ⟨rfl,rfl⟩)
     (repeat' (first | (refine r1 ?_;intros) | (refine Ex.cond_d rJ (fun h=>?_) (fun h=>?_) <;> try (exfalso;omega)) | (apply exlGuard;refine ExL.gsplit rJ rJ rJ (fun h=>?_) (fun h=>?_) <;> try (exfalso;omega))))
     ·skip
      (refine st_callIs [] rJ Tryz.call183 rJ rJ (upto_F _ _ _) ?_;rintro _ _ ⟨rfl,rfl⟩)
      (refine rn ?_;intros)
      (refine fr ?_)
      exact ⟨_,rB,vbool (by unfold mayC inB;simp [*]),rfl⟩
     ·(refine fr ?_)
      exact ⟨_,rB,vbool (by unfold mayC inB;simp [*]),rfl⟩
    ·(refine fr ?_)
     exact ⟨_,rB,vbool (by unfold mayC inB;simp [*]),rfl⟩
   ·(refine fr ?_)
    exact ⟨_,rB,vbool (by unfold mayC inB;simp [*]),rfl⟩
  ·(refine fr ?_)
   exact ⟨_,rB,vbool (by unfold mayC inB;simp [*]),rfl⟩
 ·(refine fr ?_)
  exact ⟨_,rB,vbool (by unfold mayC inB;simp [*]),rfl⟩
theorem clo_F (g:Nat) (ct:Ct) (e:Ed) (M:List Assn):Fn Tryz.prog 166 #[.agg (Rep.cells ct).toArray,.pointer (some ⟨g,0,none⟩)] (Blk g 26 (Rep.cells e)::M)
  fun v L'=>v=.bool (decide (ct.key=e.key))∧L'=Blk g 26 (Rep.cells e)::M:=by
 refine Fn.of_ex Tryz.func166 rfl Tryz.ntmps166 rfl ?_
 exact re0
theorem indexF_F (v0:Value) (l:List Ct) (g0:Nat) (e:Ed) (M:List Assn) (hr:RdT M v0 l) (hl:l.length≤1000000000):Fn Tryz.prog 165 #[v0,.func (.func 166) #[] #[.pointer (some ⟨g0,0,none⟩)]] (Blk g0 26 (Rep.cells e)::M)
  fun v L'=>v=.int .i64 (posK l e.key)∧L'=Blk g0 26 (Rep.cells e)::M:=by
 refine Fn.of_ex Tryz.func165 rfl Tryz.ntmps165 rfl ?_
 (refine rn ?_;intros)
 refine Ex.loopS [8] (fun m vs=>∃ i:Nat,i≤l.length∧m=l.length - i∧vs=[.int .i64 i]∧∀ j (hj:j<l.length),j<i→(l[j]'hj).key≠e.key) l.length ⟨0,by omega,rfl,rfl,fun j _ h=>by omega⟩ ?_
 rintro m vs g1 ⟨i,hi,rfl,rfl,hno⟩
 by_cases hlt:i<l.length
 ·(refine rn ?_;intros)
  refine st_callC [] (xs:=[.tmp 15]) (fs:=[]) (us:=[.pointer (some ⟨g0,0,none⟩)]) (vs:=[.agg (Rep.cells (l[i]'hlt)).toArray]) rJ rJ Tryz.call166 rE rJ (clo_F g0 (l[i]'hlt) e _) ?_
  rintro _ _ ⟨rfl,rfl⟩
  by_cases hk:(l[i]'hlt).key=e.key
  ·rw [decide_eq_true hk]
   (refine rn ?_;intros)
   (refine fr ?_)
   exact ⟨_,rB,vint (posK_at hlt hk hno).symm,rfl⟩
  ·rw [decide_eq_false hk]
   (refine rn ?_;intros)
   exact rnd_n ⟨l.length - (i+1),_,by omega,rB,⟨i+1,by omega,rfl,lcons (vint rM) rfl,fun j hj hji=>by
    by_cases h:j=i
    ·subst h;exact hk
    ·exact hno j hj rM⟩,rfl⟩
 ·(refine rn ?_;intros)
  (refine fr ?_)
  exact ⟨_,rB,vint (posK_ge fun j hj=>hno j hj rM).symm,rfl⟩
theorem index_F (v0:Value) (l:List Txt) (x:List UInt8) (M:List Assn) (hr:RdT M v0 l) (hl:l.length≤9000000000000000000):Fn Tryz.prog 225 #[v0,.string (S x)] M
  fun v L'=>∃ n:Int,v=.int .i64 n∧decide (0≤n)=hasT l x∧L'=M:=by
 refine Fn.of_ex Tryz.func225 rfl Tryz.ntmps225 rfl ?_
 (refine rn ?_;intros)
 refine Ex.loopS [8] (fun m vs=>∃ i:Nat,i≤l.length∧m=l.length - i∧vs=[.int .i64 i]∧∀ j (hj:j<l.length),j<i→(l[j]'hj).l≠x) l.length ⟨0,by omega,rfl,rfl,fun j _ h=>by omega⟩ ?_
 rintro m vs g1 ⟨i,hi,rfl,rfl,hno⟩
 by_cases hlt:i<l.length
 ·by_cases hk:x=(l[i]'hlt).l
  ·(refine rn ?_;intros)
   (refine fr ?_)
   exact ⟨_,rB,i,rfl,by rw [hasT_at hlt hk.symm];exact decide_eq_true rM,rfl⟩
  ·(refine rn ?_;intros)
   exact rnd_n ⟨l.length - (i+1),_,by omega,rB,⟨i+1,by omega,rfl,lcons (vint rM) rfl,fun j hj hji=>by
    by_cases h:j=i
    ·subst h;exact fun h=>hk h.symm
    ·exact hno j hj rM⟩,rfl⟩
 ·(refine rn ?_;intros)
  (refine fr ?_)
  exact ⟨_,rB,-1,rfl,by rw [hasT_no fun j hj=>hno j hj rM];rfl,rfl⟩
theorem contains_F (v0:Value) (l:List Txt) (x:List UInt8) (M:List Assn) (hr:RdT M v0 l) (hl:l.length≤9000000000000000000):Fn Tryz.prog 167 #[v0,.string (S x)] M
  fun v L'=>v=.bool (hasT l x)∧L'=M:=by
 refine Fn.of_ex Tryz.func167 rfl Tryz.ntmps167 rfl ?_
 (refine rn ?_;intros)
 refine st_callIs [] rJ Tryz.call225 rJ rJ (index_F v0 l x _ hr hl) ?_
 rintro _ _ ⟨n,rfl,hn,rfl⟩
 (refine rn ?_;intros)
 (refine fr ?_)
 exact ⟨_,rB,vbool hn,rfl⟩
theorem late_F (g6 g7:Nat) (err:Int) (full:Bool) (M:List Assn):FnD Tryz.prog 164 #[.pointer (some ⟨g6,0,none⟩),.pointer (some ⟨g7,0,none⟩)] (Blk g6 57 [.int .i64 err]::Blk g7 4 [.bool full]::M)
  fun _ L1=>L1=Blk g6 57 [.int .i64 (if err=0∧full=true then 15 else err)]::Blk g7 4 [.bool full]::M:=by
 refine FnD.of_ex Tryz.func164 rfl Tryz.ntmps164 rfl ?_
 by_cases h:err=0
 ·cases full
  ·rw [if_neg (by simp)]
   exact re3
  ·rw [if_pos ⟨h,rfl⟩]
   exact re3
 ·rw [if_neg (fun k=>h k.1)]
  exact re3
end
section
attribute [local irreducible] thnS ExS dz finD
theorem check_F (c:Cfg) (v0:Value) (l:List Ct) (e:Ed) (M:List Assn) (hr:RdT M v0 l) (hs:∀ ct∈l,ct.Rd M) (hl:l.length≤1000000000) (hk:e.key.length≤9223372036854775807) (hv:e.value.length≤9223372036854775807)
  (hsl:∀ ct∈l,ct.s0.length≤9000000000000000000∧ct.s1.length≤9000000000000000000) :
  Fn Tryz.prog 97 #[.agg (Rep.cells c).toArray,v0,.agg (Rep.cells e).toArray] M fun v L'=>v=.int .i64 (chk c.l c.p l e)∧L'=M:=by
 refine Fn.of_exD [_,_,_] Tryz.func97 rfl Tryz.ntmps97 rfl rJ Tryz.call164 ?_
 refine ExS.cons ?_
 (refine rn ?_;(repeat (first | intro (g:Nat) | intro h)))
 refine thnS_n (ExS.cons ?_)
 (refine rn ?_;(repeat (first | intro (g:Nat) | intro h)))
 (refine st_callIs [] rJ Tryz.call163 rJ rJ (textEdit_fn e _ hk hv) ?_;rintro _ _ ⟨rfl,rfl⟩)
 by_cases herr:e.err=0
 ·have hok:=Ed.err_ok herr
  (refine rn ?_;(repeat (first | intro (g:Nat) | intro h)))
  refine thnS_n (ExS.cons ?_)
  (refine rn ?_;(repeat (first | intro (g:Nat) | intro h)))
  rename_i g3 g5 g6
  rename Nat=>g7
  refine thnS_n (ExS.nil (dz_n (us:=[.pointer (some ⟨g6,0,none⟩),.pointer (some ⟨g7,0,none⟩)]) rJ ?_))
  rw [herr]
  have hpl:=posK_lt l e.key
  (refine rn ?_;intros)
  refine st_callIs [2] rJ Tryz.call165 rE rJ (indexF_F v0 l g5 e _ rD hl) ?_
  rintro _ _ ⟨rfl,rfl⟩
  by_cases hk1:e.kind=1
  ·rw [chk_new herr hk1]
   by_cases hp:0≤posK l e.key
   ·rw [if_pos hp]
    (refine rn ?_;intros)
    refine finD_ret (FnD.mono (FnD.sub (late_F g6 g7 13 (decide (c.l≤l.length)) _) (Sub.fr [2,1] rE rB)) ?_)
    rintro _ _ rfl
    exact ⟨_,_,rS,rB,vint (by simp),rfl⟩
   ·rw [if_neg hp]
    by_cases hL:c.l≤l.length
    ·rw [if_pos hL]
     (refine rn ?_;intros)
     refine finD_ret (FnD.mono (FnD.sub (late_F g6 g7 0 true _) (Sub.fr [2,1] rE rB)) ?_)
     rintro _ _ rfl
     exact ⟨_,_,rS,rB,vint (by simp),rfl⟩
    ·rw [if_neg hL]
     (refine rn ?_;intros)
     refine finD_ret (FnD.mono (FnD.sub (late_F g6 g7 0 false _) (Sub.fr [2,1] rE rB)) ?_)
     rintro _ _ rfl
     exact ⟨_,_,rS,rB,vint (by simp),rfl⟩
  ·by_cases hp:posK l e.key<0
   ·rw [chk_none herr hk1 rM]
    (refine rn ?_;intros)
    refine finD_ret (FnD.mono (FnD.sub (late_F g6 g7 14 false _) (Sub.fr [2,1] rE rB)) ?_)
    rintro _ _ rfl
    exact ⟨_,_,rS,rB,vint (by simp),rfl⟩
   ·obtain ⟨i,hi⟩:=Int.eq_ofNat_of_zero_le (show 0≤posK l e.key by omega)
    have hil:i<l.length:=by omega
    rw [chk_at hil herr hk1 hi,hi]
    clear hpl
    obtain ⟨hs0,hs1⟩:=hs _ (List.getElem_mem hil)
    obtain ⟨hl0,hl1⟩:=hsl _ (List.getElem_mem hil)
    unfold chkAt Ct.set
    have hk5:e.kind=4∨e.kind=5∨(e.kind≠4∧e.kind≠5):=by omega
    rcases hk5 with h4 | h5 | ⟨h4,h5⟩
    ·rw [if_pos h4]
     rcases hok.2.2 with hlb | hlb
     ·rw [if_pos hlb]
      obtain ⟨ek,key,lb,val⟩:=e
      obtain rfl:lb=0:=hlb
      by_cases hP:c.p≤((l[i]'hil).s0.length:Int)
      ·rw [if_pos hP]
       (refine rn ?_;intros)
       (refine mu12 ?_;intros)
       (refine rn ?_;intros)
       refine finD_ret (FnD.mono (FnD.sub (late_F g6 g7 0 true _) (Sub.fr [2,1] rE rB)) ?_)
       rintro _ _ rfl
       exact ⟨_,_,rS,rB,vint (by simp),rfl⟩
      ·rw [if_neg hP]
       (refine rn ?_;intros)
       (refine mu12 ?_;intros)
       (refine rn ?_;intros)
       refine finD_ret (FnD.mono (FnD.sub (late_F g6 g7 0 false _) (Sub.fr [2,1] rE rB)) ?_)
       rintro _ _ rfl
       exact ⟨_,_,rS,rB,vint (by simp),rfl⟩
     ·rw [if_neg (show ¬ e.label=0 by omega)]
      obtain ⟨ek,key,lb,val⟩:=e
      obtain rfl:lb=1:=hlb
      by_cases hP:c.p≤((l[i]'hil).s1.length:Int)
      ·rw [if_pos hP]
       (refine rn ?_;intros)
       (refine mu12 ?_;intros)
       (refine rn ?_;intros)
       refine finD_ret (FnD.mono (FnD.sub (late_F g6 g7 0 true _) (Sub.fr [2,1] rE rB)) ?_)
       rintro _ _ rfl
       exact ⟨_,_,rS,rB,vint (by simp),rfl⟩
      ·rw [if_neg hP]
       (refine rn ?_;intros)
       (refine mu12 ?_;intros)
       (refine rn ?_;intros)
       refine finD_ret (FnD.mono (FnD.sub (late_F g6 g7 0 false _) (Sub.fr [2,1] rE rB)) ?_)
       rintro _ _ rfl
       exact ⟨_,_,rS,rB,vint (by simp),rfl⟩
    ·rw [if_neg rM,if_pos h5]
     rcases hok.2.2 with hlb | hlb
     ·rw [if_pos hlb]
      obtain ⟨ek,key,lb,val⟩:=e
      obtain rfl:lb=0:=hlb
      (refine rn ?_;intros)
      (refine mu12 ?_;intros)
      (refine mx_act rJ rJ rJ ?_;refine st_callIs [] rJ Tryz.call167 rE rJ (contains_F _ (l[i]'hil).s0 val _ rD hl0) ?_)
      rintro _ _ ⟨rfl,rfl⟩
      cases hh:hasT (l[i]'hil).s0 val
      ·skip
       (refine mw ?_;intros)
       (refine rn ?_;intros)
       refine finD_ret (FnD.mono (FnD.sub (late_F g6 g7 16 false _) (Sub.fr [2,1] rE rB)) ?_)
       rintro _ _ rfl
       exact ⟨_,_,rS,rB,vint (by simp),rfl⟩
      ·skip
       (refine mw ?_;intros)
       (refine rn ?_;intros)
       refine finD_ret (FnD.mono (FnD.sub (late_F g6 g7 0 false _) (Sub.fr [2,1] rE rB)) ?_)
       rintro _ _ rfl
       exact ⟨_,_,rS,rB,vint (by simp),rfl⟩
     ·rw [if_neg (show ¬ e.label=0 by omega)]
      obtain ⟨ek,key,lb,val⟩:=e
      obtain rfl:lb=1:=hlb
      (refine rn ?_;intros)
      (refine mu12 ?_;intros)
      (refine mx_act rJ rJ rJ ?_;refine st_callIs [] rJ Tryz.call167 rE rJ (contains_F _ (l[i]'hil).s1 val _ rD hl1) ?_)
      rintro _ _ ⟨rfl,rfl⟩
      cases hh:hasT (l[i]'hil).s1 val
      ·skip
       (refine mw ?_;intros)
       (refine rn ?_;intros)
       refine finD_ret (FnD.mono (FnD.sub (late_F g6 g7 16 false _) (Sub.fr [2,1] rE rB)) ?_)
       rintro _ _ rfl
       exact ⟨_,_,rS,rB,vint (by simp),rfl⟩
      ·skip
       (refine mw ?_;intros)
       (refine rn ?_;intros)
       refine finD_ret (FnD.mono (FnD.sub (late_F g6 g7 0 false _) (Sub.fr [2,1] rE rB)) ?_)
       rintro _ _ rfl
       exact ⟨_,_,rS,rB,vint (by simp),rfl⟩
    ·rw [if_neg h4,if_neg h5]
     (refine rn ?_;intros)
     refine finD_ret (FnD.mono (FnD.sub (late_F g6 g7 0 false _) (Sub.fr [2,1] rE rB)) ?_)
     rintro _ _ rfl
     exact ⟨_,_,rS,rB,vint (by simp),rfl⟩
 ·rw [chk_err herr]
  (refine rn ?_;intros)
  refine thnS_ret (dz_ret ?_)
  (refine fr ?_)
  exact ⟨_,rB,rfl,rfl⟩
end
end
section
def GapOk (len:Int) (l:List Ev):Prop:=∀ h:0<l.length,(l[0]'h).n≤len+1∧∀ j (hj:j<l.length),(l[j]'hj).n=(l[0]'h).n+j
def fresh (len:Int) (l:List Ev):List Ev:=l.filter fun e=>decide (len<e.n)
open Classical in
noncomputable def putR (most len k:Int) (l:List Ev):Int×List Ev :=
 if ¬ GapOk len l then (20,[]) else if fresh len l≠[]∧most<k+(fresh len l).length then (21,[]) else (0,fresh len l)
theorem putR_gap {most len k:Int} {l:List Ev} (h:¬ GapOk len l):putR most len k l=(20,[]):=by unfold putR;rw [if_pos h]
theorem putR_full {most len k:Int} {l:List Ev} (h:GapOk len l) (h2:fresh len l≠[]) (h3:most<k+(fresh len l).length):putR most len k l=(21,[]):=by
 unfold putR;rw [if_neg (by simpa using h),if_pos ⟨h2,h3⟩]
theorem putR_ok {most len k:Int} {l:List Ev} (h:GapOk len l) (h2:fresh len l=[]∨k+(fresh len l).length≤most):putR most len k l=(0,fresh len l):=by
 unfold putR;rw [if_neg (by simpa using h),if_neg (by rintro ⟨a,b⟩;rcases h2 with h2 | h2;exact a h2;omega)]
theorem fresh_drop {len:Int} {l:List Ev} (h:GapOk len l) (j:Nat) (hj:j≤l.length) (ho:∀ i (hi:i<l.length),i<j→(l[i]'hi).n≤len) (hn:j=l.length∨∃ h:j<l.length,len<(l[j]'h).n):fresh len l=l.drop j:=by
 unfold fresh
 have e:l=l.take j++l.drop j:=(List.take_append_drop j l).symm
 have h1:(l.take j).filter (fun e=>decide (len<e.n))=[]:=by
  rw [List.filter_eq_nil_iff]
  intro a ha
  obtain ⟨i,hi,rfl⟩:=List.getElem_of_mem ha
  simp only [List.length_take] at hi
  rw [List.getElem_take]
  have:=ho i rM rM
  simp;omega
 have h2:(l.drop j).filter (fun e=>decide (len<e.n))=l.drop j:=by
  rw [List.filter_eq_self]
  intro a ha
  obtain ⟨i,hi,rfl⟩:=List.getElem_of_mem ha
  simp only [List.length_drop] at hi
  rcases hn with rfl | ⟨hl,hn⟩
  ·omega
  ·rw [List.getElem_drop]
   have:=(h rM).2
   rw [this _ rM]
   rw [this _ hl] at hn
   simp;omega
 conv=>lhs;rw [e,List.filter_append,h1,List.nil_append,h2]
end
end Go.Proofs.YtogcfijlhpaeeaaGreat
