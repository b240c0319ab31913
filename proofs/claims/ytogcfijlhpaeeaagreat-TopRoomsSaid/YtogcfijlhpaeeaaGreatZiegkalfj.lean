/- Texts, one behind the other. No condition. -/
import Derived.MapKept
import Derived.ScopeJumps
import Derived.Test.YtogcfijlhpaeeaaGreatChecked
import Derived.Test.YtogcfijlhpaeeaaGreatZehjcikgl
import Derived.Test.YtogcfijlhpaeeaaGreatZgaognfij
open Go.RowKit
set_option linter.unusedSimpArgs false
set_option linter.unusedVariables false
set_option linter.unusedSectionVars false
set_option maxHeartbeats 32000000
namespace Go.Proofs.YtogcfijlhpaeeaaGreat
section
set_option maxRecDepth 20000 attribute [local irreducible] Ex ExL Fn thn inb rnd fin meet Tab Mix mxEnd Val Sats RdT Rd RowT Row Blk Sub Fac ResV RVal Evs subs subs3 Hid Capd
section
theorem vput_I (n:Int) (M:List Assn) (hn:0≤n∧n≤1000000000000):Fn Tryz.prog 179 #[.int .u64 n] M fun v L'=>v.oneCell'=true∧L'=Bys v (vB n.toNat)::M:=by
 obtain ⟨k,rfl⟩:=Int.eq_ofNat_of_zero_le hn.1
 rw [Int.toNat_natCast]
 exact vput_F k M rM
theorem rput_F (x:Rcd) (v0:Value) (M:List Assn) (hr:RdT M v0 x.l) (o0:v0.oneCell'=true) (hl:x.l.length≤1000000000) (hs:∀ e∈x.l,e.ed.key.length≤1000∧e.ed.value.length≤1000) :
  Fn Tryz.prog 172 #[.agg (rcC x v0).toArray] M fun r L'=>(¬ x.May∧r=.tuple #[.slice none 0 0,.int .i64 1]∧L'=M)∨(x.May∧∃ v,v.oneCell'=true∧r=.tuple #[v,.int .i64 0]∧L'=Bys v x.bytes::M):=by
 refine Fn.of_ex Tryz.func172 rfl Tryz.ntmps172 rfl ?_
 (refine rn ?_;(repeat (first | intro (g:Nat) | intro (v:Value) | intro (o:O1 _) | intro (hcs:_=List.set _ _ _) | intro h)))
 refine st_callIs [] rJ Tryz.call233 rJ rJ (rmay_F x v0 _ rD o0 hl hs) ?_
 rintro _ _ ⟨⟨t,ht,rfl⟩,rfl⟩
 by_cases hm:x.May
 rotate_left
 ·have htf:t=false:=by cases t with | false=>rfl | true=>exact absurd (ht.1 rfl) hm
  subst htf
  (refine rn ?_;(repeat (first | intro (g:Nat) | intro (v:Value) | intro (o:O1 _) | intro (hcs:_=List.set _ _ _) | intro h)))
  (refine fr ?_)
  exact ⟨_,rB,.inl ⟨hm,rfl,rfl⟩⟩
 have htt:t=true:=ht.2 hm
 subst htt
 clear ht
 have hk:=hm.k
 have hrr:=hm.r
 have hu:=hm.u
 have hml:=hm.m
 have hc:=hm.c
 (refine rn ?_;(repeat (first | intro (g:Nat) | intro (v:Value) | intro (o:O1 _) | intro (hcs:_=List.set _ _ _) | intro h)))
 refine st_callIs [] rJ Tryz.call234 rJ rJ (rfields_F x.kind _) ?_
 rintro _ _ ⟨rfl,rfl⟩
 revert g
 intro g1
 have hhl:x.bHead.length=2:=rfl
 have hul:=vB_len3 (n:=x.upto.toNat) rM
 have hbu:x.bUpto.length≤4:=by
  unfold Rcd.bUpto
  split
  ·exact hul
  ·simp
 have hca:=clkA_len x.c hc
 have hbc:x.bClk.length≤20:=by
  unfold Rcd.bClk
  split
  ·exact hca 5 rM
  ·simp
 have hbl:=x.body_len hm
 refine ExL.claim 2 [1,5,6,8] (fun vs L'=>∃ v8:Value,v8.oneCell'=true∧vs=[.pointer (some ⟨g1,0,none⟩),.bool (decide (kEvs x.kind)),.bool (decide (kClk x.kind)),v8]∧L'=Bys v8 (x.bHead++x.bUpto)::Blk g1 88 (rcC x v0)::M) ?_ ?_
 ·rintro vs gk L' ⟨v8,o8,rfl,rfl⟩
  refine Ex.claim 1 [1,5,8] (fun vs L'=>∃ v8:Value,v8.oneCell'=true∧vs=[.pointer (some ⟨g1,0,none⟩),.bool (decide (kEvs x.kind)),v8]∧L'=Bys v8 (x.bHead++x.bUpto++x.bClk)::Blk g1 88 (rcC x v0)::M) ?_ ?_
  ·rintro vs gk L' ⟨v8,o8,rfl,rfl⟩
   refine Ex.claim 1 [8] (fun vs L'=>∃ v8:Value,v8.oneCell'=true∧vs=[v8]∧L'=Bys v8 x.body::M) ?_ ?_
   ·rintro vs gk L' ⟨v8,o8,rfl,rfl⟩
    have hsl:=crcSeal_len x.body
    have hv3:=vB_len3 (n:=(crcSeal x.body).length) rM
    (refine rn ?_;(repeat (first | intro (v:Value) | intro (o:O1 _) | intro (hcs:_=List.set _ _ _) | intro h)))
    refine st_callIs [] rJ Tryz.call180 rJ rJ (cseal_F v8 x.body _ rD rM) ?_
    rintro v9 _ ⟨o9,rfl⟩
    (refine rn ?_;(repeat (first | intro (v:Value) | intro (o:O1 _) | intro (hcs:_=List.set _ _ _) | intro h)))
    refine st_callIs [] rJ Tryz.call179 rJ rJ (vput_I (crcSeal x.body).length _ rM) ?_
    rintro v1 _ ⟨o1,rfl⟩
    rw [Int.toNat_natCast]
    (refine rn ?_;(repeat (first | intro (v:Value) | intro (o:O1 _) | intro (hcs:_=List.set _ _ _) | intro h)))
    (refine fr ?_)
    exact ⟨_,rB,.inr ⟨hm,v,o,rfl,rfl⟩⟩
   intro HC
   by_cases e:kEvs x.kind
   ·rw [decide_eq_true e]
    have he:x.bEvs=vB x.l.length++evsB x.l:=if_pos e
    obtain ⟨P,hP⟩:∃ P,P=x.bHead++x.bUpto++x.bClk:=⟨_,rfl⟩
    have hPl:P.length≤26:=by rw [hP,List.length_append,List.length_append];omega
    rw [← hP]
    have hvl:=vB_len3 (n:=x.l.length) rM
    (refine rn ?_;(repeat (first | intro (v:Value) | intro (o:O1 _) | intro (hcs:_=List.set _ _ _) | intro h)))
    refine st_callIs [] rJ Tryz.call179 rJ rJ (vput_I x.l.length _ rM) ?_
    rintro v1 _ ⟨o1,rfl⟩
    rw [Int.toNat_natCast]
    obtain ⟨P2,hP2⟩:∃ P2,P2=P++vB x.l.length:=⟨_,rfl⟩
    have hP2l:P2.length≤30:=by rw [hP2,List.length_append];omega
    (refine rn ?_;(repeat (first | intro (v:Value) | intro (o:O1 _) | intro (hcs:_=List.set _ _ _) | intro h)))
    rw [← hP2]
    refine Ex.sub (L':=Bys v P2::Blk g1 88 (rcC x v0)::M) ?_ rB
    refine Ex.loop [8,64] (fun q vs L'=>∃ (i:Nat) (v:Value),i≤x.l.length∧q=x.l.length - i∧v.oneCell'=true∧vs=[v,.int .i64 i]∧L'=Bys v (P2++evsB (x.l.take i))::Blk g1 88 (rcC x v0)::M) x.l.length ⟨0,v,by omega,rfl,o,rfl,by simp [evsB]⟩ ?_
    rintro q vs g0 L1 ⟨i,v2,hi,rfl,o2,rfl,rfl⟩
    refine Ex.keep [8,62,63,64] rG (fun gk=>?_)
    by_cases hlt:i<x.l.length
    ·have hse:=hs _ (List.getElem_mem hlt)
     have hme:=hm.l _ (List.getElem_mem hlt)
     have hbe:=(Ev.bytes_len hme).2
     have hel:(evsB (x.l.take i)).length≤60 * i:=by
      have:=evsB_len (x.l.take i) (fun e he=>hm.l e (List.mem_of_mem_take he))
      rw [List.length_take] at this
      omega
     have hes:evsB (x.l.take (i+1))=evsB (x.l.take i)++(x.l[i]'hlt).bytes:=by
      rw [List.take_succ_eq_append_getElem hlt,evsB_app]
      simp [evsB]
     (refine rn ?_;(repeat (first | intro (v:Value) | intro (o:O1 _) | intro (hcs:_=List.set _ _ _) | intro h)))
     refine st_callIs [] rJ Tryz.call178 rJ rJ (eput_F (x.l[i]'hlt) _ rM rM) ?_
     rintro _ _ (⟨hno,_,_⟩ | ⟨hye,v3,o3,rfl,rfl⟩)
     ·exact absurd hme hno
     (refine rn ?_;(repeat (first | intro (v:Value) | intro (o:O1 _) | intro (hcs:_=List.set _ _ _) | intro h)))
     rw [List.append_assoc,← hes]
     exact rnd_n ⟨x.l.length - (i+1),_,by omega,rB,i+1,v,by omega,rfl,o,lcons rfl (lcons (vint rM) rfl),rfl⟩
    ·have h5:i=x.l.length:=by omega
     subst h5
     have hb:P2++evsB (x.l.take x.l.length)=x.body:=by
      rw [List.take_length,hP2,hP]
      unfold Rcd.body
      rw [he,List.append_assoc _ (vB _)]
     rw [hb]
     (refine rn ?_;(repeat (first | intro (v:Value) | intro (o:O1 _) | intro (hcs:_=List.set _ _ _) | intro h)))
     exact HC _ _ ⟨_,rB,v2,o2,lcons rfl rfl,rfl⟩
   ·rw [decide_eq_false e]
    have he:x.body=x.bHead++x.bUpto++x.bClk:=by unfold Rcd.body;rw [show x.bEvs=[] from if_neg e,List.append_nil]
    rw [← he]
    (refine rn ?_;(repeat (first | intro (v:Value) | intro (o:O1 _) | intro (hcs:_=List.set _ _ _) | intro h)))
    exact HC _ _ ⟨_,rB,v8,o8,lcons rfl rfl,rfl⟩
  intro HC
  by_cases c:kClk x.kind
  ·rw [decide_eq_true c]
   have e:x.bClk=clkA x.c 5:=if_pos c
   (refine rn ?_;(repeat (first | intro (v:Value) | intro (o:O1 _) | intro (hcs:_=List.set _ _ _) | intro h)))
   refine Ex.loop [8,44] (fun q vs L'=>∃ (i:Nat) (v:Value),i≤5∧q=5 - i∧v.oneCell'=true∧vs=[v,.int .i64 i]∧L'=Bys v (x.bHead++x.bUpto++clkA x.c i)::Blk g1 88 (rcC x v0)::M) 5 ⟨0,v8,by omega,rfl,o8,rfl,by simp [clkA]⟩ ?_
   rintro q vs g0 L1 ⟨i,v2,hi,rfl,o2,rfl,rfl⟩
   refine Ex.keep [1,5,8,43,44] rG (fun gk=>?_)
   by_cases hlt:i<5
   ·have hci:=hc i hlt
    have hcs:=clkA_succ x.c i
    have hal:=hca i hi
    have hc3:=vB_len3 (n:=(x.c.get i).toNat) rM
    (refine rn ?_;(repeat (first | intro (v:Value) | intro (o:O1 _) | intro (hcs:_=List.set _ _ _) | intro h)))
    refine ExL.val rJ rJ rJ (vl_indexC rJ rJ rJ rJ rJ rM rM) ?_
    rw [show (⟨x.c.a,x.c.b,x.c.c,x.c.d,x.c.e⟩:Clk).get (i:Int).toNat=x.c.get i from rfl]
    (refine rn ?_;(repeat (first | intro (v:Value) | intro (o:O1 _) | intro (hcs:_=List.set _ _ _) | intro h)))
    refine st_callIs [] rJ Tryz.call179 rJ rJ (vput_I (x.c.get i) _ rM) ?_
    rintro v1 _ ⟨o1,rfl⟩
    (refine rn ?_;(repeat (first | intro (v:Value) | intro (o:O1 _) | intro (hcs:_=List.set _ _ _) | intro h)))
    rw [show x.bHead++x.bUpto++clkA x.c i++vB (x.c.get i).toNat=x.bHead++x.bUpto++clkA x.c (i+1) by rw [hcs,List.append_assoc (x.bHead++x.bUpto)]]
    exact rnd_n ⟨5 - (i+1),_,by omega,rB,i+1,v,by omega,rfl,o,lcons rfl (lcons (vint rM) rfl),rfl⟩
   ·have h5:i=5:=by omega
    subst h5
    (refine rn ?_;(repeat (first | intro (v:Value) | intro (o:O1 _) | intro h)))
    rw [← e]
    exact HC _ _ ⟨_,rB,v2,o2,lcons rfl (lcons rfl (lcons rfl rfl)),rfl⟩
  ·rw [decide_eq_false c]
   (refine rn ?_;(repeat (first | intro (v:Value) | intro (o:O1 _) | intro h)))
   have e:x.bClk=[]:=if_neg c
   simp only [e,List.append_nil] at HC
   exact HC _ _ ⟨_,rB,v8,o8,lcons rfl (lcons rfl (lcons rfl rfl)),rfl⟩
 intro HC
 by_cases u:kUpto x.kind
 ·rw [decide_eq_true u]
  have e:x.bUpto=vB x.upto.toNat:=if_pos u
  (refine rn ?_;(repeat (first | intro (v:Value) | intro (o:O1 _) | intro h)))
  refine st_callIs [] rJ Tryz.call179 rJ rJ (vput_I x.upto _ rM) ?_
  rintro v1 _ ⟨o1,rfl⟩
  (refine rn ?_;(repeat (first | intro (v:Value) | intro (o:O1 _) | intro h)))
  simp only [e] at HC
  exact HC _ _ ⟨_,rB,v,o,lcons rfl (lcons rfl (lcons rfl (lcons rfl rfl))),rfl⟩
 ·rw [decide_eq_false u]
  (refine rn ?_;intros)
  have e:x.bUpto=[]:=if_neg u
  simp only [e,List.append_nil] at HC
  exact HC _ _ ⟨_,rB,_,rfl,lcons rfl (lcons rfl (lcons rfl (lcons rfl rfl))),rfl⟩
end
section
theorem rcRead_cons (k r:UInt8) (q:List UInt8):rcRead (k::r::q)=if 1≤(k.toNat:Int)∧(k.toNat:Int)≤6 then
   match (if kUpto k.toNat then rNum q else some (0,q)) with
   | none=>none
   | some (u,q1)=>match (if kClk k.toNat then rClkN 5 q1 else some (Clk.zero,q1)) with
    | none=>none
    | some (c,q2)=>match (if kEvs k.toNat then rList q2 else some ([],q2)) with
     | none=>none
     | some (l,_)=>some ⟨k.toNat,r.toNat,u,c,l⟩
  else none:=rfl
theorem rcRead_small {b:List UInt8} (h:b.length<2):rcRead b=none:=by
 rcases b with _ | ⟨a,_ | ⟨c,q⟩⟩
 ·rfl
 ·rfl
 ·simp at h;omega
theorem rc_setC (x:Rcd) (v:Value) (i:Nat) (n:Int) (hi:i<5) (o:Nat) (ho:o=3+i):(rcC x v).set o (.int .i64 n)=rcC ⟨x.kind,x.r,x.upto,x.c.set i n,x.l⟩ v:=by
 subst ho
 have:i=0∨i=1∨i=2∨i=3∨i=4:=by omega
 rcases this with rfl | rfl | rfl | rfl | rfl <;> rfl
theorem rClkN_none:∀ (n k:Nat) (b:List UInt8),rClkN n b=none→rClkN (n+k) b=none
 | n,0,b,h=>h
 | n,k+1,b,h=>by
  rw [← Nat.add_assoc,rClkN,rClkN_none n k b h]
@[reducible] def ReR (r:Value) (l:Option Rcd) (M L':List Assn):Prop :=
 (l=none∧(∃ y,r=.tuple #[.agg (rcC y (.slice none 0 0)).toArray,.bool false])∧L'=M)∨∃ x u,l=some x∧u.oneCell'=true∧r=.tuple #[.agg (rcC x u).toArray,.bool true]∧L'=Evs_ u x.l::M
theorem rread_F (v0:Value) (b:List UInt8) (M:List Assn) (hr:RdT M v0 b) (o0:v0.oneCell'=true) (hb:b.length≤1000000000):Fn Tryz.prog 248 #[v0] M fun r L'=>ReR r (rcRead b) M L':=by
 refine Fn.of_ex Tryz.func248 rfl Tryz.ntmps248 rfl ?_
 by_cases h2:b.length<2
 ·rw [rcRead_small h2]
  (refine rn ?_;(repeat (first | intro (g:Nat) | intro (v:Value) | intro (o:O1 _) | intro (cs:List Value) | intro (hcs:_=List.set _ _ _) | intro (zs:List _) | intro h)))
  (refine fr ?_)
  exact ⟨_,rB,.inl ⟨rfl,⟨⟨0,0,0,Clk.zero,[]⟩,rfl⟩,rfl⟩⟩
 obtain ⟨k,r,q,rfl⟩:∃ k r q,b=k::r::q:=by
  rcases b with _ | ⟨a,_ | ⟨c,q⟩⟩
  ·simp at h2
  ·simp at h2
  ·exact ⟨a,c,q,rfl⟩
 have hR:=rcRead_cons k r q
 simp only [List.length_cons] at h2 hb
 (refine rn ?_;(repeat (first | intro (g:Nat) | intro (v:Value) | intro (o:O1 _) | intro (cs:List Value) | intro (hcs:_=List.set _ _ _) | intro (zs:List _) | intro h)))
 have hq:RdT M (subs v0 2 (q.length+1+1) 1) q:=RdT.off hr (by simp) rfl rJ
 (refine mu10 ?_;(repeat (first | intro (g:Nat) | intro (v:Value) | intro (o:O1 _) | intro (cs:List Value) | intro (hcs:_=List.set _ _ _) | intro (zs:List _) | intro h)))
 (refine rn ?_;(repeat (first | intro (g:Nat) | intro (v:Value) | intro (o:O1 _) | intro (cs:List Value) | intro (hcs:_=List.set _ _ _) | intro (zs:List _) | intro h)))
 rename_i g2
 revert g
 intro g4
 refine st_callIs [] rJ Tryz.call234 rJ rJ (rfields_F k.toNat _) ?_
 rintro _ _ ⟨rfl,rfl⟩
 by_cases hk:1≤(k.toNat:Int)∧(k.toNat:Int)≤6
 rotate_left
 ·have u:¬ kUpto k.toNat:=by unfold kUpto;omega
  have c:¬ kClk k.toNat:=by unfold kClk;omega
  have e:¬ kEvs k.toNat:=by unfold kEvs;omega
  rw [if_neg hk] at hR
  rw [hR,decide_eq_false hk,decide_eq_false u,decide_eq_false c,decide_eq_false e]
  (refine rn ?_;(repeat (first | intro (hcs:_=List.set _ _ _) | intro h)))
  (refine fr ?_)
  exact ⟨_,rB,.inl ⟨rfl,⟨⟨k.toNat,r.toNat,0,Clk.zero,[]⟩,rfl⟩,rfl⟩⟩
 rw [if_pos hk] at hR
 rw [decide_eq_true hk]
 by_cases u:kUpto k.toNat
 ·have c:¬ kClk k.toNat:=by unfold kClk;unfold kUpto at u;omega
  rw [decide_eq_true u,decide_eq_false c]
  simp only [if_pos u,if_neg c] at hR
  (refine rn ?_;(repeat (first | intro (hcs:_=List.set _ _ _) | intro h)))
  refine st_callIs [] rJ Tryz.call288 rJ rJ (rnumber_F _ q _ M hq rB (subs_one o0) rM) ?_
  rintro _ _ (⟨hNu,rfl,rfl⟩ | ⟨n,q1,u1,hNu,ou1,hq1,hn0,hn1,rfl,hu1,rfl⟩)
  ·rw [hNu] at hR
   rw [hR]
   (refine rn ?_;(repeat (first | intro (hcs:_=List.set _ _ _) | intro h)))
   (refine fr ?_)
   exact ⟨_,rB,.inl ⟨rfl,⟨⟨k.toNat,r.toNat,0,Clk.zero,[]⟩,rfl⟩,rfl⟩⟩
  ·rw [hNu] at hR
   simp only at hR
   by_cases e:kEvs k.toNat
   ·rw [decide_eq_true e]
    simp only [if_pos e] at hR
    (refine rn ?_;(repeat (first | intro (hcs:_=List.set _ _ _) | intro h)))
    refine st_callIs [] rJ Tryz.call289 rJ rJ (rlist_F _ q1 _ (hu1.sub rB) ou1 rM) ?_
    rintro _ _ (⟨hL,rfl,rfl⟩ | ⟨xl,ql,ul,hL,oul,rfl,rfl⟩)
    ·rw [hL] at hR
     rw [hR]
     (refine rn ?_;(repeat (first | intro (hcs:_=List.set _ _ _) | intro h)))
     (refine fr ?_)
     exact ⟨_,rB,.inl ⟨rfl,⟨⟨k.toNat,r.toNat,n,Clk.zero,[]⟩,rfl⟩,rfl⟩⟩
    ·rw [hL] at hR
     rw [hR]
     (refine rn ?_;(repeat (first | intro (hcs:_=List.set _ _ _) | intro h)))
     (refine fr ?_)
     exact ⟨_,rB,.inr ⟨⟨k.toNat,r.toNat,n,Clk.zero,xl⟩,ul,rfl,oul,rfl,rfl⟩⟩
   ·rw [decide_eq_false e]
    simp only [if_neg e] at hR
    rw [hR]
    (refine rn ?_;(repeat (first | intro (hcs:_=List.set _ _ _) | intro h)))
    (refine fr ?_)
    exact ⟨_,Sub.trans (Sub.empty (α:=Ev) none 80 _) rB,.inr ⟨⟨k.toNat,r.toNat,n,Clk.zero,[]⟩,_,rfl,rfl,rfl,rfl⟩⟩
 ·rw [decide_eq_false u]
  simp only [if_neg u] at hR
  by_cases c:kClk k.toNat
  ·have e:¬ kEvs k.toNat:=by unfold kEvs;unfold kClk at c;omega
   rw [decide_eq_true c,decide_eq_false e]
   simp only [if_pos c,if_neg e] at hR
   (refine rn ?_;(repeat (first | intro (hcs:_=List.set _ _ _) | intro h)))
   refine Ex.loop [8,9,10] (fun z vs L'=>∃ (i:Nat) (d:Clk) (ok:Bool) (u':Value),i≤5∧u'.oneCell'=true∧((ok=true∧z=6 - i∧∃ q':List UInt8,rClkN i q=some (d,q')∧q'.length≤q.length∧RdT M u' q')∨(ok=false∧z=0∧rClkN 5 q=none))∧vs=[.bool ok,u',.int .i64 i]∧L'=Blk g4 88 (rcC ⟨k.toNat,r.toNat,0,d,[]⟩ (.slice none 0 0))::Blk g2 88 (rcC ⟨0,0,0,Clk.zero,[]⟩ (.slice none 0 0))::M) 6 ⟨0,Clk.zero,true,_,by omega,subs_one o0,.inl ⟨rfl,rfl,q,rfl,Nat.le_refl _,hq⟩,rfl,rfl⟩ ?_
   rintro z vs g0 L1 ⟨i,d,ok,u',hi,ou',(⟨rfl,rfl,q',hE,hql,hu'⟩ | ⟨rfl,rfl,hE⟩),rfl,rfl⟩
   ·refine Ex.keep [2,4,6,8,9,10] rG (fun gk=>?_)
    by_cases hlt:i<5
    ·(refine rn ?_;(repeat (first | intro (hcs:_=List.set _ _ _) | intro h)))
     refine st_callIs [] rJ Tryz.call288 rJ rJ (rnumber_F _ q' _ M hu' rB ou' rM) ?_
     rintro _ _ (⟨hNu,rfl,rfl⟩ | ⟨n,q1,u1,hNu,ou1,hq1,hn0,hn1,rfl,hu1,rfl⟩)
     ·have hn5:rClkN 5 q=none:=by
       have h1:rClkN (i+1) q=none:=by rw [rClkN,hE];simp only;rw [hNu]
       have:=rClkN_none (i+1) (5 - (i+1)) q h1
       rwa [show i+1+(5 - (i+1))=5 by omega] at this
      (refine rn ?_;(repeat (first | intro (hcs:_=List.set _ _ _) | intro h)))
      rw [rc_setC _ _ i _ hlt _ (by show 3+(i:Int).toNat * 1=3+i;omega)] at hcs
      subst hcs
      exact rnd_n ⟨0,_,by omega,rB,i+1,_,false,_,by omega,rfl,.inr ⟨rfl,rfl,hn5⟩,lcons rfl (lcons rfl (lcons (vint rM) rfl)),rfl⟩
     ·have hE2:rClkN (i+1) q=some (d.set i n,q1):=by rw [rClkN,hE];simp only;rw [hNu]
      (refine rn ?_;(repeat (first | intro (hcs:_=List.set _ _ _) | intro h)))
      rw [rc_setC _ _ i _ hlt _ (by show 3+(i:Int).toNat * 1=3+i;omega)] at hcs
      subst hcs
      exact rnd_n ⟨6 - (i+1),_,by omega,rB,i+1,_,true,u1,by omega,ou1,.inl ⟨rfl,rfl,q1,hE2,by omega,hu1⟩,lcons rfl (lcons rfl (lcons (vint rM) rfl)),rfl⟩
    ·have h5:i=5:=by omega
     subst h5
     rw [hE] at hR
     rw [hR]
     (refine rn ?_;intros)
     (refine fr ?_)
     exact ⟨_,Sub.trans (Sub.empty (α:=Ev) none 80 _) rB,.inr ⟨⟨k.toNat,r.toNat,0,d,[]⟩,_,rfl,rfl,rfl,rfl⟩⟩
   ·refine Ex.keep [2,4,6,8,9,10] rG (fun gk=>?_)
    rw [hE] at hR
    rw [hR]
    (refine rn ?_;intros)
    (refine fr ?_)
    exact ⟨_,rB,.inl ⟨rfl,⟨⟨k.toNat,r.toNat,0,d,[]⟩,rfl⟩,rfl⟩⟩
  ·have e:kEvs k.toNat:=by unfold kEvs;unfold kClk at c;unfold kUpto at u;omega
   rw [decide_eq_false c,decide_eq_true e]
   simp only [if_neg c,if_pos e] at hR
   (refine rn ?_;intros)
   refine st_callIs [] rJ Tryz.call289 rJ rJ (rlist_F _ q _ (hq.sub rB) (subs_one o0) rM) ?_
   rintro _ _ (⟨hL,rfl,rfl⟩ | ⟨xl,ql,ul,hL,oul,rfl,rfl⟩)
   ·rw [hL] at hR
    rw [hR]
    (refine rn ?_;intros)
    (refine fr ?_)
    exact ⟨_,rB,.inl ⟨rfl,⟨⟨k.toNat,r.toNat,0,Clk.zero,[]⟩,rfl⟩,rfl⟩⟩
   ·rw [hL] at hR
    rw [hR]
    (refine rn ?_;intros)
    (refine fr ?_)
    exact ⟨_,rB,.inr ⟨⟨k.toNat,r.toNat,0,Clk.zero,xl⟩,ul,rfl,oul,rfl,rfl⟩⟩
end
section
theorem rEvsN_small:∀ (n:Nat) (b:List UInt8) (l:List Ev) (q:List UInt8),rEvsN n b=some (l,q)→l.length=n∧∀ e∈l,e.ed.key.length≤8∧e.ed.value.length≤12
 | 0,b,l,q,h=>by
  simp only [rEvsN,Option.some.injEq,Prod.mk.injEq] at h
  obtain ⟨rfl,rfl⟩:=h
  exact ⟨rfl,fun e he=>by cases he⟩
 | n+1,b,l,q,h=>by
  unfold rEvsN at h
  split at h
  ·split at h
   ·cases h
   ·rename_i l2 q2 h2
    simp only [Option.some.injEq,Prod.mk.injEq] at h
    obtain ⟨rfl,rfl⟩:=h
    obtain ⟨h3,h4⟩:=rEvsN_small n _ _ _ h2
    refine ⟨by rw [List.length_cons,h3],fun e he=>?_⟩
    rcases List.mem_cons.1 he with rfl | he
    ·exact evTake_len b
    ·exact h4 e he
  ·cases h
theorem rList_small {b:List UInt8} {l:List Ev} {q:List UInt8} (h:rList b=some (l,q)):l.length≤4096∧∀ e∈l,e.ed.key.length≤8∧e.ed.value.length≤12:=by
 unfold rList at h
 split at h
 ·cases h
 ·split at h
  ·cases h
  ·obtain ⟨h1,h2⟩:=rEvsN_small _ _ _ _ h
   exact ⟨by omega,h2⟩
theorem rcRead_small2 {b:List UInt8} {x:Rcd} (h:rcRead b=some x):x.l.length≤4096∧∀ e∈x.l,e.ed.key.length≤8∧e.ed.value.length≤12:=by
 rcases b with _ | ⟨k,_ | ⟨r,q⟩⟩
 ·cases h
 ·cases h
 ·rw [rcRead_cons] at h
  split at h
  ·split at h
   ·cases h
   ·split at h
    ·cases h
    ·split at h
     ·cases h
     ·rename_i h3
      simp only [Option.some.injEq] at h
      subst h
      split at h3
      ·exact rList_small h3
      ·simp only [Option.some.injEq,Prod.mk.injEq] at h3
       obtain ⟨rfl,rfl⟩:=h3
       exact ⟨Nat.zero_le _,fun e he=>by cases he⟩
  ·cases h
theorem crcOpen_len {b q:List UInt8} (h:crcOpen b=some q):q.length≤b.length:=by
 unfold crcOpen at h
 split at h
 ·simp only [Option.some.injEq] at h
  rw [← h,List.length_take]
  omega
 ·cases h
theorem bequal_F (u v:Value) (a b:List UInt8) (M:List Assn) (ha:RdT M u a) (hb:RdT M v b) (ou:u.oneCell'=true) (ov:v.oneCell'=true) (la:a.length≤1000000000) (lb:b.length≤1000000000):Fn Tryz.prog 196 #[u,v] M fun r L'=>r=.bool (decide (a=b))∧L'=M:=by
 refine Fn.of_ex Tryz.func196 rfl Tryz.ntmps196 rfl ?_
 (refine rn ?_;intros)
 (refine fr ?_)
 exact ⟨_,rB,congrArg Value.bool (by rw [Bool.eq_iff_iff]),rfl⟩
@[reducible] def ReF (r:Value) (l:Option (Rcd×Nat)) (M L':List Assn):Prop :=
 (l=none∧(∃ y,r=.tuple #[.agg (rcC y (.slice none 0 0)).toArray,.int .i64 0,.bool false])∧L'=M)∨∃ x k u,l=some (x,k)∧u.oneCell'=true∧r=.tuple #[.agg (rcC x u).toArray,.int .i64 k,.bool true]∧L'=Evs_ u x.l::M
open Classical in
theorem rfirst_F (v0:Value) (b:List UInt8) (M:List Assn) (hr:RdT M v0 b) (o0:v0.oneCell'=true) (hb:b.length≤1000000000):Fn Tryz.prog 185 #[v0] M fun r L'=>ReF r (rcFirst b) M L':=by
 refine Fn.of_ex Tryz.func185 rfl Tryz.ntmps185 rfl ?_
 (refine rn ?_;intros)
 refine st_callIs [] rJ Tryz.call247 rJ rJ (vtake_F _ b _ rD hb) ?_
 rintro _ _ ⟨rfl,rfl⟩
 have hsp:=vT_spec b 0 0
 cases hv:vTake b with
 | error e =>
  have hv':vT 0 0 b=.error e:=hv
  rw [hv'] at hsp
  have he:e=2∨e=3:=hsp
  have hF:rcFirst b=none:=by unfold rcFirst;rw [hv]
  rw [hF]
  unfold vtV
  simp only
  (refine rn ?_;intros)
  (refine fr ?_)
  exact ⟨_,rB,.inl ⟨rfl,⟨⟨0,0,0,Clk.zero,[]⟩,rfl⟩,rfl⟩⟩
 | ok nk =>
  obtain ⟨n,k⟩:=nk
  have hv':vT 0 0 b=.ok (n,k):=hv
  rw [hv'] at hsp
  have hk:0<k∧k≤0+b.length:=hsp
  unfold vtV
  simp only
  by_cases hn:b.length<k+n
  ·have hF:rcFirst b=none:=by unfold rcFirst;rw [hv];simp only;rw [if_pos hn]
   rw [hF]
   (refine rn ?_;intros)
   (refine fr ?_)
   exact ⟨_,rB,.inl ⟨rfl,⟨⟨0,0,0,Clk.zero,[]⟩,rfl⟩,rfl⟩⟩
  have hF:rcFirst b=match crcOpen ((b.take (k+n)).drop k) with
   | none=>none
   | some body=>match rcRead body with
    | none=>none
    | some x=>if x.May∧x.bytes=b.take (k+n) then some (x,k+n) else none:=by
   unfold rcFirst;rw [hv];simp only;rw [if_neg hn];rfl
  obtain ⟨W,hW⟩:∃ W,W=b.take (k+n):=⟨_,rfl⟩
  have hWl:W.length=k+n:=by rw [hW,List.length_take];omega
  rw [← hW] at hF
  (refine rn ?_;intros)
  have e1:((k:Int)+(n:Int)).toNat=k+n:=by omega
  rw [e1,← hW]
  have hw8:RdT M (subs v0 0 (k+n) 1) W:=by rw [hW];exact RdT.to hr rM rfl
  have o8:(subs v0 0 (k+n) 1).oneCell'=true:=subs_one o0
  have hd8:RdT M (subs (subs v0 0 (k+n) 1) (k:Int).toNat W.length 1) (W.drop k):=RdT.off hw8 rM rfl rM
  have hdl:(W.drop k).length≤W.length:=by rw [List.length_drop];omega
  refine st_callIs [] rJ Tryz.call194 rJ rJ (copen_F _ (W.drop k) _ (hd8.sub rB) rM) ?_
  rintro _ _ (⟨hO,rfl,rfl⟩ | ⟨body,u,hO,ou,rfl,rfl⟩)
  ·rw [hO] at hF
   simp only at hF
   rw [hF]
   (refine rn ?_;intros)
   (refine fr ?_)
   exact ⟨_,rB,.inl ⟨rfl,⟨⟨0,0,0,Clk.zero,[]⟩,rfl⟩,rfl⟩⟩
  rw [hO] at hF
  simp only at hF
  have hbl:=crcOpen_len hO
  (refine rn ?_;intros)
  refine st_callIs [] rJ Tryz.call248 rJ rJ (rread_F _ body _ rD ou rM) ?_
  rintro _ _ (⟨hR,⟨y,rfl⟩,rfl⟩ | ⟨x,u2,hR,ou2,rfl,rfl⟩)
  ·rw [hR] at hF
   simp only at hF
   rw [hF]
   (refine rn ?_;intros)
   (refine fr ?_)
   exact ⟨_,rB,.inl ⟨rfl,⟨⟨0,0,0,Clk.zero,[]⟩,rfl⟩,rfl⟩⟩
  rw [hR] at hF
  simp only at hF
  obtain ⟨hxl,hxs⟩:=rcRead_small2 hR
  (refine rn ?_;intros)
  refine st_callIs [] rJ Tryz.call172 rJ rJ (rput_F x u2 _ rD ou2 rM (fun e he=>by have:=hxs e he;omega)) ?_
  rintro _ _ (⟨hM,rfl,rfl⟩ | ⟨hM,v9,o9,rfl,rfl⟩)
  ·rw [if_neg (fun h=>hM h.1)] at hF
   rw [hF]
   (refine rn ?_;intros)
   (refine fr ?_)
   exact ⟨_,rB,.inl ⟨rfl,⟨⟨0,0,0,Clk.zero,[]⟩,rfl⟩,rfl⟩⟩
  have hxb:=(x.bytes_len hM).2
  (refine rn ?_;intros)
  refine st_callIs [] rJ Tryz.call196 rJ rJ (bequal_F v9 (subs v0 0 (k+n) 1) x.bytes W _ rD (hw8.sub rB) o9 o8 rM rM) ?_
  rintro _ _ ⟨rfl,rfl⟩
  by_cases hE:x.bytes=W
  ·rw [if_pos ⟨hM,hE⟩] at hF
   rw [hF,decide_eq_true hE]
   (refine rn ?_;intros)
   (refine fr ?_)
   exact ⟨_,rB,.inr ⟨x,k+n,u2,rfl,ou2,by rw [hWl],rfl⟩⟩
  ·rw [if_neg (fun h=>hE h.2)] at hF
   rw [hF,decide_eq_false hE]
   (refine rn ?_;intros)
   (refine fr ?_)
   exact ⟨_,rB,.inl ⟨rfl,⟨⟨0,0,0,Clk.zero,[]⟩,rfl⟩,rfl⟩⟩
end
end
section
def jmp (l:Nat) (I:Nat→List Value→List Assn→Prop) (m:Nat) (ss:List Nat) (Q:Post):Post
 | .goto l',f,L=>l'=l∧∃ m' L',m'<m∧Sub L' L∧I m' (ss.map f) L'
 | e,f,L=>Q e f L
def lab (I:Nat→List Value→List Assn→Prop) (ss:List Nat):Post
 | .normal,f,L=>∃ m L',Sub L' L∧I m (ss.map f) L'
 | _,_,_=>False
section
variable {P:Program} {n:Nat} {Q:Post} {f:Nat→Value} {L:List Assn}
theorem Ex.goto {l:Nat} (h:Q (.goto l) f L):Ex P n (.goto l) Q f L:=fun D F w0 f0 ws a w H hc=>wp_goto ⟨f,L,H,h⟩
theorem Ex.scopeJ {c r1 r2 rest:Code} {l:Nat} (ss:List Nat) (I:Nat→List Value→List Assn→Prop) (hc:c=.seq r1 (.seq r2 (.seq (.label l) rest))) (hp1:findLabel r1 l=none) (hp2:findLabel r2 l=none)
  (first:Ex P n r1 (thn P n r2 (lab I ss)) f L)
  (pass:∀ (m:Nat) (vs:List Value) (g:Nat→Value) (L':List Assn),I m vs L'→Ex P n rest (jmp l I m ss Q) (upds (havoc f g (writes c)) ss vs) L'):Ex P n (.scope c) Q f L:=fun D F w0 f0 ws a w H hW=>by
 let J:Act→World→Nat→Prop:=fun a w m=>∃ f' L',Here D n F w0 f (fun t=>(writes c).any (Nat.beq t)) a w f' L'∧I m (ss.map f') L'
 obtain ⟨r,ag,s,hf0⟩:=H
 have hpass:∀ a w,(∃ m,J a w m)→rest.wp P (Exit.jump l (fun a' w'=>(∃ m,J a' w' m)∧leastOf (J a' w')<leastOf (J a w)) (Lift D n F w0 f (fun t=>(writes c).any (Nat.beq t)) Q)) a w:=by
  rintro a w ⟨m,hJ⟩
  have hl:=(leastOf_spec hJ).1
  obtain ⟨f',L',H,hI⟩:=hl
  have hf:=H.2.2.2
  have e:f'=upds (havoc f f' (writes c)) ss (ss.map f'):=by
   have:havoc f f' (writes c)=f':=by
    funext t
    unfold havoc
    cases hb:(writes c).any (Nat.beq t) with
    | true=>simp only [hb]
    | false=>simp only [hb];exact (hf t hb).symm
   rw [this,upds_self]
  have h1:=pass _ _ f' L' hI
  rw [← e] at h1
  refine wp_mono (h1 D F w0 f _ a w H (fun d hd=>?_)) ?_
  ·show (writes c).any (Nat.beq d)=true
   simp only [List.any_eq_true]
   refine ⟨d,?_,by simp⟩
   rw [hc]
   exact List.mem_append_right _ (List.mem_append_right _ (List.mem_append_right _ hd))
  rintro e a w ⟨f2,L2,H,q⟩
  cases e with
  | goto l' =>
   obtain ⟨rfl,m',L3,hm',hs3,hI'⟩:=q
   have hJ':J a w m':=⟨f2,L3,⟨H.1,H.2.1,hs3 w F H.2.2.1,H.2.2.2⟩,hI'⟩
   exact ⟨rfl,⟨m',hJ'⟩,Nat.lt_of_le_of_lt (leastOf_spec hJ').2 hm'⟩
  | _=>exact ⟨f2,L2,H,q⟩
 refine wp_mono (Q:=Lift D n F w0 f (fun t=>(writes c).any (Nat.beq t)) Q) ?_ ?_
 ·refine wp_scope_jumps l (fun a w=>∃ m,J a w m) (fun a w=>leastOf (J a w)) (rest:=.seq .skip rest) (by rw [hc];simp [findLabel,hp1,hp2]) ?_ ?_
  ·have key:∀ (X:Exit→Act→World→Prop),(Code.seq r1 (.seq r2 (.seq (.label l) rest))).wp P X a w→c.wp P X a w:=fun X h=>by rw [hc];exact h
   refine key _ ?_
   refine wp_seq (wp_mono (first D F w0 f _ a w ⟨r,ag,s,fun _ _=>rfl⟩ (fun d hd=>by
    show (writes c).any (Nat.beq d)=true
    simp only [List.any_eq_true]
    refine ⟨d,?_,by simp⟩
    rw [hc]
    exact List.mem_append_left _ hd)) ?_)
   rintro e a w ⟨f2,L2,H,q⟩
   cases e with
   | normal =>
    refine wp_seq (wp_mono (q D F w0 f _ a w H (fun d hd=>by
     show (writes c).any (Nat.beq d)=true
     simp only [List.any_eq_true]
     refine ⟨d,?_,by simp⟩
     rw [hc]
     exact List.mem_append_right _ (List.mem_append_left _ hd))) ?_)
    rintro e a w ⟨f2,L2,H,q⟩
    by_cases he:e=.normal
    case neg=>cases e <;> first | exact absurd rfl he | exact q.elim
    subst he
    obtain ⟨m,L3,hs3,hI⟩:=q
    refine wp_seq (wp_label ?_)
    refine wp_mono (hpass a w ⟨m,f2,L3,⟨H.1,H.2.1,hs3 w F H.2.2.1,H.2.2.2⟩,hI⟩) ?_
    intro e a w q
    cases e with
    | goto l'=>exact ⟨q.1,q.2.1⟩
    | _=>exact q
   | _=>exact q.elim
  ·intro a w hJ
   exact wp_seq (wp_skip (hpass a w hJ))
 ·rintro e a w ⟨f2,L2,⟨r,ag,s,k⟩,q⟩
  refine ⟨f2,L2,⟨r,ag,s,fun t ht=>?_⟩,q⟩
  rw [← hf0 t ht]
  refine k t ?_
  cases hb:(writes c).any (Nat.beq t) with
  | false=>exact hb
  | true =>
   simp only [List.any_eq_true] at hb
   obtain ⟨d,hd,hdt⟩:=hb
   have:=Nat.eq_of_beq_eq_true hdt
   subst this
   rw [hW t hd] at ht
   cases ht
end
end
section
theorem cellsOf_setA {α:Type} [Rep α] {xs:List α} {j:Nat} (hj:j<xs.length) (a:α):(cellsOf xs).take (j * Rep.sz α)++Rep.cells a++(cellsOf xs).drop (j * Rep.sz α+Rep.sz α)=cellsOf (xs.set j a):=by
 have e:xs.set j a=xs.take j++a::xs.drop (j+1):=List.set_eq_take_append_cons_drop .. |>.trans (by rw [if_pos hj])
 rw [e,cellsOf_append,cellsOf_take,← Nat.succ_mul,cellsOf_drop]
 show cellsOf (xs.take j)++Rep.cells a++cellsOf (xs.drop (j+1))=cellsOf (xs.take j)++(Rep.cells a++cellsOf (xs.drop (j+1)))
 rw [List.append_assoc]
section
variable {P:Program} {n:Nat} {ops:Array Oper} {Q:Post} {f:Nat→Value} {L:List Assn} {rest:List Oper} {d:Nat} {ty:TypeId} {pos:String} {af:Array Edge} {gd:Option (Nat×Bool)}
variable {α:Type} [Rep α] {xs:List α}
end
end
section
def Star:List Assn→Assn
 | [],_=>True
 | A::As,h=>∃ h1 h2:Frag,h=h1.add h2∧h1.disj h2∧A h1∧Star As h2
theorem frag_assoc {a b c:Frag}:(a.add b).add c=a.add (b.add c):=by
 funext n
 unfold Frag.add
 cases a n <;> rfl
theorem Star.open1 {A:Assn} {As:List Assn} (L:List Assn):Sub (A::Star As::L) (Star (A::As)::L):=fun w F ⟨h,⟨h1,h2,he,hd,a,rs⟩,d,s⟩=>by
 subst he
 have d1:h1.disj F:=fun n=>by
  rcases d n with x | x
  ·left
   unfold Frag.add at x
   cases hh:h1 n with
   | none=>rfl
   | some o=>rw [hh] at x;cases x
  ·exact .inr x
 have d2:h2.disj F:=fun n=>by
  rcases d n with x | x
  ·rcases hd n with y | y
   ·left
    unfold Frag.add at x
    rw [y] at x
    exact x
   ·exact .inl y
  ·exact .inr x
 refine ⟨h1,a,d1,h2,rs,?_,?_⟩
 ·rw [Frag.disj_add];exact ⟨Frag.disj_symm hd,d2⟩
 ·rw [← Frag.add_left_comm hd,← frag_assoc];exact s
theorem Star.close1 {A:Assn} {As:List Assn} (L:List Assn):Sub (Star (A::As)::L) (A::Star As::L):=fun w F ⟨h1,a,d,h2,rs,d2,s⟩=>by
 rw [Frag.disj_add] at d2
 refine ⟨h1.add h2,⟨h1,h2,rfl,Frag.disj_symm d2.1,a,rs⟩,?_,?_⟩
 ·intro n
  rcases d n with x | x
  ·rcases d2.2 n with y | y
   ·left;unfold Frag.add;rw [x];exact y
   ·exact .inr y
  ·exact .inr x
 ·rw [frag_assoc,Frag.add_left_comm (Frag.disj_symm d2.1)];exact s
theorem Star.nil (L:List Assn):Sub (Star []::L) L:=fun w F s=>by
 refine ⟨fun _=>none,trivial,fun n=>Or.inl rfl,?_⟩
 have:Frag.add (fun _=>none) F=F:=by funext n;rfl
 rw [this];exact s
theorem Star.focus:∀ {As:List Assn} {i:Nat} {A:Assn} (L:List Assn),As[i]?=some A→Sub (A::Star (As.eraseIdx i)::L) (Star As::L)
 | [],_,_,_,h=>by simp at h
 | B::As,0,A,L,h=>by
  simp at h;subst h;exact Star.open1 L
 | B::As,i+1,A,L,h=>by
  simp at h
  have h1:=Star.focus (As:=As) (i:=i) (A:=A) L h
  refine Sub.trans ?_ (Star.open1 L)
  refine Sub.trans ?_ (Sub.cons B h1)
  refine Sub.trans (Sub.cons A (Star.close1 (A:=B) (As:=As.eraseIdx i) L)) ?_
  exact Sub.front (L:=B::A::Star (As.eraseIdx i)::L) 1 rfl
theorem Star.unfocus:∀ {As:List Assn} {i:Nat} (A:Assn) (L:List Assn),i<As.length→Sub (Star (As.set i A)::L) (A::Star (As.eraseIdx i)::L)
 | [],_,_,_,h=>by simp at h
 | B::As,0,A,L,h=>Star.close1 L
 | B::As,i+1,A,L,h=>by
  have h1:=Star.unfocus (As:=As) (i:=i) A L (by simpa using h)
  refine Sub.trans (Star.close1 (A:=B) (As:=As.set i A) L) ?_
  refine Sub.trans (Sub.cons B h1) ?_
  refine Sub.trans (Sub.front (L:=A::B::Star (As.eraseIdx i)::L) 1 rfl) ?_
  exact Sub.cons A (Star.open1 (A:=B) (As:=As.eraseIdx i) L)
theorem Star.last {As:List Assn} (A:Assn):∀ (L:List Assn),Sub (Star (As++[A])::L) (A::Star As::L):=by
 induction As with
 | nil=>exact fun L=>Star.close1 L
 | cons B As ih =>
  intro L
  refine Sub.trans (Star.close1 (A:=B) (As:=As++[A]) L) ?_
  refine Sub.trans (Sub.cons B (ih L)) ?_
  refine Sub.trans (Sub.front (L:=A::B::Star As::L) 1 rfl) ?_
  exact Sub.cons A (Star.open1 L)
def Two (A B:Assn):Assn:=Star [A,B]
theorem Two.opn (A B:Assn) (L:List Assn):Sub (A::B::L) (Two A B::L) :=
 Sub.trans (Sub.cons A (Sub.trans (Sub.cons B (Sub.drop _ (Sub.refl L))) (Star.open1 (A:=B) (As:=[]) L))) (Star.open1 (A:=A) (As:=[B]) L)
theorem Two.cls (A B:Assn) (L:List Assn):Sub (Two A B::L) (A::B::L) :=
 Sub.trans (Star.close1 (A:=A) (As:=[B]) L) (Sub.cons A (Sub.trans (Star.close1 (A:=B) (As:=[]) L) (Sub.cons B (Star.nil L))))
structure Ptr where
 g:Nat
deriving DecidableEq
instance:Rep Ptr:=⟨1,fun p=>[.pointer (some ⟨p.g,0,none⟩)],by decide,fun _=>rfl,fun _=>rfl⟩
section
variable {P:Program} {n:Nat} {ops:Array Oper} {Q:Post} {f:Nat→Value} {L:List Assn} {rest:List Oper} {d:Nat} {ty:TypeId} {pos:String} {af:Array Edge} {gd:Option (Nat×Bool)}
variable {α:Type} [Rep α] {xs:List α}
theorem vl_slArrO {t e:TypeId} {x:Operand} {g o m sz:Nat} (hx:evalF f x=.pointer (some ⟨g,o,none⟩)) (hu:P.underlying t=some (.array m e)) (hs:P.cellsOf e=sz) (hp:Nat.blt 0 sz=true) (hm:Nat.blt 0 m=true) :
  Val P ⟨some d,.slice t x none none none,ty,pos,af,gd⟩ f L (.slice (some ⟨g,o,none⟩) m m):=fun F w s=>by
 have hm:=Nat.le_of_ble_eq_true hm
 simp [execOp,hx,Instr.sliceAt,run_underlying hu,Instr.sureAddr,Instr.sliceBounds,run_sizeOf' w hs (Nat.le_of_ble_eq_true hp),show ¬ m=0 by omega,addr_add]
theorem mid_over {pre post:List Value} {ys:List α} (hy:ys.length≤xs.length):(pre++cellsOf xs++post).take pre.length++cellsOf ys++(pre++cellsOf xs++post).drop (pre.length+(cellsOf ys).length)=pre++cellsOf (ys++xs.drop ys.length)++post:=by
 have hl:=cellsOf_len xs
 have hl2:=cellsOf_len ys
 have hb:ys.length * Rep.sz α≤xs.length * Rep.sz α:=Nat.mul_le_mul_right _ hy
 rw [cellsOf_append,← cellsOf_drop,List.append_assoc pre,List.take_left,List.drop_append,List.drop_eq_nil_of_le (show pre.length≤pre.length+(cellsOf ys).length by omega),show pre.length+(cellsOf ys).length - pre.length=(cellsOf ys).length by omega,List.drop_append_of_le_length rM,hl2]
 simp [List.append_assoc]
theorem st_copyM (i:Nat) {dd:Option Nat} {x y:Operand} {u:Value} {t t2 e bt:TypeId} {sz g o m c:Nat} {cs pre post:List Value} (xs ys:List α) (hd:dstOk n dd=true) (hx:evalF f x=.slice (some ⟨g,o,none⟩) m c) (hi:L[i]?=some (Blk g bt cs)) (he:cs=pre++cellsOf xs++post) (ho:pre.length=o) (hm:xs.length=m) (hy:evalF f y=u) (hr:RdT L u ys) (hle:ys.length≤m)
  (ht:P.underlying t=some (.slice e)) (hs:P.cellsOf e=sz) (hsz:Rep.sz α=sz)
  (h:ExL P n ops rest Q (updo f dd (.int .i64 (ys.length:Nat))) (L.set i (Blk g bt (pre++cellsOf (ys++xs.drop ys.length)++post)))):ExL P n ops (⟨dd,.call ⟨.builtin .copy,#[x,y],#[t,t2]⟩,ty,pos,af,none⟩::rest) Q f L:=by
 subst he;subst ho;subst hm;subst hsz;subst hy
 have hp:0<Rep.sz α:=Rep.pos
 refine ExL.eff rfl hd (R:=fun r L'=>r=.int .i64 (ys.length:Nat)∧L'=L.set i (Blk g bt (pre++cellsOf (ys++xs.drop ys.length)++post))) (fun F w s=>?_) (fun v' L' e=>by obtain ⟨rfl,rfl⟩:=e;exact h)
 obtain ⟨hl,a,cap,hev,hmc,hcm,han,hcell⟩:=hr w F s
 have hmin:Nat.min ys.length xs.length=ys.length:=Nat.min_eq_left hle
 have hmin2:min ys.length xs.length=ys.length:=Nat.min_eq_left hle
 cases a with
 | none =>
  have h0:ys.length=0:=by have:=han rfl;omega
  have e0:ys=[]:=List.eq_nil_of_length_eq_zero h0
  refine ⟨_,w,_,.inl ?_,Rest.refl w,?_,rfl,rfl⟩
  ·simp [execOp,resolve,invoke,builtin,hx,hev,Builtin.copy_,run_underlying ht,Builtin.lenOf,Builtin.firstCells,run_sizeOf' w hs hp,h0,loadCells,loadCellsFrom,storeCells,goInt]
  ·subst e0
   have e1:pre++cellsOf ([]++xs.drop ([]:List α).length)++post=pre++cellsOf xs++post:=by simp
   rw [e1,list_set_same hi];exact s
 | some ad =>
  have hload:=run_loadCells_list (P:=P) w ad (cellsOf ys) (fun j u hj=>hcell ad rfl j u hj)
  rw [cellsOf_len] at hload
  have hle2:ys.length * Rep.sz α≤xs.length * Rep.sz α:=Nat.mul_le_mul_right _ hle
  obtain ⟨w',hrun,hre,hs2⟩:=run_storeCells_blk (P:=P) (cellsOf ys) 0 pre.length w L (pre++cellsOf xs++post) hi (by simp only [List.length_append,cellsOf_len];omega) (fun v hv=>cellsOf_all _ v hv) s
  rw [Nat.add_zero,mid_over hle] at hs2
  refine ⟨_,w',_,.inl ?_,hre,hs2,rfl,rfl⟩
  simp [execOp,resolve,invoke,builtin,hx,hev,Builtin.copy_,run_underlying ht,Builtin.lenOf,Builtin.firstCells,run_sizeOf' w hs hp,hmin,hmin2,hload,hrun,goInt]
theorem st_storeRA (r:Nat) {t e:TypeId} {x y:Operand} {v:Value} {i sz:Nat} {a:α} {L':List Assn} (hx:evalF f x=elt v (i * sz+0)) (hy:evalF f y=.agg (Rep.cells a).toArray) (hi:L[r]?=some (RowT v e xs)) (hm:P.cellsOf t=sz) (hsz:Rep.sz α=sz) (hj:i<xs.length)
  (hL:L.set r (RowT v e (xs.set i a))=L') (h:ExL P n ops rest Q f L'):ExL P n ops (⟨none,.store t x y,ty,pos,af,none⟩::rest) Q f L:=by
 subst hsz;subst hL
 have hp:0<Rep.sz α:=Rep.pos
 refine ExL.eff rfl rfl (R:=fun _ L2=>L2=L.set r (RowT v e (xs.set i a))) (fun F w s=>?_) (fun v L2 e=>by subst e;exact h)
 have hb:(i+1) * Rep.sz α≤xs.length * Rep.sz α:=Nat.mul_le_mul_right _ rM
 rw [Nat.succ_mul] at hb
 obtain ⟨g,w',⟨c,hv⟩,hrun,hre,hs2⟩:=row_write (P:=P) (w:=w) (o:=i * Rep.sz α) (us:=Rep.cells a) (xs':=xs.set i a) hi (by rw [Rep.len];omega) (by rw [Rep.len];exact hp) (Rep.one a) (by rw [Rep.len];exact cellsOf_setA hj a) (by simp) s
 refine ⟨_,w',_,.inr ⟨?_,rfl⟩,hre,hs2,rfl⟩
 subst hv
 simp only [elt,addr_add,Nat.zero_add,Nat.add_zero] at hx
 simp [execOp,hx,hy,Instr.storeAt,Instr.sureAddr,storeVar,Value.cells,run_sizeOf' w hm hp,hrun,Rep.len]
end
end
section
structure Rcv where
 x:Rcd
 v:Value
 o:v.oneCell'=true
instance:Rep Rcv:=⟨9,fun r=>rcC r.x r.v,by decide,fun _=>rfl,fun r=>by simp [r.o];exact ⟨rfl,rfl,rfl,rfl,rfl,rfl,rfl,rfl⟩⟩
instance:ZRep Tryz.prog 88 Rcv:=⟨⟨Rcd.zero,.slice none 0 0,rfl⟩,by kernel_rfl,by kernel_rfl⟩
@[reducible] def Rcs_ (v:Value) (l:List Rcv):Assn:=RowT v 88 l
def Rcv.ev (r:Rcv):Assn:=Evs_ r.v r.x.l
theorem lab_n {I:Nat→List Value→List Assn→Prop} {ss:List Nat} {f:Nat→Value} {L:List Assn} (h:∃ m L',Sub L' L∧I m (ss.map f) L'):lab I ss .normal f L:=h
theorem jmp_g {l:Nat} {I:Nat→List Value→List Assn→Prop} {m:Nat} {ss:List Nat} {Q:Post} {f:Nat→Value} {L:List Assn} (h:∃ m' L',m'<m∧Sub L' L∧I m' (ss.map f) L'):jmp l I m ss Q (.goto l) f L:=⟨rfl,h⟩
theorem jmp_ret {l:Nat} {I:Nat→List Value→List Assn→Prop} {m:Nat} {ss:List Nat} {Q:Post} {f:Nat→Value} {L:List Assn} (h:Q .ret f L):jmp l I m ss Q .ret f L:=h
theorem thn_goto {P:Program} {n:Nat} {c:Code} {Q:Post} {l:Nat} {f:Nat→Value} {L:List Assn} (h:Q (.goto l) f L):thn P n c Q (.goto l) f L:=h
attribute [local irreducible] Star
set_option maxRecDepth 20000 attribute [local irreducible] Ex ExL Fn thn inb rnd fin meet Tab Mix mxEnd Val Sats RdT Rd RowT Row Blk Sub Fac ResV RVal Evs subs subs3 Hid Capd
section
attribute [local irreducible] jmp lab
theorem rall_F (v0:Value) (b:List UInt8) (M:List Assn) (hr:RdT M v0 b) (o0:v0.oneCell'=true) (hb:b.length≤1000000000):Fn Tryz.prog 125 #[v0] M
  fun r L'=>∃ (l:List Rcv) (n:Nat) (u:Value),RcAll b (l.map (·.x)) n∧n≤b.length∧u.oneCell'=true∧r=.tuple #[u,.int .i64 n]∧L'=Rcs_ u l::Star (l.map Rcv.ev)::M:=by
 refine Fn.of_ex Tryz.func125 rfl Tryz.ntmps125 rfl ?_
 (refine rn ?_;(repeat (first | intro (g:Nat) | intro (v:Value) | intro (o:O1 _) | intro h)))
 refine Ex.scopeJ [4,5] (fun m vs L'=>∃ (k:Nat) (l:List Rcv) (v4:Value),k≤b.length∧m=b.length - k∧v4.oneCell'=true∧l.length≤k∧(∀ l2 n,RcAll (b.drop k) l2 n→RcAll b (l.map (·.x)++l2) (k+n))∧vs=[v4,.int .i64 k]∧L'=Rcs_ v4 l::Star (l.map Rcv.ev)::M) rfl rJ rJ ?_ ?_
 ·(refine rn ?_;(repeat (first | intro (g:Nat) | intro (v:Value) | intro (o:O1 _) | intro h)))
  refine lab_n ⟨_,_,?_,0,[],.slice none 0 0,Nat.zero_le _,rfl,rfl,Nat.le_refl _,fun l2 n h=>by simpa using h,rfl,rfl⟩
  exact Sub.trans (Sub.cons _ (Star.nil M)) (Sub.empty (α:=Rcv) none 88 M)
 rintro m vs g L' ⟨k,l,v4,hk,rfl,o4,hlk,hA,rfl,rfl⟩
 have hd:(b.drop k).length=b.length - k:=List.length_drop
 (refine rn ?_;(repeat (first | intro (v:Value) | intro (o:O1 _) | intro h)))
 have hrk:RdT M (subs v0 (k:Int).toNat b.length 1) (b.drop k):=RdT.off hr hk rfl rM
 refine st_callIs [] rJ Tryz.call185 rJ rJ (rfirst_F _ (b.drop k) _ (hrk.sub rB) (subs_one o0) rM) ?_
 rintro _ _ (⟨hF,⟨y,rfl⟩,rfl⟩ | ⟨x,n,u,hF,ou,rfl,rfl⟩)
 ·(refine rn ?_;(repeat (first | intro (v:Value) | intro (o:O1 _) | intro h)))
  refine jmp_ret ?_
  (refine fr ?_)
  have h1:=hA [] 0 (.nil hF)
  rw [List.append_nil,Nat.add_zero] at h1
  exact ⟨_,rB,l,k,v4,h1,hk,o4,rfl,rfl⟩
 ·obtain ⟨hM,hbx,hn⟩:=rcFirst_some hF
  have hn0:=(x.bytes_len hM).1
  have hnl:n≤b.length - k:=by
   have:=congrArg List.length hbx
   rw [List.length_append,hd] at this
   omega
  rw [show rcC x u=Rep.cells (⟨x,u,ou⟩:Rcv) from rfl]
  (refine rn ?_;(repeat (first | intro (v:Value) | intro (o:O1 _) | intro h)))
  refine Ex.goto (thn_goto (jmp_g ⟨b.length - (k+n),_,by omega,?_,k+n,l++[⟨x,u,ou⟩],v,by omega,rfl,o,by rw [List.length_append,List.length_singleton];omega,?_,lcons rfl (lcons (vint rM) rfl),rfl⟩))
  ·rw [List.map_append]
   exact Sub.trans (Sub.cons _ (Star.last _ _)) (Sub.fr [3,2] rE rB)
  ·intro l2 n2 h
   rw [← List.drop_drop] at h
   have h1:=hA _ _ (.cons hF h)
   rw [List.map_append,List.append_assoc,Nat.add_assoc]
   exact h1
end
end
section
def mposV {κ:Type} [DecidableEq κ] (k:κ):List (κ×Value)→Nat→Option (Nat×Value)
 | [],_=>none
 | p::m,i=>if k=p.1 then some (i,p.2) else mposV k m (i+1)
class KeyV (P:outParam Program) (kt:TypeId) (κ:outParam Type) [DecidableEq κ] where
 kv:κ→Value
 inj:∀ a b:κ,kv a=kv b→a=b
 check:∀ (w:World) (em:Bool) (a:κ),(Instr.checkKey em 10000 kt (kv a)).run P w=.ok () w
 stays:∀ (w:World) (k:κ),(Instr.keyThatStays (kv k) (kv k)).run P w=.ok (kv k) w
 find:∀ (w:World) (k:κ) (es:List MapEntry) (m:List (κ×Value)),es.map (fun e=>(e.key,e.val))=m.map (fun p=>(kv p.1,p.2))→(Instr.findKey kt (kv k) es).run P w=.ok (mposV k m 0) w
def MapV {κ:Type} (kv:κ→Value) (g:Nat) (m:List (κ×Value)):Assn:=fun h=>∃ es clock,h=Frag.one g (.map es clock)∧es.toList.map (fun e=>(e.key,e.val))=(m.map fun p=>(kv p.1,p.2))∧MapKept.Stamped es clock
def mput {κ:Type} [DecidableEq κ] (k:κ) (v:Value) (m:List (κ×Value)):List (κ×Value):=match mposV k m 0 with | some q=>m.set q.1 (k,v) | none=>m++[(k,v)]
theorem run_askingV {P:Program} {kt:TypeId} {κ:Type} [Rep κ] [K:KeyT P kt κ] [DecidableEq κ] (k:κ) (w:World):∀ (es:List MapEntry) (m:List (κ×Value)) (i:Nat),es.map (fun e=>(e.key,e.val))=m.map (fun p=>(aggV p.1,p.2)) →
  (Instr.findAsking kt (aggV k) es i).run P w=.ok (mposV k m i) w
 | [],[],i,_=>by simp [Instr.findAsking,mposV]
 | e::es,p::m,i,h=>by
  simp only [List.map_cons,List.cons.injEq,Prod.mk.injEq] at h
  obtain ⟨⟨h1,h2⟩,h3⟩:=h
  have he:=run_eqT (P:=P) (t:=kt) k p.1 w
  unfold Instr.findAsking
  rw [h1]
  by_cases hk:k=p.1
  ·rw [decide_eq_true hk] at he
   rw [show mposV k (p::m) i=some (i,p.2) from if_pos hk]
   simp [he,h2]
  ·rw [decide_eq_false hk] at he
   rw [show mposV k (p::m) i=mposV k m (i+1) from if_neg hk]
   simp [he,run_askingV k w es m (i+1) h3]
 | [],_::_,_,h=>by simp at h
 | _::_,[],_,h=>by simp at h
theorem mposV_spec {κ:Type} [DecidableEq κ] (k:κ):∀ (m:List (κ×Value)) (s:Nat),(mposV k m s=none∧∀ p∈m,p.1≠k)∨∃ i,∃ h:i<m.length,(m[i]'h).1=k∧mposV k m s=some (s+i,(m[i]'h).2)
 | [],s=>.inl ⟨rfl,by simp⟩
 | p::m,s=>by
  by_cases hk:k=p.1
  ·exact .inr ⟨0,by simp,hk.symm,if_pos hk⟩
  ·rcases mposV_spec k m (s+1) with ⟨h1,h2⟩ | ⟨i,hi,h1,h2⟩
   ·refine .inl ⟨(if_neg hk).trans h1,fun x hx=>?_⟩
    rcases List.mem_cons.1 hx with rfl | hx
    ·exact fun h=>hk h.symm
    ·exact h2 x hx
   ·refine .inr ⟨i+1,by simp;omega,by simpa using h1,(if_neg hk).trans ?_⟩
    rw [h2]
    simp;omega
section
variable {κ:Type} {kv:κ→Value} {L:List Assn} {F:Frag} {w:World}
theorem mapV_heap {i g:Nat} {m:List (κ×Value)} (hi:L[i]?=some (MapV kv g m)) (s:Sats w L F):∃ es clock,w.heap[g]?=some (.map es clock)∧es.toList.map (fun e=>(e.key,e.val))=(m.map fun p=>(kv p.1,p.2))∧MapKept.Stamped es clock:=by
 obtain ⟨h,⟨es,clock,rfl,he,hst⟩,d,s'⟩:=Sats.pick hi s
 exact ⟨es,clock,Sats.frame_left s' g _ (Frag.one_self g _),he,hst⟩
theorem mapV_set {i g:Nat} {m m':List (κ×Value)} {es es':Array MapEntry} {clock clock':Nat} (hi:L[i]?=some (MapV kv g m)) (hg:w.heap[g]?=some (.map es clock)) (he:es'.toList.map (fun e=>(e.key,e.val))=m'.map fun p=>(kv p.1,p.2)) (hst:MapKept.Stamped es' clock') (s:Sats w L F) :
  Sats { w with heap:=w.heap.setIfInBounds g (.map es' clock') } (L.set i (MapV kv g m')) F:=by
 obtain ⟨h,⟨es0,clock0,rfl,_,_⟩,d,s'⟩:=Sats.pick hi s
 have hlt:g<w.heap.size:=(Array.getElem?_eq_some_iff.1 hg).1
 refine Sats.rewrite (o':=.map es' clock') (List.getElem?_eq_some_iff.1 hi).1 d s' ⟨es',clock',rfl,he,hst⟩ (fun n hn=>?_) ?_
 ·show (w.heap.setIfInBounds g _)[n]?=_
  rw [Array.getElem?_setIfInBounds_ne (Ne.symm hn)]
 ·show (w.heap.setIfInBounds g _)[g]?=_
  simp [hlt]
end
section
variable {P:Program} {n:Nat} {ops:Array Oper} {Q:Post} {f:Nat→Value} {L:List Assn} {rest:List Oper} {d:Nat} {ty:TypeId} {pos:String} {af:Array Edge} {gd:Option (Nat×Bool)}
theorem st_makeMapV {κ:Type} (kv:κ→Value) {t:TypeId} (hd:Nat.blt d n=true) (h:∀ g,ExL P n ops rest Q (upd f d (.map (some g))) (MapV kv g []::L)):ExL P n ops (⟨some d,.makeMap t none,ty,pos,af,none⟩::rest) Q f L:=by
 refine ExL.eff rfl hd (R:=fun v L'=>∃ g,v=.map (some g)∧L'=MapV kv g []::L) (fun F w s=>?_) ?_
 ·refine ⟨_,w.alloc (.map #[] 0),_,.inl (by simp [execOp,Instr.makeMap]),Rest.alloc (Rest.refl w) _,Sats.alloc _ s (A:=MapV kv w.heap.size []) ⟨#[],0,rfl,rfl,MapKept.stamped_empty 0⟩,w.heap.size,rfl,rfl⟩
 ·rintro v L' ⟨g,rfl,rfl⟩
  exact h g
variable {κ:Type} [DecidableEq κ] {t kt et:TypeId} [K:KeyV P kt κ]
theorem run_lookupV {i g:Nat} {m:List (κ×Value)} {k:κ} {z:Value} {w:World} {F:Frag} (ok:Bool) (ht:P.underlying t=some (.map kt et)) (hz:((P.info? et).bind (·.zero))=some z) (hi:L[i]?=some (MapV K.kv g m)) (s:Sats w L F) :
  (Instr.lookup t (.map (some g)) (K.kv k) ok).run P w=.ok (if ok then .tuple #[match mposV k m 0 with | some q=>q.2 | none=>z,.bool (mposV k m 0).isSome] else match mposV k m 0 with | some q=>q.2 | none=>z) w:=by
 obtain ⟨es,clock,hg,he,hsd⟩:=mapV_heap hi s
 have hf:=K.find w k es.toList m he
 have hc:=K.check w es.isEmpty k
 have hzv:(zeroValue et).run P w=.ok z w:=by
  cases hii:P.info? et with
  | none=>rw [hii] at hz;cases hz
  | some inf =>
   rw [hii] at hz
   have hz:inf.zero=some z:=hz
   simp [zeroValue,typeInfo,hii,hz]
 cases hp:mposV k m 0 with
 | none =>
  rw [hp] at hf
  cases ok <;> simp [Instr.lookup,run_underlying ht,MapKept.run_getObj_map hg,hc,hf,hzv]
 | some q =>
  rw [hp] at hf
  cases ok <;> simp [Instr.lookup,run_underlying ht,MapKept.run_getObj_map hg,hc,hf]
theorem vl_lookup1 (i:Nat) {x y:Operand} {g:Nat} {m:List (κ×Value)} {k:κ} {z:Value} (hx:evalF f x=.map (some g)) (hy:evalF f y=K.kv k) (hi:L[i]?=some (MapV K.kv g m)) (ht:P.underlying t=some (.map kt et)) (hz:((P.info? et).bind (·.zero))=some z) :
  Val P ⟨some d,.lookup t x y false,ty,pos,af,gd⟩ f L (match mposV k m 0 with | some q=>q.2 | none=>z):=fun F w s=>by
 have:=run_lookupV (P:=P) (k:=k) false ht hz hi s
 simp only [Bool.false_eq_true,if_false] at this
 simp [execOp,hx,hy,this]
theorem vl_lookup2 (i:Nat) {x y:Operand} {g:Nat} {m:List (κ×Value)} {k:κ} {z:Value} (hx:evalF f x=.map (some g)) (hy:evalF f y=K.kv k) (hi:L[i]?=some (MapV K.kv g m)) (ht:P.underlying t=some (.map kt et)) (hz:((P.info? et).bind (·.zero))=some z) :
  Val P ⟨some d,.lookup t x y true,ty,pos,af,gd⟩ f L (.tuple #[match mposV k m 0 with | some q=>q.2 | none=>z,.bool (mposV k m 0).isSome]):=fun F w s=>by
 have:=run_lookupV (P:=P) (k:=k) true ht hz hi s
 simp only [if_true] at this
 simp [execOp,hx,hy,this]
theorem list_set_map {α β:Type} (φ:α→β):∀ (l:List α) (i:Nat) (a:α),(l.set i a).map φ=(l.map φ).set i (φ a)
 | [],_,_=>rfl
 | _::_,0,_=>rfl
 | b::l,i+1,a=>by simp [list_set_map φ l i a]
theorem map_modify (es:Array MapEntry) (i:Nat) (key v:Value):((es.modify i fun e=>{ e with key:=key,val:=v }).toList.map fun e=>(e.key,e.val))=(es.toList.map fun e=>(e.key,e.val)).set i (key,v):=by
 apply List.ext_getElem?
 intro j
 simp only [List.getElem?_map,Array.getElem?_toList,Array.getElem?_modify,List.getElem?_set,List.length_map,Array.length_toList]
 by_cases hij:i=j
 ·subst hij
  simp only [if_true]
  by_cases hl:i<es.size
  ·simp [hl]
  ·simp [hl]
 ·simp [hij]
theorem mapV_nokey {es:Array MapEntry} {m:List (κ×Value)} {k:κ} (he:es.toList.map (fun e=>(e.key,e.val))=m.map fun p=>(K.kv p.1,p.2)) (hn:∀ p∈m,p.1≠k):∀ x∈es.toList,x.key=K.kv k→False:=fun x hx e=>by
 have h1:(x.key,x.val)∈es.toList.map (fun e=>(e.key,e.val)):=List.mem_map_of_mem hx
 rw [he] at h1
 obtain ⟨p,hp,hpe⟩:=List.mem_map.1 h1
 simp only [Prod.mk.injEq] at hpe
 exact hn p hp (K.inj _ _ (hpe.1.trans e))
theorem st_mapPut (i:Nat) {kv:κ→Value} (hkv:K.kv=kv) {x y z:Operand} {g:Nat} {m:List (κ×Value)} {k:κ} {v:Value} (hx:evalF f x=.map (some g)) (hy:evalF f y=K.kv k) (hz:evalF f z=v) (hi:L[i]?=some (MapV kv g m)) (ht:P.underlying t=some (.map kt et))
  {L':List Assn} (hL:L.set i (MapV kv g (mput k v m))=L') (h:ExL P n ops rest Q f L'):ExL P n ops (⟨none,.mapUpdate t x y z,ty,pos,af,none⟩::rest) Q f L:=by
 subst hL
 subst hkv
 refine ExL.eff rfl rfl (R:=fun _ L2=>L2=L.set i (MapV K.kv g (mput k v m))) (fun F w s=>?_) (fun v L2 e=>by subst e;exact h)
 obtain ⟨es,clock,hg,he,hsd⟩:=mapV_heap hi s
 have hf:=K.find w k es.toList m he
 have hc:=K.check w false k
 rcases mposV_spec k m 0 with ⟨hp,hnk⟩ | ⟨j,hj,hjk,hp⟩
 ·rw [hp] at hf
  have hm:mput k v m=m++[(k,v)]:=by unfold mput;rw [hp]
  refine ⟨undef,_,_,.inr ⟨?_,rfl⟩,?_,mapV_set (es':=es.push { key:=K.kv k,val:=v,born:=clock }) (clock':=clock+1) hi hg (by rw [hm];simp [he]) (MapKept.stamped_push hsd (fun x hx e=>mapV_nokey he hnk x hx e)) s,rfl⟩
  ·simp [execOp,hx,hy,hz,Instr.mapUpdate,run_underlying ht,MapKept.run_getObj_map hg,hc,hf,MapKept.run_setObj_map _ hg]
  ·exact ⟨rfl,rfl,rfl⟩
 ·rw [hp,Nat.zero_add] at hf
  have hm:mput k v m=m.set j (k,v):=by unfold mput;rw [hp];simp
  have hjl:j<es.size:=by
   have:=congrArg List.length he
   simp at this
   omega
  have hkey:(es[j]'hjl).key=K.kv k:=by
   have h2:=congrArg (fun l=>l[j]?) he
   simp only [List.getElem?_map,Array.getElem?_toList] at h2
   rw [Array.getElem?_eq_getElem hjl,List.getElem?_eq_getElem hj] at h2
   simp only [Option.map_some,Option.some.injEq,Prod.mk.injEq] at h2
   rw [h2.1,hjk]
  have hst:=K.stays w k
  refine ⟨undef,_,_,.inr ⟨?_,rfl⟩,?_,mapV_set (es':=es.modify j fun e=>{ e with key:=K.kv k,val:=v }) (clock':=clock) hi hg (by rw [hm,map_modify,he,list_set_map]) (MapKept.stamped_modify hsd j _ (fun _ _=>rfl) (fun e _ h2=>by
   rw [Array.getElem?_eq_getElem hjl,Option.some.injEq] at h2
   subst h2
   exact hkey.symm)) s,rfl⟩
  ·simp [execOp,hx,hy,hz,Instr.mapUpdate,run_underlying ht,MapKept.run_getObj_map hg,hc,hf,MapKept.run_setObj_map _ hg,hjl,hkey,hst]
  ·exact ⟨rfl,rfl,rfl⟩
end
end
section
theorem S_beq (a b:List UInt8):(S a == S b)=decide (a=b):=by
 rw [Bool.eq_iff_iff,MapKept.bytes_beq];simp
@[reducible] def kvI (n:Int):Value:=.int .i64 n
@[reducible] def kvS (l:List UInt8):Value:=.string (S l)
theorem findNowV {κ:Type} [DecidableEq κ] (kv:κ→Value) (d:TypeDesc) (hd:∀ a b:κ,Instr.sameNow d (kv a) (kv b)=some (decide (a=b))) (k:κ):∀ (es:List MapEntry) (m:List (κ×Value)) (i:Nat),es.map (fun e=>(e.key,e.val))=m.map (fun p=>(kv p.1,p.2))→Instr.findNow d (kv k) es i=some (mposV k m i)
 | [],[],i,_=>rfl
 | e::es,p::m,i,h=>by
  simp only [List.map_cons,List.cons.injEq,Prod.mk.injEq] at h
  obtain ⟨⟨h1,h2⟩,h3⟩:=h
  unfold Instr.findNow
  rw [h1,hd]
  by_cases hk:k=p.1
  ·rw [decide_eq_true hk,show mposV k (p::m) i=some (i,p.2) from if_pos hk,h2]
  ·rw [decide_eq_false hk,show mposV k (p::m) i=mposV k m (i+1) from if_neg hk]
   exact findNowV kv d hd k es m (i+1) h3
 | [],_::_,_,h=>by simp at h
 | _::_,[],_,h=>by simp at h
@[reducible] def KeyV.ofInt {P:Program} {kt:TypeId} (hu:P.underlying kt=some (.int .i64)):KeyV P kt Int where
 kv:=kvI
 inj:=fun a b h=>by simpa [kvI] using h
 check:=fun w em a=>by
  have key:∀ m,(Instr.checkKey em (m+1) kt (kvI a)).run P w=.ok () w:=fun m=>by simp [Instr.checkKey,run_underlying hu]
  exact key 9999
 stays:=fun w k=>by simp [Instr.keyThatStays,Instr.sameBits]
 find:=fun w k es m h=>by
  have:=findNowV kvI (.int .i64) (fun a b=>by simp [Instr.sameNow,kvI];rfl) k es m 0 h
  simp [Instr.findKey,run_underlying hu,this]
@[reducible] def KeyV.ofStr {P:Program} {kt:TypeId} (hu:P.underlying kt=some .string):KeyV P kt (List UInt8) where
 kv:=kvS
 inj:=fun a b h=>by simpa [kvS] using h
 check:=fun w em a=>by
  have key:∀ m,(Instr.checkKey em (m+1) kt (kvS a)).run P w=.ok () w:=fun m=>by simp [Instr.checkKey,run_underlying hu]
  exact key 9999
 stays:=fun w k=>by simp [Instr.keyThatStays,Instr.sameBits,S_beq]
 find:=fun w k es m h=>by
  have:=findNowV kvS .string (fun a b=>by
   simp only [Instr.sameNow,kvS,Option.some.injEq]
   exact S_beq a b) k es m 0 h
  simp [Instr.findKey,run_underlying hu,this]
section
variable {P:Program} {n:Nat} {ops:Array Oper} {Q:Post} {f:Nat→Value} {L:List Assn} {rest:List Oper} {d:Nat} {ty:TypeId} {pos:String} {af:Array Edge} {gd:Option (Nat×Bool)}
variable {κ:Type} [DecidableEq κ] {kt et t:TypeId} [K:KeyV P kt κ]
def mdel (k:κ) (m:List (κ×Value)):List (κ×Value):=match mposV k m 0 with | some q=>m.eraseIdx q.1 | none=>m
def lookV (k:κ) (m:List (κ×Value)) (z:Value):Value×Bool:=match mposV k m 0 with | some q=>(q.2,true) | none=>(z,false)
theorem vl_look2 (i:Nat) {x y:Operand} {g:Nat} {m:List (κ×Value)} {k:κ} {z:Value} (hx:evalF f x=.map (some g)) (hy:evalF f y=K.kv k) (hi:L[i]?=some (MapV K.kv g m)) (ht:P.underlying t=some (.map kt et)) (hz:((P.info? et).bind (·.zero))=some z) :
  Val P ⟨some d,.lookup t x y true,ty,pos,af,gd⟩ f L (.tuple #[(lookV k m z).1,.bool (lookV k m z).2]):=by
 have h:=vl_lookup2 (P:=P) (d:=d) (ty:=ty) (pos:=pos) (af:=af) (gd:=gd) i hx hy hi ht hz
 unfold lookV
 cases hp:mposV k m 0 with
 | none=>rw [hp] at h;exact h
 | some q=>rw [hp] at h;exact h
theorem vl_look1 (i:Nat) {x y:Operand} {g:Nat} {m:List (κ×Value)} {k:κ} {z:Value} (hx:evalF f x=.map (some g)) (hy:evalF f y=K.kv k) (hi:L[i]?=some (MapV K.kv g m)) (ht:P.underlying t=some (.map kt et)) (hz:((P.info? et).bind (·.zero))=some z) :
  Val P ⟨some d,.lookup t x y false,ty,pos,af,gd⟩ f L (lookV k m z).1:=by
 have h:=vl_lookup1 (P:=P) (d:=d) (ty:=ty) (pos:=pos) (af:=af) (gd:=gd) i hx hy hi ht hz
 unfold lookV
 cases hp:mposV k m 0 with
 | none=>rw [hp] at h;exact h
 | some q=>rw [hp] at h;exact h
theorem st_mapDelV (i:Nat) {kv:κ→Value} (hkv:K.kv=kv) {x y:Operand} {g:Nat} {m:List (κ×Value)} {k:κ} {ts:Array TypeId} (hx:evalF f x=.map (some g)) (hy:evalF f y=K.kv k) (hi:L[i]?=some (MapV kv g m)) (hts:ts[0]?=some t) (ht:P.underlying t=some (.map kt et))
  {L':List Assn} (hL:L.set i (MapV kv g (mdel k m))=L') (h:ExL P n ops rest Q f L'):ExL P n ops (⟨none,.call ⟨.builtin .delete,#[x,y],ts⟩,ty,pos,af,none⟩::rest) Q f L:=by
 subst hL
 subst hkv
 refine ExL.eff rfl rfl (R:=fun _ L2=>L2=L.set i (MapV K.kv g (mdel k m))) (fun F w s=>?_) (fun v L2 e=>by subst e;exact h)
 obtain ⟨es,clock,hg,he,hsd⟩:=mapV_heap hi s
 have hf:=K.find w k es.toList m he
 have hc:=K.check w es.isEmpty k
 cases hp:mposV k m 0 with
 | none =>
  rw [hp] at hf
  have hm:mdel k m=m:=by unfold mdel;rw [hp]
  refine ⟨.tuple #[],_,_,.inl ?_,?_,mapV_set (es':=es) (clock':=clock) hi hg (by rw [hm,he]) hsd s,rfl⟩
  ·simp [execOp,resolve,invoke,builtin,hx,hy,Builtin.delete_,hts,run_underlying ht,MapKept.run_getObj_map hg,hc,hf,MapKept.run_setObj_map _ hg]
  ·exact ⟨rfl,rfl,rfl⟩
 | some q =>
  rw [hp] at hf
  have hm:mdel k m=m.eraseIdx q.1:=by unfold mdel;rw [hp]
  refine ⟨.tuple #[],_,_,.inl ?_,?_,mapV_set (es':=es.eraseIdxIfInBounds q.1) (clock':=clock) hi hg (by rw [hm,Array.toList_eraseIdxIfInBounds,eraseIdx_map,he,eraseIdx_map]) (MapKept.stamped_erase hsd _) s,rfl⟩
  ·simp [execOp,resolve,invoke,builtin,hx,hy,Builtin.delete_,hts,run_underlying ht,MapKept.run_getObj_map hg,hc,hf,MapKept.run_setObj_map _ hg]
  ·exact ⟨rfl,rfl,rfl⟩
theorem st_mapIns (i:Nat) {kv:κ→Value} (hkv:K.kv=kv) {x y z:Operand} {g:Nat} {m:List (κ×Value)} {k:κ} {v:Value} (hx:evalF f x=.map (some g)) (hy:evalF f y=K.kv k) (hz:evalF f z=v) (hi:L[i]?=some (MapV kv g m)) (ht:P.underlying t=some (.map kt et))
  {L':List Assn} (hL:L.set i (MapV kv g (mput k v m))=L') (h:ExL P n ops rest Q f L'):ExL P n ops (⟨none,.insert t x y z,ty,pos,af,none⟩::rest) Q f L:=by
 subst hL
 subst hkv
 refine ExL.eff rfl rfl (R:=fun _ L2=>L2=L.set i (MapV K.kv g (mput k v m))) (fun F w s=>?_) (fun v L2 e=>by subst e;exact h)
 obtain ⟨es,clock,hg,he,hsd⟩:=mapV_heap hi s
 have hf:=K.find w k es.toList m he
 have hc:=K.check w false k
 rcases mposV_spec k m 0 with ⟨hp,hnk⟩ | ⟨j,hj,hjk,hp⟩
 ·rw [hp] at hf
  have hm:mput k v m=m++[(k,v)]:=by unfold mput;rw [hp]
  refine ⟨undef,_,_,.inr ⟨?_,rfl⟩,?_,mapV_set (es':=es.push { key:=K.kv k,val:=v,born:=clock }) (clock':=clock+1) hi hg (by rw [hm];simp [he]) (MapKept.stamped_push hsd (fun x hx e=>mapV_nokey he hnk x hx e)) s,rfl⟩
  ·simp [execOp,hx,hy,hz,Instr.mapUpdate,run_underlying ht,MapKept.run_getObj_map hg,hc,hf,MapKept.run_setObj_map _ hg]
  ·exact ⟨rfl,rfl,rfl⟩
 ·rw [hp,Nat.zero_add] at hf
  have hm:mput k v m=m.set j (k,v):=by unfold mput;rw [hp];simp
  have hjl:j<es.size:=by
   have:=congrArg List.length he
   simp at this
   omega
  have hkey:(es[j]'hjl).key=K.kv k:=by
   have h2:=congrArg (fun l=>l[j]?) he
   simp only [List.getElem?_map,Array.getElem?_toList] at h2
   rw [Array.getElem?_eq_getElem hjl,List.getElem?_eq_getElem hj] at h2
   simp only [Option.map_some,Option.some.injEq,Prod.mk.injEq] at h2
   rw [h2.1,hjk]
  have hst:=K.stays w k
  refine ⟨undef,_,_,.inr ⟨?_,rfl⟩,?_,mapV_set (es':=es.modify j fun e=>{ e with key:=K.kv k,val:=v }) (clock':=clock) hi hg (by rw [hm,map_modify,he,list_set_map]) (MapKept.stamped_modify hsd j _ (fun _ _=>rfl) (fun e _ h2=>by
   rw [Array.getElem?_eq_getElem hjl,Option.some.injEq] at h2
   subst h2
   exact hkey.symm)) s,rfl⟩
  ·simp [execOp,hx,hy,hz,Instr.mapUpdate,run_underlying ht,MapKept.run_getObj_map hg,hc,hf,MapKept.run_setObj_map _ hg,hjl,hkey,hst]
  ·exact ⟨rfl,rfl,rfl⟩
end
instance:KeyV Tryz.prog 3 Int:=KeyV.ofInt rQ
instance:KeyV Tryz.prog 9 (List UInt8):=KeyV.ofStr rQ
end
section
set_option maxRecDepth 20000 attribute [local irreducible] Ex ExL Fn thn inb rnd fin meet Tab Mix mxEnd Val Sats RdT Rd RowT Row Blk Sub Fac ResV RVal Evs subs subs3 Hid Capd
section
theorem fcount_F (n:Int) (M:List Assn):Fn Tryz.prog 241 #[.int .i64 n] M fun r L'=>r=.bool (decide (0≤n∧n≤1048576))∧L'=M:=by
 refine Fn.of_ex Tryz.func241 rfl Tryz.ntmps241 rfl ?_
 by_cases h1:0≤n
 ·by_cases h2:n≤1048576
  ·rw [decide_eq_true (show 0≤n∧n≤1048576 by omega)]
   (refine rn ?_;intros)
   (refine fr ?_)
   exact ⟨_,rB,by first | rfl | (simp;omega),rfl⟩
  ·rw [decide_eq_false (show ¬ (0≤n∧n≤1048576) by omega)]
   (refine rn ?_;intros)
   (refine fr ?_)
   exact ⟨_,rB,by first | rfl | (simp;omega),rfl⟩
 ·rw [decide_eq_false (show ¬ (0≤n∧n≤1048576) by omega)]
  (refine rn ?_;intros)
  (refine fr ?_)
  exact ⟨_,rB,by first | rfl | (simp;omega),rfl⟩
@[reducible] def shC (a b c:Bool):List Value:=[.bool a,.bool b,.bool c]
def shV (k:Int):Value:=.agg (shC (decide (fEvs k)) (decide (fUpto k)) (decide (fClk k))).toArray
def shM:List (Int×Value):=[(1,.agg (shC true false false).toArray),(2,.agg (shC false true false).toArray),(3,.agg (shC false false true).toArray),(4,.agg (shC true false false).toArray),(5,.agg (shC false false true).toArray)]
theorem shM_look (k:Int):lookV k shM (Value.agg (shC false false false).toArray)=(shV k,decide (1≤k∧k≤5)):=by
 have h:k=1∨k=2∨k=3∨k=4∨k=5∨(k≠1∧k≠2∧k≠3∧k≠4∧k≠5):=by omega
 rcases h with rfl | rfl | rfl | rfl | rfl | ⟨h1,h2,h3,h4,h5⟩
 ·rfl
 ·rfl
 ·rfl
 ·rfl
 ·rfl
 ·have hn:mposV k shM 0=none:=by simp [shM,mposV,h1,h2,h3,h4,h5]
  unfold lookV
  rw [hn]
  unfold shV
  simp only
  rw [decide_eq_false (show ¬ fEvs k by unfold fEvs;omega),decide_eq_false (show ¬ fUpto k by unfold fUpto;omega),decide_eq_false (show ¬ fClk k by unfold fClk;omega),decide_eq_false (show ¬ (1≤k∧k≤5) by omega)]
theorem fshape_F (k:Int) (M:List Assn):Fn Tryz.prog 177 #[.int .i64 k] M fun r L'=>r=.tuple #[shV k,.bool (decide (1≤k∧k≤5))]∧L'=M:=by
 refine Fn.of_ex Tryz.func177 rfl Tryz.ntmps177 rfl ?_
 (refine rn ?_;intros)
 refine st_makeMapV kvI rJ (fun gm=>?_)
 (refine rn ?_;intros)
 refine st_mapIns (kt:=3) (et:=278) 0 rfl (k:=(1:Int)) rJ rJ rJ rJ rQ rfl ?_
 (refine rn ?_;intros)
 refine st_mapIns (kt:=3) (et:=278) 0 rfl (k:=(2:Int)) rJ rJ rJ rJ rQ rfl ?_
 (refine rn ?_;intros)
 refine st_mapIns (kt:=3) (et:=278) 0 rfl (k:=(3:Int)) rJ rJ rJ rJ rQ rfl ?_
 (refine rn ?_;intros)
 refine st_mapIns (kt:=3) (et:=278) 0 rfl (k:=(4:Int)) rJ rJ rJ rJ rQ rfl ?_
 (refine rn ?_;intros)
 refine st_mapIns (kt:=3) (et:=278) 0 rfl (k:=(5:Int)) rJ rJ rJ rJ rQ rfl ?_
 (refine rn ?_;intros)
 have hl:=shM_look k
 refine ExL.val rJ rJ rJ (vl_look2 (kt:=3) (et:=278) 0 (m:=shM) (k:=k) rJ rJ rJ rQ (z:=.agg (shC false false false).toArray) rQ) ?_
 rw [hl]
 unfold shV
 exact re0
end
section
theorem fmay_F (x:Rcd) (v0:Value) (M:List Assn) (hr:RdT M v0 x.l) (o0:v0.oneCell'=true) (hl:x.l.length≤1000000000) (hs:∀ e∈x.l,e.ed.key.length≤1000∧e.ed.value.length≤1000):Fn Tryz.prog 176 #[.agg (rcC x v0).toArray] M fun v L'=>(∃ t:Bool,(t=true↔x.FMay)∧v=.bool t)∧L'=M:=by
 refine Fn.of_ex Tryz.func176 rfl Tryz.ntmps176 rfl ?_
 (refine rn ?_;(repeat (first | intro (g:Nat) | intro h)))
 refine st_callIs [] rJ Tryz.call177 rJ rJ (fshape_F x.kind _) ?_
 rintro _ _ ⟨rfl,rfl⟩
 unfold shV
 by_cases h1:1≤x.kind∧x.kind≤5
 rotate_left
 ·rw [decide_eq_false h1]
  (refine rn ?_;(repeat (first | intro (g:Nat) | intro h)))
  (refine fr ?_)
  exact ⟨_,rB,⟨false,by simp;exact fun h=>h1 h.k,rfl⟩,rfl⟩
 rw [decide_eq_true h1]
 by_cases h2:0≤x.r
 rotate_left
 ·(refine rn ?_;(repeat (first | intro (g:Nat) | intro h)))
  (refine fr ?_)
  exact ⟨_,rB,⟨false,by simp;exact fun h=>h2 h.r.1,rfl⟩,rfl⟩
 by_cases h3:x.r<5
 rotate_left
 ·(refine rn ?_;(repeat (first | intro (g:Nat) | intro h)))
  (refine fr ?_)
  exact ⟨_,rB,⟨false,by simp;exact fun h=>h3 h.r.2,rfl⟩,rfl⟩
 (refine rn ?_;(repeat (first | intro (g:Nat) | intro h)))
 refine st_callIs [] rJ Tryz.call241 rJ rJ (fcount_F x.upto _) ?_
 rintro _ _ ⟨rfl,rfl⟩
 by_cases h4:0≤x.upto∧x.upto≤1048576
 rotate_left
 ·rw [decide_eq_false h4]
  (refine rn ?_;(repeat (first | intro (g:Nat) | intro h)))
  (refine fr ?_)
  exact ⟨_,rB,⟨false,by simp;exact fun h=>h4 h.u,rfl⟩,rfl⟩
 rw [decide_eq_true h4]
 rename_i g1
 revert g
 intro g3
 refine ExL.claim2 1 [1] (fun vs L'=>(¬ fUpto x.kind→x.upto=0)∧(¬ fClk x.kind→x.c=Clk.zero)∧(¬ fEvs x.kind→x.l=[])∧vs=[.pointer (some ⟨g1,0,none⟩)]∧L'=Blk g1 192 (rcC x v0)::M) ?_ ?_
 ·rintro vs gk L' ⟨hnu,hnc,hne,rfl,rfl⟩
  (refine rn ?_;intros)
  refine Ex.loop [65] (fun q vs L'=>∃ i:Nat,i≤5∧q=5 - i∧(∀ j,j<i→0≤x.c.get j∧x.c.get j≤1048576)∧vs=[.int .i64 i]∧L'=Blk g1 192 (rcC x v0)::M) 5 ⟨0,by omega,rfl,fun j hj=>by omega,rfl,rfl⟩ ?_
  rintro q vs g0 L1 ⟨i,hi,rfl,hcl,rfl,rfl⟩
  refine Ex.keep [1,64,65] rG (fun gk=>?_)
  by_cases hlt:i<5
  ·(refine rn ?_;intros)
   refine ExL.val rJ rJ rJ (vl_indexC rJ rJ rJ rJ rJ rM rM) ?_
   rw [show (⟨x.c.a,x.c.b,x.c.c,x.c.d,x.c.e⟩:Clk).get (i:Int).toNat=x.c.get i from rfl]
   (refine rn ?_;intros)
   refine st_callIs [] rJ Tryz.call241 rJ rJ (fcount_F (x.c.get i) _) ?_
   rintro _ _ ⟨rfl,rfl⟩
   by_cases hc:0≤x.c.get i∧x.c.get i≤1048576
   ·rw [decide_eq_true hc]
    (refine rn ?_;intros)
    exact rnd_n ⟨5 - (i+1),_,by omega,rB,i+1,by omega,rfl,fun j hj=>by
     rcases Nat.lt_or_ge j i with h | h
     ·exact hcl j h
     ·rw [show j=i by omega];exact hc,lcons (vint rM) rfl,rfl⟩
   ·rw [decide_eq_false hc]
    (refine rn ?_;intros)
    (refine fr ?_)
    exact ⟨_,rB,⟨false,by simp;exact fun h=>hc (h.c i hlt),rfl⟩,rfl⟩
  ·have h5:i=5:=by omega
   subst h5
   clear hi hlt
   have hca:∀ i,i<5→0≤x.c.get i∧x.c.get i≤1048576:=hcl
   clear hcl
   by_cases h5:x.l.length≤20
   rotate_left
   ·(refine rn ?_;intros)
    (refine fr ?_)
    exact ⟨_,rB,⟨false,by simp;exact fun h=>h5 h.m,rfl⟩,rfl⟩
   have fin:(x.kind=1→x.l≠[])→(∀ e∈x.l,e.May)→(x.kind=1→∀ e∈x.l,e.r=x.r)→x.FMay:=fun a b c=>⟨h1,⟨h2,h3⟩,h4,hnu,hnc,hne,hca,h5,a,b,c⟩
   by_cases hk:x.kind=1
   ·by_cases h0:x.l.length=0
    ·(refine rn ?_;intros)
     (refine fr ?_)
     exact ⟨_,rB,⟨false,by simp;exact fun h=>h.p hk (List.eq_nil_of_length_eq_zero h0),rfl⟩,rfl⟩
    ·(refine rn ?_;intros)
     refine Ex.loop [90] (fun q vs L'=>∃ i:Nat,i≤x.l.length∧q=x.l.length - i∧(∀ j (hj:j<x.l.length),j<i→(x.l[j]'hj).May∧(x.l[j]'hj).r=x.r)∧vs=[.int .i64 i]∧L'=Blk g1 192 (rcC x v0)::M) x.l.length ⟨0,by omega,rfl,fun j _ hj=>by omega,rfl,rfl⟩ ?_
     rintro q vs g0 L1 ⟨i,hi,rfl,hcl,rfl,rfl⟩
     refine Ex.keep [1,88,89,90] rG (fun gk=>?_)
     by_cases hlt:i<x.l.length
     ·have hse:=hs _ (List.getElem_mem hlt)
      (refine rn ?_;intros)
      refine st_callIs [] rJ Tryz.call236 rJ rJ (evMay_F (x.l[i]'hlt) _ rM rM) ?_
      rintro _ _ ⟨⟨y,hy,rfl⟩,rfl⟩
      by_cases hy0:y=0
      ·subst hy0
       have hm:=hy.1 rfl
       by_cases hown:(x.l[i]'hlt).r=x.r
       ·(refine rn ?_;intros)
        exact rnd_n ⟨x.l.length - (i+1),_,by omega,rB,i+1,by omega,rfl,fun j hj hji=>by
         rcases Nat.lt_or_ge j i with h | h
         ·exact hcl j hj h
         ·have:j=i:=by omega
          subst this;exact ⟨hm,hown⟩,lcons (vint rM) rfl,rfl⟩
       ·(refine rn ?_;intros)
        (refine fr ?_)
        exact ⟨_,rB,⟨false,by simp;exact fun h=>hown (h.own hk _ (List.getElem_mem hlt)),rfl⟩,rfl⟩
      ·(refine rn ?_;intros)
       (refine fr ?_)
       exact ⟨_,rB,⟨false,by simp;exact fun h=>hy0 (hy.2 (h.l _ (List.getElem_mem hlt))),rfl⟩,rfl⟩
     ·(refine rn ?_;intros)
      (refine fr ?_)
      have hall:∀ e∈x.l,e.May∧e.r=x.r:=fun e he=>by
       obtain ⟨j,hj,rfl⟩:=List.getElem_of_mem he
       exact hcl j hj rM
      exact ⟨_,rB,⟨true,by simp;exact fin (fun _ h=>h0 (by rw [h];rfl)) (fun e he=>(hall e he).1) (fun _ e he=>(hall e he).2),rfl⟩,rfl⟩
   ·(refine rn ?_;intros)
    refine Ex.loop [90] (fun q vs L'=>∃ i:Nat,i≤x.l.length∧q=x.l.length - i∧(∀ j (hj:j<x.l.length),j<i→(x.l[j]'hj).May)∧vs=[.int .i64 i]∧L'=Blk g1 192 (rcC x v0)::M) x.l.length ⟨0,by omega,rfl,fun j _ hj=>by omega,rfl,rfl⟩ ?_
    rintro q vs g0 L1 ⟨i,hi,rfl,hcl,rfl,rfl⟩
    refine Ex.keep [1,88,89,90] rG (fun gk=>?_)
    by_cases hlt:i<x.l.length
    ·have hse:=hs _ (List.getElem_mem hlt)
     (refine rn ?_;intros)
     refine st_callIs [] rJ Tryz.call236 rJ rJ (evMay_F (x.l[i]'hlt) _ rM rM) ?_
     rintro _ _ ⟨⟨y,hy,rfl⟩,rfl⟩
     by_cases hy0:y=0
     ·subst hy0
      have hm:=hy.1 rfl
      (refine rn ?_;intros)
      exact rnd_n ⟨x.l.length - (i+1),_,by omega,rB,i+1,by omega,rfl,fun j hj hji=>by
       rcases Nat.lt_or_ge j i with h | h
       ·exact hcl j hj h
       ·have:j=i:=by omega
        subst this;exact hm,lcons (vint rM) rfl,rfl⟩
     ·(refine rn ?_;intros)
      (refine fr ?_)
      exact ⟨_,rB,⟨false,by simp;exact fun h=>hy0 (hy.2 (h.l _ (List.getElem_mem hlt))),rfl⟩,rfl⟩
    ·(refine rn ?_;intros)
     (refine fr ?_)
     have hall:∀ e∈x.l,e.May:=fun e he=>by
      obtain ⟨j,hj,rfl⟩:=List.getElem_of_mem he
      exact hcl j hj rM
     exact ⟨_,rB,⟨true,by simp;exact fin (fun h=>absurd h hk) hall (fun h=>absurd h hk),rfl⟩,rfl⟩
 intro HC
 by_cases a:¬ fUpto x.kind∧x.upto≠0
 ·rw [decide_eq_false a.1]
  have a2:=a.2
  (refine rn ?_;intros)
  (refine fr ?_)
  exact ⟨_,rB,⟨false,by simp;exact fun h=>a2 (h.nu a.1),rfl⟩,rfl⟩
 have hnu:¬ fUpto x.kind→x.upto=0:=fun h=>Classical.byContradiction fun h2=>a ⟨h,h2⟩
 by_cases u:fUpto x.kind
 ·rw [decide_eq_true u]
  by_cases c:fClk x.kind
  ·have hnc:¬ fClk x.kind→x.c=Clk.zero:=fun h=>absurd c h
   rw [decide_eq_true c]
   by_cases e:fEvs x.kind
   ·have hne:¬ fEvs x.kind→x.l=[]:=fun h=>absurd e h
    rw [decide_eq_true e]
    (refine rn ?_;intros)
    exact HC _ _ ⟨_,rB,hnu,hnc,hne,lcons rfl rfl,rfl⟩
   rw [decide_eq_false e]
   by_cases e2:x.l.length=0
   ·have hne:¬ fEvs x.kind→x.l=[]:=fun h=>List.eq_nil_of_length_eq_zero e2
    (refine rn ?_;intros)
    exact HC _ _ ⟨_,rB,hnu,hnc,hne,lcons rfl rfl,rfl⟩
   ·(refine rn ?_;intros)
    (refine fr ?_)
    exact ⟨_,rB,⟨false,by simp;exact fun h=>e2 (by rw [h.ne e];rfl),rfl⟩,rfl⟩
  rw [decide_eq_false c]
  by_cases c2:x.c=Clk.zero
  ·have hnc:¬ fClk x.kind→x.c=Clk.zero:=fun _=>c2
   by_cases e:fEvs x.kind
   ·have hne:¬ fEvs x.kind→x.l=[]:=fun h=>absurd e h
    rw [decide_eq_true e]
    (refine rn ?_;intros);refine ExL.val rJ rJ rJ (vl_neqT_f (a:=x.c) (b:=Clk.zero) rJ rJ c2) ?_;(refine rn ?_;intros)
    exact HC _ _ ⟨_,rB,hnu,hnc,hne,lcons rfl rfl,rfl⟩
   rw [decide_eq_false e]
   by_cases e2:x.l.length=0
   ·have hne:¬ fEvs x.kind→x.l=[]:=fun h=>List.eq_nil_of_length_eq_zero e2
    (refine rn ?_;intros);refine ExL.val rJ rJ rJ (vl_neqT_f (a:=x.c) (b:=Clk.zero) rJ rJ c2) ?_;(refine rn ?_;intros)
    exact HC _ _ ⟨_,rB,hnu,hnc,hne,lcons rfl rfl,rfl⟩
   ·(refine rn ?_;intros);refine ExL.val rJ rJ rJ (vl_neqT_f (a:=x.c) (b:=Clk.zero) rJ rJ c2) ?_;(refine rn ?_;intros)
    (refine fr ?_)
    exact ⟨_,rB,⟨false,by simp;exact fun h=>e2 (by rw [h.ne e];rfl),rfl⟩,rfl⟩
  ·(refine rn ?_;intros);refine ExL.val rJ rJ rJ (vl_neqT_t (a:=x.c) (b:=Clk.zero) rJ rJ c2) ?_;(refine rn ?_;intros)
   (refine fr ?_)
   exact ⟨_,rB,⟨false,by simp;exact fun h=>c2 (h.nc c),rfl⟩,rfl⟩
 ·rw [decide_eq_false u]
  have u0:=hnu u
  by_cases c:fClk x.kind
  ·have hnc:¬ fClk x.kind→x.c=Clk.zero:=fun h=>absurd c h
   rw [decide_eq_true c]
   by_cases e:fEvs x.kind
   ·have hne:¬ fEvs x.kind→x.l=[]:=fun h=>absurd e h
    rw [decide_eq_true e]
    (refine rn ?_;intros)
    exact HC _ _ ⟨_,rB,hnu,hnc,hne,lcons rfl rfl,rfl⟩
   rw [decide_eq_false e]
   by_cases e2:x.l.length=0
   ·have hne:¬ fEvs x.kind→x.l=[]:=fun h=>List.eq_nil_of_length_eq_zero e2
    (refine rn ?_;intros)
    exact HC _ _ ⟨_,rB,hnu,hnc,hne,lcons rfl rfl,rfl⟩
   ·(refine rn ?_;intros)
    (refine fr ?_)
    exact ⟨_,rB,⟨false,by simp;exact fun h=>e2 (by rw [h.ne e];rfl),rfl⟩,rfl⟩
  rw [decide_eq_false c]
  by_cases c2:x.c=Clk.zero
  ·have hnc:¬ fClk x.kind→x.c=Clk.zero:=fun _=>c2
   by_cases e:fEvs x.kind
   ·have hne:¬ fEvs x.kind→x.l=[]:=fun h=>absurd e h
    rw [decide_eq_true e]
    (refine rn ?_;intros);refine ExL.val rJ rJ rJ (vl_neqT_f (a:=x.c) (b:=Clk.zero) rJ rJ c2) ?_;(refine rn ?_;intros)
    exact HC _ _ ⟨_,rB,hnu,hnc,hne,lcons rfl rfl,rfl⟩
   rw [decide_eq_false e]
   by_cases e2:x.l.length=0
   ·have hne:¬ fEvs x.kind→x.l=[]:=fun h=>List.eq_nil_of_length_eq_zero e2
    (refine rn ?_;intros);refine ExL.val rJ rJ rJ (vl_neqT_f (a:=x.c) (b:=Clk.zero) rJ rJ c2) ?_;(refine rn ?_;intros)
    exact HC _ _ ⟨_,rB,hnu,hnc,hne,lcons rfl rfl,rfl⟩
   ·(refine rn ?_;intros);refine ExL.val rJ rJ rJ (vl_neqT_f (a:=x.c) (b:=Clk.zero) rJ rJ c2) ?_;(refine rn ?_;intros)
    (refine fr ?_)
    exact ⟨_,rB,⟨false,by simp;exact fun h=>e2 (by rw [h.ne e];rfl),rfl⟩,rfl⟩
  ·(refine rn ?_;intros);refine ExL.val rJ rJ rJ (vl_neqT_t (a:=x.c) (b:=Clk.zero) rJ rJ c2) ?_;(refine rn ?_;intros)
   (refine fr ?_)
   exact ⟨_,rB,⟨false,by simp;exact fun h=>c2 (h.nc c),rfl⟩,rfl⟩
end
section
theorem fput_F (x:Rcd) (v0:Value) (M:List Assn) (hr:RdT M v0 x.l) (o0:v0.oneCell'=true) (hl:x.l.length≤1000000000) (hs:∀ e∈x.l,e.ed.key.length≤1000∧e.ed.value.length≤1000) :
  Fn Tryz.prog 109 #[.agg (rcC x v0).toArray] M fun r L'=>(¬ x.FMay∧r=.tuple #[.slice none 0 0,.int .i64 1]∧L'=M)∨(x.FMay∧∃ v,v.oneCell'=true∧r=.tuple #[v,.int .i64 0]∧L'=Bys v x.fbytes::M):=by
 refine Fn.of_ex Tryz.func109 rfl Tryz.ntmps109 rfl ?_
 (refine rn ?_;(repeat (first | intro (g:Nat) | intro (v:Value) | intro (o:O1 _) | intro (cs:List Value) | intro (hcs:_=List.set _ _ _) | intro (zs:List _) | intro h)))
 refine st_callIs [] rJ Tryz.call176 rJ rJ (fmay_F x v0 _ rD o0 hl hs) ?_
 rintro _ _ ⟨⟨t,ht,rfl⟩,rfl⟩
 by_cases hm:x.FMay
 rotate_left
 ·have htf:t=false:=by cases t with | false=>rfl | true=>exact absurd (ht.1 rfl) hm
  subst htf
  (refine rn ?_;(repeat (first | intro (g:Nat) | intro (v:Value) | intro (o:O1 _) | intro (cs:List Value) | intro (hcs:_=List.set _ _ _) | intro (zs:List _) | intro h)))
  (refine fr ?_)
  exact ⟨_,rB,.inl ⟨hm,rfl,rfl⟩⟩
 have htt:t=true:=ht.2 hm
 subst htt
 clear ht
 have hk:=hm.k
 have hrr:=hm.r
 have hu:=hm.u
 have hml:=hm.m
 have hc:=hm.c
 (refine rn ?_;(repeat (first | intro (g:Nat) | intro (v:Value) | intro (o:O1 _) | intro (cs:List Value) | intro (hcs:_=List.set _ _ _) | intro (zs:List _) | intro h)))
 refine st_callIs [] rJ Tryz.call177 rJ rJ (fshape_F x.kind _) ?_
 rintro _ _ ⟨rfl,rfl⟩
 unfold shV
 revert g
 intro g1
 have hhl:x.bHead.length=2:=rfl
 have hul:=vB_len3 (n:=x.upto.toNat) rM
 have hbu:x.fBUpto.length≤4:=by
  unfold Rcd.fBUpto
  split
  ·exact hul
  ·simp
 have hca:=clkA_len x.c hc
 have hbl:=x.fbody_len hm
 have hbe:x.fBEvs.length≤1300:=by
  have:x.fbody.length=x.bHead.length+x.fBEvs.length+x.fBUpto.length+x.fBClk.length:=by
   unfold Rcd.fbody;simp only [List.length_append]
  omega
 refine ExL.claim 2 [1,4,6] (fun vs L'=>∃ (v6:Value) (g3:Nat),v6.oneCell'=true∧vs=[.pointer (some ⟨g1,0,none⟩),.pointer (some ⟨g3,0,none⟩),v6]∧L'=Bys v6 (x.bHead++x.fBEvs)::Blk g3 278 (shC (decide (fEvs x.kind)) (decide (fUpto x.kind)) (decide (fClk x.kind)))::Blk g1 192 (rcC x v0)::M) ?_ ?_
 ·rintro vs gk L' ⟨v6,g3,o6,rfl,rfl⟩
  refine Ex.claim 1 [1,4,6] (fun vs L'=>∃ v6:Value,v6.oneCell'=true∧vs=[.pointer (some ⟨g1,0,none⟩),.pointer (some ⟨g3,0,none⟩),v6]∧L'=Bys v6 (x.bHead++x.fBEvs++x.fBUpto)::Blk g3 278 (shC (decide (fEvs x.kind)) (decide (fUpto x.kind)) (decide (fClk x.kind)))::Blk g1 192 (rcC x v0)::M) ?_ ?_
  ·rintro vs gk L' ⟨v6,o6,rfl,rfl⟩
   refine Ex.claim 1 [6] (fun vs L'=>∃ v6:Value,v6.oneCell'=true∧vs=[v6]∧L'=Bys v6 x.fbody::M) ?_ ?_
   ·rintro vs gk L' ⟨v6,o6,rfl,rfl⟩
    have hv3:=vB_len3 (n:=x.fbody.length) rM
    (refine rn ?_;(repeat (first | intro (g:Nat) | intro (v:Value) | intro (o:O1 _) | intro (cs:List Value) | intro (hcs:_=List.set _ _ _) | intro (zs:List _) | intro h)))
    refine st_callIs [] rJ Tryz.call179 rJ rJ (vput_I x.fbody.length _ rM) ?_
    rintro v1 _ ⟨o1,rfl⟩
    rw [Int.toNat_natCast]
    (refine rn ?_;(repeat (first | intro (g:Nat) | intro (v:Value) | intro (o:O1 _) | intro (cs:List Value) | intro (hcs:_=List.set _ _ _) | intro (zs:List _) | intro h)))
    refine st_callIs [] rJ Tryz.call180 rJ rJ (cseal_F v (vB x.fbody.length++x.fbody) _ rD (by rw [List.length_append];omega)) ?_
    rintro v9 _ ⟨o9,rfl⟩
    (refine rn ?_;(repeat (first | intro (g:Nat) | intro (v:Value) | intro (o:O1 _) | intro (cs:List Value) | intro (hcs:_=List.set _ _ _) | intro (zs:List _) | intro h)))
    (refine fr ?_)
    exact ⟨_,rB,.inr ⟨hm,v9,o9,rfl,rfl⟩⟩
   intro HC
   by_cases c:fClk x.kind
   ·rw [decide_eq_true c]
    have e:x.fBClk=clkA x.c 5:=if_pos c
    (refine rn ?_;(repeat (first | intro (g:Nat) | intro (v:Value) | intro (o:O1 _) | intro (cs:List Value) | intro (hcs:_=List.set _ _ _) | intro (zs:List _) | intro h)))
    refine Ex.loop [6,68] (fun q vs L'=>∃ (i:Nat) (v:Value),i≤5∧q=5 - i∧v.oneCell'=true∧vs=[v,.int .i64 i]∧L'=Bys v (x.bHead++x.fBEvs++x.fBUpto++clkA x.c i)::Blk g3 278 (shC (decide (fEvs x.kind)) (decide (fUpto x.kind)) true)::Blk g1 192 (rcC x v0)::M) 5 ⟨0,v6,by omega,rfl,o6,rfl,by simp [clkA]⟩ ?_
    rintro q vs g0 L1 ⟨i,v2,hi,rfl,o2,rfl,rfl⟩
    refine Ex.keep [6,67,68] rG (fun gk=>?_)
    by_cases hlt:i<5
    ·have hci:=hc i hlt
     have hcs:=clkA_succ x.c i
     have hal:=hca i hi
     have hc3:=vB_len3 (n:=(x.c.get i).toNat) rM
     (refine rn ?_;(repeat (first | intro (g:Nat) | intro (v:Value) | intro (o:O1 _) | intro (cs:List Value) | intro (hcs:_=List.set _ _ _) | intro (zs:List _) | intro h)))
     refine ExL.val rJ rJ rJ (vl_indexC rJ rJ rJ rJ rJ rM rM) ?_
     rw [show (⟨x.c.a,x.c.b,x.c.c,x.c.d,x.c.e⟩:Clk).get (i:Int).toNat=x.c.get i from rfl]
     (refine rn ?_;(repeat (first | intro (g:Nat) | intro (v:Value) | intro (o:O1 _) | intro (cs:List Value) | intro (hcs:_=List.set _ _ _) | intro (zs:List _) | intro h)))
     refine st_callIs [] rJ Tryz.call179 rJ rJ (vput_I (x.c.get i) _ rM) ?_
     rintro v1 _ ⟨o1,rfl⟩
     (refine rn ?_;(repeat (first | intro (g:Nat) | intro (v:Value) | intro (o:O1 _) | intro (cs:List Value) | intro (hcs:_=List.set _ _ _) | intro (zs:List _) | intro h)))
     rw [show x.bHead++x.fBEvs++x.fBUpto++clkA x.c i++vB (x.c.get i).toNat=x.bHead++x.fBEvs++x.fBUpto++clkA x.c (i+1) by rw [hcs,List.append_assoc (x.bHead++x.fBEvs++x.fBUpto)]]
     exact rnd_n ⟨5 - (i+1),_,by omega,rB,i+1,v,by omega,rfl,o,lcons rfl (lcons (vint rM) rfl),rfl⟩
    ·have h5:i=5:=by omega
     subst h5
     (refine rn ?_;(repeat (first | intro (g:Nat) | intro (v:Value) | intro (o:O1 _) | intro (cs:List Value) | intro (hcs:_=List.set _ _ _) | intro (zs:List _) | intro h)))
     rw [← e]
     exact HC _ _ ⟨_,rB,v2,o2,lcons rfl rfl,rfl⟩
   ·rw [decide_eq_false c]
    (refine rn ?_;(repeat (first | intro (g:Nat) | intro (v:Value) | intro (o:O1 _) | intro (cs:List Value) | intro (hcs:_=List.set _ _ _) | intro (zs:List _) | intro h)))
    have e:x.fbody=x.bHead++x.fBEvs++x.fBUpto:=by unfold Rcd.fbody;rw [show x.fBClk=[] from if_neg c,List.append_nil]
    simp only [e] at HC
    exact HC _ _ ⟨_,rB,v6,o6,lcons rfl rfl,rfl⟩
  intro HC
  by_cases u:fUpto x.kind
  ·rw [decide_eq_true u]
   have e:x.fBUpto=vB x.upto.toNat:=if_pos u
   (refine rn ?_;(repeat (first | intro (g:Nat) | intro (v:Value) | intro (o:O1 _) | intro (cs:List Value) | intro (hcs:_=List.set _ _ _) | intro (zs:List _) | intro h)))
   refine st_callIs [] rJ Tryz.call179 rJ rJ (vput_I x.upto _ rM) ?_
   rintro v1 _ ⟨o1,rfl⟩
   (refine rn ?_;(repeat (first | intro (g:Nat) | intro (v:Value) | intro (o:O1 _) | intro (cs:List Value) | intro (hcs:_=List.set _ _ _) | intro (zs:List _) | intro h)))
   simp only [e,decide_eq_true u] at HC
   exact HC _ _ ⟨_,rB,v,o,lcons rfl (lcons rfl (lcons rfl rfl)),rfl⟩
  ·rw [decide_eq_false u]
   (refine rn ?_;(repeat (first | intro (g:Nat) | intro (v:Value) | intro (o:O1 _) | intro (cs:List Value) | intro (hcs:_=List.set _ _ _) | intro (zs:List _) | intro h)))
   have e:x.fBUpto=[]:=if_neg u
   simp only [e,List.append_nil,decide_eq_false u] at HC
   exact HC _ _ ⟨_,rB,v6,o6,lcons rfl (lcons rfl (lcons rfl rfl)),rfl⟩
 intro HC
 by_cases e:fEvs x.kind
 ·rw [decide_eq_true e]
  have he:x.fBEvs=UInt8.ofNat x.l.length::evsB x.l:=if_pos e
  (refine rn ?_;(repeat (first | intro (g:Nat) | intro (v:Value) | intro (o:O1 _) | intro (cs:List Value) | intro (hcs:_=List.set _ _ _) | intro (zs:List _) | intro h)))
  rename_i g3 g4
  obtain ⟨P,hP⟩:∃ P,P=x.bHead++[UInt8.ofNat x.l.length]:=⟨_,rfl⟩
  have hPl:P.length=3:=by rw [hP];rfl
  rw [show [UInt8.ofNat x.kind.toNat,UInt8.ofNat x.r.toNat]++[UInt8.ofNat (x.l.length:Int).toNat]=P from hP.symm]
  refine Ex.sub (L':=Bys v P::Blk g3 278 (shC true (decide (fUpto x.kind)) (decide (fClk x.kind)))::Blk g1 192 (rcC x v0)::M) ?_ rB
  refine Ex.loop [6,41] (fun q vs L'=>∃ (i:Nat) (v:Value),i≤x.l.length∧q=x.l.length - i∧v.oneCell'=true∧vs=[v,.int .i64 i]∧L'=Bys v (P++evsB (x.l.take i))::Blk g3 278 (shC true (decide (fUpto x.kind)) (decide (fClk x.kind)))::Blk g1 192 (rcC x v0)::M) x.l.length ⟨0,v,by omega,rfl,o,rfl,by simp [evsB]⟩ ?_
  rintro q vs g0 L1 ⟨i,v2,hi,rfl,o2,rfl,rfl⟩
  refine Ex.keep [1,4,6,39,40,41] rG (fun gk=>?_)
  by_cases hlt:i<x.l.length
  ·have hse:=hs _ (List.getElem_mem hlt)
   have hme:=hm.l _ (List.getElem_mem hlt)
   have hbe:=(Ev.bytes_len hme).2
   have hel:(evsB (x.l.take i)).length≤60 * i:=by
    have:=evsB_len (x.l.take i) (fun e he=>hm.l e (List.mem_of_mem_take he))
    rw [List.length_take] at this
    omega
   have hes:evsB (x.l.take (i+1))=evsB (x.l.take i)++(x.l[i]'hlt).bytes:=by
    rw [List.take_succ_eq_append_getElem hlt,evsB_app]
    simp [evsB]
   (refine rn ?_;(repeat (first | intro (v:Value) | intro (o:O1 _) | intro h)))
   refine st_callIs [] rJ Tryz.call178 rJ rJ (eput_F (x.l[i]'hlt) _ rM rM) ?_
   rintro _ _ (⟨hno,_,_⟩ | ⟨hye,v3,o3,rfl,rfl⟩)
   ·exact absurd hme hno
   (refine rn ?_;(repeat (first | intro (v:Value) | intro (o:O1 _) | intro h)))
   rw [List.append_assoc,← hes]
   exact rnd_n ⟨x.l.length - (i+1),_,by omega,rB,i+1,v,by omega,rfl,o,lcons rfl (lcons (vint rM) rfl),rfl⟩
  ·have h5:i=x.l.length:=by omega
   subst h5
   have hb:P++evsB (x.l.take x.l.length)=x.bHead++x.fBEvs:=by
    rw [List.take_length,hP,he,List.append_assoc]
    rfl
   rw [hb]
   (refine rn ?_;intros)
   simp only [decide_eq_true e] at HC
   exact HC _ _ ⟨_,rB,v2,g3,o2,lcons rfl (lcons rfl (lcons rfl rfl)),rfl⟩
 ·rw [decide_eq_false e]
  have he:x.fBEvs=[]:=if_neg e
  (refine rn ?_;intros)
  simp only [he,List.append_nil,decide_eq_false e] at HC
  exact HC _ _ ⟨_,rB,_,_,rfl,lcons rfl (lcons rfl (lcons rfl rfl)),rfl⟩
end
section
theorem fnumber_F (v0:Value) (b:List UInt8) (M:List Assn) (hr:RdT M v0 b) (hb:b.length≤1000000000):Fn Tryz.prog 251 #[v0] M
  fun r L'=>(rNum b=none∧r=.tuple #[.int .i64 0,.int .i64 0,.bool false]∧L'=M)∨∃ (n:Int) (k:Nat),rNum b=some (n,b.drop k)∧k≤b.length∧0≤n∧n≤1048576∧r=.tuple #[.int .i64 n,.int .i64 k,.bool true]∧L'=M:=by
 refine Fn.of_ex Tryz.func251 rfl Tryz.ntmps251 rfl ?_
 (refine rn ?_;intros)
 refine st_callIs [] rJ Tryz.call247 rJ rJ (vtake_F _ b _ rD hb) ?_
 rintro _ _ ⟨rfl,rfl⟩
 have hsp:=vT_spec b 0 0
 cases hv:vTake b with
 | error e =>
  have hv':vT 0 0 b=.error e:=hv
  rw [hv'] at hsp
  have he:e=2∨e=3:=hsp
  have hN:rNum b=none:=by unfold rNum;rw [hv]
  unfold vtV
  simp only
  (refine rn ?_;intros)
  (refine fr ?_)
  exact ⟨_,rB,.inl ⟨hN,rfl,rfl⟩⟩
 | ok nk =>
  obtain ⟨n,k⟩:=nk
  have hv':vT 0 0 b=.ok (n,k):=hv
  rw [hv'] at hsp
  have hkl:0<k∧k≤0+b.length:=hsp
  unfold vtV
  simp only
  by_cases hn:1048576<(n:Int)
  ·have hN:rNum b=none:=by unfold rNum;rw [hv];simp only;rw [if_pos rM]
   (refine rn ?_;intros)
   (refine fr ?_)
   exact ⟨_,rB,.inl ⟨hN,rfl,rfl⟩⟩
  ·have hN:rNum b=some ((n:Int),b.drop k):=by unfold rNum;rw [hv];simp only;rw [if_neg rM]
   (refine rn ?_;intros)
   (refine fr ?_)
   exact ⟨_,rB,.inr ⟨n,k,hN,by omega,by omega,by omega,rfl,rfl⟩⟩
theorem fevents_F (v0:Value) (b:List UInt8) (M:List Assn) (hr:RdT M v0 b) (o0:v0.oneCell'=true) (hb:b.length≤1000000000):Fn Tryz.prog 250 #[v0] M
  fun r L'=>(fList b=none∧r=.tuple #[.slice none 0 0,.bool false]∧L'=M)∨∃ x u,fList b=some x∧u.oneCell'=true∧r=.tuple #[u,.bool true]∧L'=Evs_ u x::M:=by
 refine Fn.of_ex Tryz.func250 rfl Tryz.ntmps250 rfl ?_
 rcases b with _ | ⟨c,q⟩
 ·(refine rn ?_;(repeat (first | intro (v:Value) | intro (o:O1 _) | intro h)))
  (refine fr ?_)
  exact ⟨_,rB,.inl ⟨rfl,rfl,rfl⟩⟩
 have hL:fList (c::q)=(rEvsN c.toNat q).map Prod.fst:=rfl
 rw [hL]
 have hcn:=c.toNat_lt
 simp only [List.length_cons] at hb
 obtain ⟨m,hm⟩:∃ m,m=c.toNat:=⟨_,rfl⟩
 (refine rn ?_;(repeat (first | intro (v:Value) | intro (o:O1 _) | intro h)))
 have hq:RdT M (subs v0 1 (q.length+1) 1) q:=RdT.off hr (by simp) rfl rJ
 have oq:(subs v0 1 (q.length+1) 1).oneCell'=true:=subs_one o0
 rw [← hm]
 refine Ex.sub ?_ (Sub.empty (α:=Ev) none 80 M)
 refine Ex.loop [0,4,19] (fun k vs L'=>∃ (i:Nat) (l:List Ev) (q':List UInt8) (u' v':Value),i≤m∧k=m - i∧rEvsN i q=some (l,q')∧u'.oneCell'=true∧v'.oneCell'=true∧RdT M u' q'∧vs=[u',v',.int .i64 i]∧L'=Evs_ v' l::M) m ⟨0,[],q,_,_,by omega,by omega,rfl,oq,rfl,hq,rfl,rfl⟩ ?_
 rintro k vs g0 L1 ⟨i,l,q',u',v',hi,rfl,hE,ou',ov',hu',rfl,rfl⟩
 refine Ex.keep [0,4,18,19] rG (fun gk=>?_)
 have hlen:=rEvsN_len i q hE
 by_cases hlt:i<m
 ·have hS:=rEvsN_snoc i q
  rw [hE] at hS
  simp only at hS
  (refine rn ?_;(repeat (first | intro (v:Value) | intro (o:O1 _) | intro h)))
  refine st_callIs [] rJ Tryz.call290 rJ rJ (etake_F _ q' _ rD ou' rM) ?_
  rintro _ _ ⟨rfl,rfl⟩
  have hus:=evTake_used q'
  by_cases he:(evTake q').2.2=0
  ·rw [if_pos he] at hS
   (refine rn ?_;(repeat (first | intro (v:Value) | intro (o:O1 _) | intro h)))
   exact rnd_n ⟨m - (i+1),Evs_ v (l++[(evTake q').1])::M,by omega,rB,i+1,_,_,_,v,by omega,rfl,hS,subs_one ou',o,RdT.off hu' rM rfl rJ,lcons rfl (lcons rfl (lcons (vint rM) rfl)),rfl⟩
  ·rw [if_neg he] at hS
   have hNn:rEvsN m q=none:=by
    have:=rEvsN_none (i+1) (m - (i+1)) q hS
    rwa [show i+1+(m - (i+1))=m by omega] at this
   (refine rn ?_;intros)
   (refine fr ?_)
   exact ⟨_,rB,.inl ⟨by rw [hNn];rfl,rfl,rfl⟩⟩
 ·have him:i=m:=by omega
  subst him
  (refine rn ?_;intros)
  (refine fr ?_)
  exact ⟨_,rB,.inr ⟨l,v',by rw [hE];rfl,ov',rfl,rfl⟩⟩
end
section
theorem frRead_cons (k r:UInt8) (b q:List UInt8) (n u:Nat) (hv:vTake b=.ok (n,u)) (hd:b.drop u=k::r::q):frRead b=if 1≤(k.toNat:Int)∧(k.toNat:Int)≤5 then
    match (if fEvs k.toNat then fList q else some []) with
    | none=>none
    | some l=>match (if fUpto k.toNat then rNum q else some (0,q)) with
     | none=>none
     | some (u,_)=>match (if fClk k.toNat then rClkN 5 q else some (Clk.zero,q)) with
      | none=>none
      | some (c,_)=>some ⟨k.toNat,r.toNat,u,c,l⟩
   else none:=by
 unfold frRead
 rw [hv]
 simp only
 rw [hd]
 rfl
def fMid (b q:List UInt8) (k r:UInt8) (q0:Value) (M:List Assn) (ok c:Bool) (y:Rcd) (u u0:Value) (X:List Assn):Prop :=
 (ok=false∧frRead b=none∧u=.slice none 0 0∧X=M) ∨
 (ok=true∧c=false∧frRead b=some y∧X=Evs_ u y.l::M) ∨
 (ok=true∧c=true∧y=⟨k.toNat,r.toNat,0,Clk.zero,[]⟩∧u=.slice none 0 0∧u0=q0∧X=M∧frRead b=match rClkN 5 q with | none=>none | some (c,_)=>some ⟨k.toNat,r.toNat,0,c,[]⟩)
theorem fread_F (v0:Value) (b:List UInt8) (M:List Assn) (hr:RdT M v0 b) (o0:v0.oneCell'=true) (hb:b.length≤1000000000):Fn Tryz.prog 195 #[v0] M fun r L'=>ReR r (frRead b) M L':=by
 refine Fn.of_ex Tryz.func195 rfl Tryz.ntmps195 rfl ?_
 (refine rn ?_;(repeat (first | intro (g:Nat) | intro (v:Value) | intro (o:O1 _) | intro (cs:List Value) | intro (hcs:_=List.set _ _ _) | intro (zs:List _) | intro h)))
 refine st_callIs [] rJ Tryz.call247 rJ rJ (vtake_F _ b _ rD hb) ?_
 rintro _ _ ⟨rfl,rfl⟩
 have hsp:=vT_spec b 0 0
 cases hv:vTake b with
 | error e =>
  have hv':vT 0 0 b=.error e:=hv
  rw [hv'] at hsp
  have he:e=2∨e=3:=hsp
  have hF:frRead b=none:=by unfold frRead;rw [hv]
  rw [hF]
  unfold vtV
  simp only
  (refine rn ?_;(repeat (first | intro (g:Nat) | intro (v:Value) | intro (o:O1 _) | intro (cs:List Value) | intro (hcs:_=List.set _ _ _) | intro (zs:List _) | intro h)))
  (refine fr ?_)
  exact ⟨_,rB,.inl ⟨rfl,⟨⟨0,0,0,Clk.zero,[]⟩,rfl⟩,rfl⟩⟩
 | ok nk =>
  obtain ⟨n,w⟩:=nk
  have hv':vT 0 0 b=.ok (n,w):=hv
  rw [hv'] at hsp
  have hwl:0<w∧w≤0+b.length:=hsp
  unfold vtV
  simp only
  have hdl:(b.drop w).length=b.length - w:=List.length_drop
  by_cases h2:b.length - w<2
  ·have hF:frRead b=none:=by
    unfold frRead
    rw [hv]
    simp only
    rcases hbd:b.drop w with _ | ⟨a,_ | ⟨c,q⟩⟩
    ·rfl
    ·rfl
    ·rw [hbd] at hdl;simp only [List.length_cons] at hdl;omega
   rw [hF]
   (refine rn ?_;(repeat (first | intro (g:Nat) | intro (v:Value) | intro (o:O1 _) | intro (cs:List Value) | intro (hcs:_=List.set _ _ _) | intro (zs:List _) | intro h)))
   (refine fr ?_)
   exact ⟨_,rB,.inl ⟨rfl,⟨⟨0,0,0,Clk.zero,[]⟩,rfl⟩,rfl⟩⟩
  obtain ⟨k,r,q,hbd⟩:∃ k r q,b.drop w=k::r::q:=by
   rcases hbd:b.drop w with _ | ⟨a,_ | ⟨c,q⟩⟩
   ·rw [hbd] at hdl;simp only [List.length_nil] at hdl;omega
   ·rw [hbd] at hdl;simp only [List.length_cons,List.length_nil] at hdl;omega
   ·exact ⟨a,c,q,rfl⟩
  have hk0:∀ h:w<b.length,b[w]'h=k:=fun h=>by
   have:=congrArg (fun l=>l[0]?) hbd
   simpa [List.getElem?_eq_getElem h] using this
  have hr0:∀ h:w+1<b.length,b[w+1]'h=r:=fun h=>by
   have:=congrArg (fun l=>l[1]?) hbd
   simpa [List.getElem?_eq_getElem h] using this
  have hR:=frRead_cons k r b q n w hv hbd
  have hql:q.length+2=b.length - w:=by rw [← hdl,hbd];rfl
  (refine rn ?_;(repeat (first | intro (g:Nat) | intro (v:Value) | intro (o:O1 _) | intro (cs:List Value) | intro (hcs:_=List.set _ _ _) | intro (zs:List _) | intro h)))
  (refine mu13 ?_;(repeat (first | intro (g:Nat) | intro (v:Value) | intro (o:O1 _) | intro (cs:List Value) | intro (hcs:_=List.set _ _ _) | intro (zs:List _) | intro h)))
  (refine rn ?_;(repeat (first | intro (g:Nat) | intro (v:Value) | intro (o:O1 _) | intro (cs:List Value) | intro (hcs:_=List.set _ _ _) | intro (zs:List _) | intro h)))
  rename_i g2
  revert g
  intro g7
  rw [hk0 rM,hr0 rM]
  obtain ⟨q0,hq0⟩:∃ q0,q0=subs v0 ((w:Int)+2).toNat b.length 1:=⟨_,rfl⟩
  have oq0:q0.oneCell'=true:=by rw [hq0];exact subs_one o0
  have hq:RdT M q0 q:=by
   have:RdT M q0 (b.drop (w+2)):=by rw [hq0,show ((w:Int)+2).toNat=w+2 by omega];exact RdT.off hr rM rfl rJ
   rwa [← List.drop_drop,hbd] at this
  rw [← hq0]
  refine st_callIs [] rJ Tryz.call177 rJ rJ (fshape_F k.toNat _) ?_
  rintro _ _ ⟨rfl,rfl⟩
  unfold shV
  refine ExL.claim 2 [0,2,7,8,9] (fun vs L'=>∃ (ok c:Bool) (e u:Bool) (g8:Nat) (y:Rcd) (uv u0:Value) (X:List Assn),fMid b q k r q0 M ok c y uv u0 X∧uv.oneCell'=true∧vs=[u0,.pointer (some ⟨g2,0,none⟩),.pointer (some ⟨g7,0,none⟩),.pointer (some ⟨g8,0,none⟩),.bool ok]∧L'=Blk g8 278 (shC e u c)::Blk g7 192 (rcC y uv)::Blk g2 192 (rcC ⟨0,0,0,Clk.zero,[]⟩ (.slice none 0 0))::X) ?_ ?_
  ·rintro vs gk L' ⟨ok,c,e,u,g8,y,uv,u0,X,(⟨rfl,hF,rfl,rfl⟩ | ⟨rfl,rfl,hF,rfl⟩ | ⟨rfl,rfl,rfl,rfl,rfl,rfl,hF⟩),ouv,rfl,rfl⟩
   ·(refine rn ?_;(repeat (first | intro (hcs:_=List.set _ _ _) | intro h)))
    refine Ex.loop [9,72] (fun z vs L'=>∃ i:Nat,i≤5∧z=5 - i∧vs=[.bool false,.int .i64 i]∧L'=Blk g8 278 (shC e u c)::Blk g7 192 (rcC y (.slice none 0 0))::Blk g2 192 (rcC ⟨0,0,0,Clk.zero,[]⟩ (.slice none 0 0))::X) 5 ⟨0,by omega,rfl,rfl,rfl⟩ ?_
    rintro z vs g0 L1 ⟨i,hi,rfl,rfl,rfl⟩
    refine Ex.keep [2,7,8,9,72] rG (fun gk=>?_)
    by_cases hlt:i<5
    ·(refine rn ?_;(repeat (first | intro (hcs:_=List.set _ _ _) | intro h)))
     exact rnd_n ⟨5 - (i+1),_,by omega,rB,i+1,by omega,rfl,lcons rfl (lcons (vint rM) rfl),rfl⟩
    ·(refine rn ?_;(repeat (first | intro (hcs:_=List.set _ _ _) | intro h)))
     (refine fr ?_)
     exact ⟨_,rB,.inl ⟨hF,⟨y,rfl⟩,rfl⟩⟩
   ·(refine rn ?_;(repeat (first | intro (hcs:_=List.set _ _ _) | intro h)))
    refine Ex.loop [9,72] (fun z vs L'=>∃ i:Nat,i≤5∧z=5 - i∧vs=[.bool true,.int .i64 i]∧L'=Blk g8 278 (shC e u false)::Blk g7 192 (rcC y uv)::Blk g2 192 (rcC ⟨0,0,0,Clk.zero,[]⟩ (.slice none 0 0))::Evs_ uv y.l::M) 5 ⟨0,by omega,rfl,rfl,rfl⟩ ?_
    rintro z vs g0 L1 ⟨i,hi,rfl,rfl,rfl⟩
    refine Ex.keep [2,7,8,9,72] rG (fun gk=>?_)
    by_cases hlt:i<5
    ·(refine rn ?_;(repeat (first | intro (hcs:_=List.set _ _ _) | intro h)))
     exact rnd_n ⟨5 - (i+1),_,by omega,rB,i+1,by omega,rfl,lcons rfl (lcons (vint rM) rfl),rfl⟩
    ·(refine rn ?_;(repeat (first | intro (hcs:_=List.set _ _ _) | intro h)))
     (refine fr ?_)
     exact ⟨_,rB,.inr ⟨y,uv,hF,ouv,rfl,rfl⟩⟩
   ·(refine rn ?_;(repeat (first | intro (hcs:_=List.set _ _ _) | intro h)))
    refine Ex.loop [0,9,72] (fun z vs L'=>∃ (i:Nat) (d:Clk) (ok:Bool) (u':Value),i≤5∧z=5 - i∧u'.oneCell'=true∧(∃ q':List UInt8,q'.length≤q.length∧RdT X u' q'∧((ok=true∧rClkN i q=some (d,q'))∨(ok=false∧rClkN 5 q=none)))∧vs=[u',.bool ok,.int .i64 i]∧L'=Blk g8 278 (shC e u true)::Blk g7 192 (rcC ⟨k.toNat,r.toNat,0,d,[]⟩ (.slice none 0 0))::Blk g2 192 (rcC ⟨0,0,0,Clk.zero,[]⟩ (.slice none 0 0))::X) 5 ⟨0,Clk.zero,true,_,by omega,rfl,oq0,⟨q,Nat.le_refl _,hq,.inl ⟨rfl,rfl⟩⟩,rfl,rfl⟩ ?_
    rintro z vs g0 L1 ⟨i,d,ok,u',hi,rfl,ou',⟨q',hql',hu',hcase⟩,rfl,rfl⟩
    refine Ex.keep [0,2,7,8,9,72] rG (fun gk=>?_)
    by_cases hlt:i<5
    ·rcases hcase with ⟨rfl,hE⟩ | ⟨rfl,hE⟩
     ·(refine rn ?_;(repeat (first | intro (hcs:_=List.set _ _ _) | intro h)))
      refine st_callIs [] rJ Tryz.call251 rJ rJ (fnumber_F _ q' _ (hu'.sub rB) rM) ?_
      rintro _ _ (⟨hNu,rfl,rfl⟩ | ⟨n2,w2,hNu,hw2,hn0,hn1,rfl,rfl⟩)
      ·have hn5:rClkN 5 q=none:=by
        have h1:rClkN (i+1) q=none:=by rw [rClkN,hE];simp only;rw [hNu]
        have:=rClkN_none (i+1) (5 - (i+1)) q h1
        rwa [show i+1+(5 - (i+1))=5 by omega] at this
       (refine rn ?_;(repeat (first | intro (hcs:_=List.set _ _ _) | intro h)))
       rw [rc_setC _ _ i _ hlt _ (by show 3+(i:Int).toNat * 1=3+i;omega)] at hcs
       subst hcs
       exact rnd_n ⟨5 - (i+1),_,by omega,rB,i+1,_,false,_,by omega,rfl,subs_one ou',⟨q',hql',RdT.off hu' (Nat.zero_le _) rfl rJ,.inr ⟨rfl,hn5⟩⟩,lcons rfl (lcons rfl (lcons (vint rM) rfl)),rfl⟩
      ·have hE2:rClkN (i+1) q=some (d.set i n2,q'.drop w2):=by rw [rClkN,hE];simp only;rw [hNu]
       (refine rn ?_;(repeat (first | intro (hcs:_=List.set _ _ _) | intro h)))
       rw [rc_setC _ _ i _ hlt _ (by show 3+(i:Int).toNat * 1=3+i;omega)] at hcs
       subst hcs
       exact rnd_n ⟨5 - (i+1),_,by omega,rB,i+1,_,true,_,by omega,rfl,subs_one ou',⟨q'.drop w2,by rw [List.length_drop];omega,RdT.off hu' hw2 rfl rJ,.inl ⟨rfl,hE2⟩⟩,lcons rfl (lcons rfl (lcons (vint rM) rfl)),rfl⟩
     ·(refine rn ?_;intros)
      exact rnd_n ⟨5 - (i+1),_,by omega,rB,i+1,d,false,u',by omega,rfl,ou',⟨q',hql',hu',.inr ⟨rfl,hE⟩⟩,lcons rfl (lcons rfl (lcons (vint rM) rfl)),rfl⟩
    ·have h5:i=5:=by omega
     subst h5
     rcases hcase with ⟨rfl,hE⟩ | ⟨rfl,hE⟩
     ·rw [hE] at hF
      (refine rn ?_;intros)
      (refine fr ?_)
      exact ⟨_,Sub.trans (Sub.empty (α:=Ev) none 80 _) rB,.inr ⟨⟨k.toNat,r.toNat,0,d,[]⟩,_,hF,rfl,rfl,rfl⟩⟩
     ·rw [hE] at hF
      (refine rn ?_;intros)
      (refine fr ?_)
      exact ⟨_,rB,.inl ⟨hF,⟨_,rfl⟩,rfl⟩⟩
  intro HC
  by_cases hk:1≤(k.toNat:Int)∧(k.toNat:Int)≤5
  rotate_left
  ·rw [if_neg hk] at hR
   rw [decide_eq_false hk]
   (refine rn ?_;intros)
   exact HC _ _ ⟨_,rB,false,_,_,_,_,⟨k.toNat,r.toNat,0,Clk.zero,[]⟩,_,_,M,.inl ⟨rfl,hR,rfl,rfl⟩,rfl,lcons rfl (lcons rfl (lcons rfl (lcons rfl (lcons rfl rfl)))),rfl⟩
  rw [if_pos hk] at hR
  rw [decide_eq_true hk]
  by_cases e:fEvs k.toNat
  ·have u:¬ fUpto k.toNat:=by unfold fUpto;unfold fEvs at e;omega
   have c:¬ fClk k.toNat:=by unfold fClk;unfold fEvs at e;omega
   rw [decide_eq_true e,decide_eq_false u,decide_eq_false c]
   simp only [if_pos e,if_neg u,if_neg c] at hR
   (refine rn ?_;intros)
   refine st_callIs [] rJ Tryz.call250 rJ rJ (fevents_F _ q _ (hq.sub rB) oq0 rM) ?_
   rintro _ _ (⟨hL,rfl,rfl⟩ | ⟨xl,ul,hL,oul,rfl,rfl⟩)
   ·rw [hL] at hR
    simp only at hR
    (refine rn ?_;intros)
    exact HC _ _ ⟨_,rB,false,_,_,_,_,⟨k.toNat,r.toNat,0,Clk.zero,[]⟩,_,_,M,.inl ⟨rfl,hR,rfl,rfl⟩,rfl,lcons rfl (lcons rfl (lcons rfl (lcons rfl (lcons rfl rfl)))),rfl⟩
   ·rw [hL] at hR
    simp only at hR
    (refine rn ?_;intros)
    refine HC _ _ ⟨_,?_,true,false,true,false,_,⟨k.toNat,r.toNat,0,Clk.zero,xl⟩,ul,q0,Evs_ ul xl::M,.inr (.inl ⟨rfl,rfl,hR,rfl⟩),oul,lcons rfl (lcons rfl (lcons rfl (lcons rfl (lcons rfl rfl)))),rfl⟩
    exact Sub.fr [3,3,3] rE rB
  ·rw [decide_eq_false e]
   simp only [if_neg e] at hR
   by_cases u:fUpto k.toNat
   ·have c:¬ fClk k.toNat:=by unfold fClk;unfold fUpto at u;omega
    rw [decide_eq_true u,decide_eq_false c]
    simp only [if_pos u,if_neg c] at hR
    (refine rn ?_;intros)
    refine st_callIs [] rJ Tryz.call251 rJ rJ (fnumber_F _ q _ (hq.sub rB) rM) ?_
    rintro _ _ (⟨hNu,rfl,rfl⟩ | ⟨n2,w2,hNu,hw2,hn0,hn1,rfl,rfl⟩)
    ·rw [hNu] at hR
     simp only at hR
     (refine rn ?_;intros)
     exact HC _ _ ⟨_,rB,false,_,_,_,_,⟨k.toNat,r.toNat,0,Clk.zero,[]⟩,_,_,M,.inl ⟨rfl,hR,rfl,rfl⟩,rfl,lcons rfl (lcons rfl (lcons rfl (lcons rfl (lcons rfl rfl)))),rfl⟩
    ·rw [hNu] at hR
     simp only at hR
     (refine rn ?_;intros)
     refine HC _ _ ⟨_,?_,true,false,false,true,_,⟨k.toNat,r.toNat,n2,Clk.zero,[]⟩,.slice none 0 0,q0,Evs_ (.slice none 0 0) []::M,.inr (.inl ⟨rfl,rfl,hR,rfl⟩),rfl,lcons rfl (lcons rfl (lcons rfl (lcons rfl (lcons rfl rfl)))),rfl⟩
     exact Sub.trans (Sub.cons _ (Sub.cons _ (Sub.cons _ (Sub.empty (α:=Ev) none 80 M)))) rB
   ·have c:fClk k.toNat:=by unfold fClk;unfold fEvs at e;unfold fUpto at u;omega
    rw [decide_eq_false u,decide_eq_true c]
    simp only [if_neg u,if_pos c] at hR
    (refine rn ?_;intros)
    exact HC _ _ ⟨_,rB,true,true,false,false,_,⟨k.toNat,r.toNat,0,Clk.zero,[]⟩,_,q0,M,.inr (.inr ⟨rfl,rfl,rfl,rfl,rfl,rfl,hR⟩),rfl,lcons rfl (lcons rfl (lcons rfl (lcons rfl (lcons rfl rfl)))),rfl⟩
end
end
end Go.Proofs.YtogcfijlhpaeeaaGreat
