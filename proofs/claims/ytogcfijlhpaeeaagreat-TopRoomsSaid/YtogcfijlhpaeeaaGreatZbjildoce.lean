/- Texts, one behind the other. No condition. -/
import Derived.Test.YtogcfijlhpaeeaaGreatZajmfbmbb
import Derived.Test.YtogcfijlhpaeeaaGreatZcdhpjgdh
import Derived.Test.YtogcfijlhpaeeaaGreatZehjcikgl
import Derived.Test.YtogcfijlhpaeeaaGreatZgaognfij
import Derived.Test.YtogcfijlhpaeeaaGreatZiegkalfj
import Derived.Test.YtogcfijlhpaeeaaGreatZlfhngpji
open Go.RowKit
set_option linter.unusedSimpArgs false
set_option linter.unusedVariables false
set_option linter.unusedSectionVars false
set_option maxHeartbeats 32000000
namespace Go.Proofs.YtogcfijlhpaeeaaGreat
section
@[reducible] def ShO (g:Nat) (most base:Int) (v:Value):Assn:=Blk g 319 [.int .i64 most,.int .i64 base,v]
set_option maxRecDepth 20000 attribute [local irreducible] Ex ExL Fn thn inb rnd fin meet Tab Mix mxEnd Val Sats RdT Rd RowT Row Blk Sub Fac ResV RVal Evs subs subs3 Hid Capd
section
theorem shelf_New (most:Int) (L:List Assn):Fn Tryz.prog 189 #[.int .i64 most] L fun v L'=>∃ g,v=.pointer (some ⟨g,0,none⟩)∧L'=ShO g most 0 (.slice none 0 0)::Evs_ (.slice none 0 0) []::L:=by
 refine Fn.of_ex Tryz.func189 rfl Tryz.ntmps189 rfl ?_
 (refine rn ?_;intros)
 (refine fr ?_)
 exact ⟨_,Sub.cons _ (Sub.empty none _ _),_,rfl,rfl⟩
theorem shelf_Len (g:Nat) (most base:Int) (v:Value) (kept:List Ev) (M:List Assn) (hb:0≤base∧base≤1000000000000) (hk:kept.length≤1000000000000):Fn Tryz.prog 160 #[.pointer (some ⟨g,0,none⟩)] (ShO g most base v::Evs_ v kept::M)
  fun r L'=>r=.int .i64 (base+kept.length)∧L'=ShO g most base v::Evs_ v kept::M:=by
 refine Fn.of_ex Tryz.func160 rfl Tryz.ntmps160 rfl ?_
 (refine rn ?_;intros)
 (refine mu10 ?_;intros)
 exact re0
theorem shelf_Base (g:Nat) (most base:Int) (v:Value) (kept:List Ev) (M:List Assn):Fn Tryz.prog 159 #[.pointer (some ⟨g,0,none⟩)] (ShO g most base v::Evs_ v kept::M)
  fun r L'=>r=.int .i64 base∧L'=ShO g most base v::Evs_ v kept::M:=by
 refine Fn.of_ex Tryz.func159 rfl Tryz.ntmps159 rfl ?_
 exact re0
theorem shelf_Cut (g:Nat) (most base n:Int) (v0:Value) (kept:List Ev) (M:List Assn) (hb:0≤base∧base≤1000000000000) (hk:kept.length≤10000000000):Fn Tryz.prog 249 #[.pointer (some ⟨g,0,none⟩),.int .i64 n] (ShO g most base v0::Evs_ v0 kept::M)
  fun r L'=>∃ v',v'.oneCell'=true∧L'=ShO g most (max base (min n (base+kept.length))) v'::Evs_ v' (kept.drop ((max base (min n (base+kept.length))) - base).toNat)::M:=by
 refine Fn.of_ex Tryz.func249 rfl Tryz.ntmps249 rfl ?_
 (refine rn ?_;(repeat (first | intro (g:Nat) | intro (v:Value) | intro (o:O1 _) | intro (zs:List _) | intro h)))
 (refine mu9 ?_;(repeat (first | intro (g:Nat) | intro (v:Value) | intro (o:O1 _) | intro (zs:List _) | intro h)))
 refine mx_act rJ rJ rJ ?_
 refine st_callIs [] rJ Tryz.call160 rE rJ (shelf_Len _ _ _ _ _ _ hb rM) ?_
 rintro _ _ ⟨rfl,rfl⟩
 refine ExL.nil ?_
 refine mxEnd_n rF ?_
 (refine mn ?_;(repeat (first | intro (g:Nat) | intro (v:Value) | intro (o:O1 _) | intro (zs:List _) | intro h)))
 obtain ⟨B,hB⟩:∃ B,B=max base (min n (base+(kept.length:Int))):=⟨_,rfl⟩
 rw [← hB]
 have hBb:base≤B∧B≤base+kept.length:=by omega
 (refine rn ?_;(repeat (first | intro (g:Nat) | intro (v:Value) | intro (o:O1 _) | intro (zs:List _) | intro h)))
 refine st_callIs [] rJ Tryz.call160 rE rJ (shelf_Len _ _ _ _ _ _ hb rM) ?_
 rintro _ _ ⟨rfl,rfl⟩
 (refine rn ?_;(repeat (first | intro (g:Nat) | intro (v:Value) | intro (o:O1 _) | intro (zs:List _) | intro h)))
 (refine Ex.mixA 13 (ShO g most base v0::Evs_ v0 kept::M) rfl rQ rF ?_;(refine mn ?_;(repeat (first | intro (v:Value) | intro (o:O1 _) | intro (zs:List _) | intro h))))
 (refine rn ?_;(repeat (first | intro (v:Value) | intro (o:O1 _) | intro (zs:List _) | intro h)))
 (refine fr ?_)
 have e:zs=kept.drop (B - base).toNat:=h.trans (copy_full (by simp only [List.length_replicate,List.length_drop];omega))
 subst e
 exact ⟨_,Sub.trans rB (fronts_sub [1] _),v,o,rfl⟩
theorem shelf_Put (g:Nat) (most base:Int) (v0 u:Value) (kept l:List Ev) (M:List Assn) (hu:RdT M u l) (hi:∀ e∈l,I64 e.n) (hb:0≤base∧base≤1000000000) (hk:kept.length≤1000000000) (hl:l.length≤100000000) (o0:v0.oneCell'=true) :
  Fn Tryz.prog 191 #[.pointer (some ⟨g,0,none⟩),u] (ShO g most base v0::Evs_ v0 kept::M)
  fun r L'=>r=.int .i64 (putR most (base+kept.length) kept.length l).1∧∃ v',v'.oneCell'=true∧L'=ShO g most base v'::Evs_ v' (kept++(putR most (base+kept.length) kept.length l).2)::M:=by
 refine Fn.of_ex Tryz.func191 rfl Tryz.ntmps191 rfl ?_
 (refine rn ?_;(repeat (first | intro (g:Nat) | intro (v:Value) | intro (o:O1 _) | intro (zs:List _) | intro h)))
 obtain ⟨len,hlen⟩:∃ len,len=base+(kept.length:Int):=⟨_,rfl⟩
 rw [← hlen]
 refine Ex.loop [11] (fun m vs L'=>∃ (i:Nat),i≤l.length∧m=l.length - i∧vs=[.int .i64 i]∧L'=ShO g most base v0::Evs_ v0 kept::M∧(∀ h:0<i,∃ h2:i≤l.length,(l[0]'rM).n≤len+1∧∀ j (hj:j<i),(l[j]'rM).n=(l[0]'rM).n+j)) l.length ⟨0,by omega,by omega,rfl,rfl,fun h=>by omega⟩ ?_
 rintro m vs g1 L' ⟨i,hil,rfl,rfl,rfl,hinv⟩
 by_cases hlt:i<l.length
 ·have hI:=hi _ (List.getElem_mem hlt)
  unfold I64 at hI
  by_cases hz:i=0
  ·subst hz
   by_cases hgap:(l[0]'hlt).n≤len+1
   ·(refine rn ?_;(repeat (first | intro (g:Nat) | intro (v:Value) | intro (o:O1 _) | intro (zs:List _) | intro h)))
    refine Ex.reord [2,2] rE ?_
    (refine mu26 ?_;(repeat (first | intro (g:Nat) | intro (v:Value) | intro (o:O1 _) | intro (zs:List _) | intro h)))
    refine mx_act rJ rJ rJ ?_
    refine st_callIs [] rJ Tryz.call160 rE rJ (shelf_Len _ _ _ _ _ _ rM rM) ?_
    rintro _ _ ⟨rfl,rfl⟩
    rw [← hlen]
    refine ExL.nil ?_
    refine mxEnd_n rF ?_
    (refine mn ?_;(repeat (first | intro (g:Nat) | intro (v:Value) | intro (o:O1 _) | intro (zs:List _) | intro h)))
    (refine rn ?_;(repeat (first | intro (g:Nat) | intro (v:Value) | intro (o:O1 _) | intro (zs:List _) | intro h)))
    exact rnd_n ⟨l.length - 1,_,by omega,rB,1,by omega,rfl,lcons (vint rM) rfl,rfl,fun _=>⟨by omega,hgap,fun j hj=>by
     obtain rfl:j=0:=by omega
     simp⟩⟩
   ·(refine rn ?_;(repeat (first | intro (g:Nat) | intro (v:Value) | intro (o:O1 _) | intro (zs:List _) | intro h)))
    refine Ex.reord [2,2] rE ?_
    (refine mu26 ?_;(repeat (first | intro (g:Nat) | intro (v:Value) | intro (o:O1 _) | intro (zs:List _) | intro h)))
    refine mx_act rJ rJ rJ ?_
    refine st_callIs [] rJ Tryz.call160 rE rJ (shelf_Len _ _ _ _ _ _ rM rM) ?_
    rintro _ _ ⟨rfl,rfl⟩
    rw [← hlen]
    refine ExL.nil ?_
    refine mxEnd_n rF ?_
    (refine mn ?_;(repeat (first | intro (g:Nat) | intro (v:Value) | intro (o:O1 _) | intro (zs:List _) | intro h)))
    (refine rn ?_;(repeat (first | intro (g:Nat) | intro (v:Value) | intro (o:O1 _) | intro (zs:List _) | intro h)))
    have hno:¬ GapOk len l:=fun h=>hgap (h hlt).1
    rw [putR_gap hno,List.append_nil]
    (refine fr ?_)
    exact ⟨_,rB,rfl,v0,o0,rfl⟩
  ·obtain ⟨_,hg1,hg2⟩:=hinv rM
   have hI0:=hi _ (List.getElem_mem (show 0<l.length by omega))
   unfold I64 at hI0
   have hp:=hg2 ((i:Int) - 1).toNat rM
   by_cases hgap:(l[i]'hlt).n=(l[((i:Int) - 1).toNat]'rM).n+1
   ·(refine rn ?_;(repeat (first | intro (g:Nat) | intro (v:Value) | intro (o:O1 _) | intro (zs:List _) | intro h)))
    (refine mu26 ?_;(repeat (first | intro (g:Nat) | intro (v:Value) | intro (o:O1 _) | intro (zs:List _) | intro h)))
    (refine rn ?_;(repeat (first | intro (g:Nat) | intro (v:Value) | intro (o:O1 _) | intro (zs:List _) | intro h)))
    exact rnd_n ⟨l.length - (i+1),_,by omega,rB,i+1,by omega,rfl,lcons (vint rM) rfl,rfl,fun _=>⟨by omega,hg1,fun j hj=>by
     by_cases hji:j<i
     ·exact hg2 j hji
     ·obtain rfl:j=i:=by omega
      omega⟩⟩
   ·(refine rn ?_;(repeat (first | intro (g:Nat) | intro (v:Value) | intro (o:O1 _) | intro (zs:List _) | intro h)))
    (refine mu26 ?_;(repeat (first | intro (g:Nat) | intro (v:Value) | intro (o:O1 _) | intro (zs:List _) | intro h)))
    (refine rn ?_;(repeat (first | intro (g:Nat) | intro (v:Value) | intro (o:O1 _) | intro (zs:List _) | intro h)))
    have hno:¬ GapOk len l:=fun h=>by
     have h2:=(h rM).2 i hlt
     omega
    rw [putR_gap hno,List.append_nil]
    (refine fr ?_)
    exact ⟨_,rB,rfl,v0,o0,rfl⟩
 have hok:GapOk len l:=fun h=>by
  obtain ⟨_,h1,h2⟩:=hinv rM
  exact ⟨h1,fun j hj=>h2 j rM⟩
 clear hinv
 (refine rn ?_;(repeat (first | intro (g:Nat) | intro (v:Value) | intro (o:O1 _) | intro (zs:List _) | intro h)))
 refine Ex.loop [1] (fun m vs L'=>∃ (j:Nat) (u':Value),j≤l.length∧m=l.length - j∧vs=[u']∧RdT M u' (l.drop j)∧L'=ShO g most base v0::Evs_ v0 kept::M∧(∀ i (hi:i<l.length),i<j→(l[i]'hi).n≤len)) l.length ⟨0,u,by omega,by omega,rfl,hu,rfl,fun i hi h=>by omega⟩ ?_
 rintro m vs g2 L' ⟨j,u',hj,rfl,rfl,hu',rfl,hold⟩
 have hdl:(l.drop j).length=l.length - j:=List.length_drop
 by_cases hjl:j<l.length
 ·have he:((l.drop j)[0]'rM).n=(l[j]'hjl).n:=by simp
  by_cases hle:(l[j]'hjl).n≤len
  ·(refine rn ?_;(repeat (first | intro (v:Value) | intro (o:O1 _) | intro (zs:List _) | intro h)))
   (refine mu12 ?_;(repeat (first | intro (v:Value) | intro (o:O1 _) | intro (zs:List _) | intro h)))
   refine mx_act rJ rJ rJ ?_
   refine st_callIs [] rJ Tryz.call160 rE rJ (shelf_Len _ _ _ _ _ _ rM rM) ?_
   rintro _ _ ⟨rfl,rfl⟩
   rw [← hlen]
   refine ExL.nil ?_
   refine mxEnd_n rF ?_
   (refine mn ?_;(repeat (first | intro (v:Value) | intro (o:O1 _) | intro (zs:List _) | intro h)))
   (refine rn ?_;(repeat (first | intro (v:Value) | intro (o:O1 _) | intro (zs:List _) | intro h)))
   refine rnd_n ⟨l.length - (j+1),_,by omega,Sub.refl _,j+1,_,by omega,rfl,rfl,?_,rfl,fun i hi h=>?_⟩
   ·have h1:=RdT.off hu' (l:=1) rM (sz:=12) (k:=(l.drop j).length) rfl rfl
    rw [List.drop_drop] at h1
    exact h1
   ·by_cases h2:i<j
    ·exact hold i hi h2
    ·obtain rfl:i=j:=by omega
     exact hle
  ·have hf:=fresh_drop hok j hj hold (.inr ⟨hjl,by omega⟩)
   have hne:fresh len l≠[]:=by
    rw [hf];intro h;rw [h] at hdl;simp at hdl;omega
   have heF:((fresh len l)[0]'(by rw [hf,hdl];omega)).n=(l[j]'hjl).n:=by simp only [hf];exact he
   rw [← hf] at hu' hdl
   clear he
   (refine rn ?_;(repeat (first | intro (v:Value) | intro (o:O1 _) | intro (zs:List _) | intro h)))
   (refine mu12 ?_;(repeat (first | intro (v:Value) | intro (o:O1 _) | intro (zs:List _) | intro h)))
   refine mx_act rJ rJ rJ ?_
   refine st_callIs [] rJ Tryz.call160 rE rJ (shelf_Len _ _ _ _ _ _ rM rM) ?_
   rintro _ _ ⟨rfl,rfl⟩
   rw [← hlen]
   refine ExL.nil ?_
   refine mxEnd_n rF ?_
   (refine mn ?_;(repeat (first | intro (v:Value) | intro (o:O1 _) | intro (zs:List _) | intro h)))
   by_cases hw:most<(kept.length:Int)+(fresh len l).length
   ·rw [putR_full hok hne hw,List.append_nil]
    (refine rn ?_;(repeat (first | intro (v:Value) | intro (o:O1 _) | intro (zs:List _) | intro h)))
    (refine fr ?_)
    exact ⟨_,rB,rfl,v0,o0,rfl⟩
   ·rw [putR_ok hok (.inr rM)]
    (refine rn ?_;(repeat (first | intro (v:Value) | intro (o:O1 _) | intro (zs:List _) | intro h)))
    have hz1:=h.trans (copy_head (by simp only [List.length_replicate];omega))
    have hzl:zs.length=((kept.length:Int)+(fresh len l).length).toNat:=by rw [hz1];simp only [List.length_append,List.length_drop,List.length_replicate];omega
    clear h
    obtain ⟨za,hza⟩:∃ za,za=zs:=⟨_,rfl⟩
    rw [← hza] at hz1 hzl ⊢
    clear hza zs
    (refine rn ?_;(repeat (first | intro (v:Value) | intro (o:O1 _) | intro (zs:List _) | intro h)))
    have hz2:zs=kept++fresh len l:=by
     have e1:za.take kept.length=kept:=by rw [hz1];exact List.take_left
     rw [h,Int.toNat_natCast,e1,List.take_of_length_le rM,List.drop_eq_nil_of_le rM,List.append_nil]
    subst hz2
    (refine fr ?_)
    exact ⟨_,Sub.trans rB (fronts_sub [1] _),rfl,v,o,rfl⟩
 ·have hf:=fresh_drop hok j hj hold (.inl rM)
  have hnil:l.drop j=[]:=List.eq_nil_of_length_eq_zero rM
  rw [hnil] at hu' hf
  rw [putR_ok hok (.inl hf),hf,List.append_nil]
  (refine rn ?_;intros)
  (refine mu12 ?_;intros)
  (refine rn ?_;intros)
  (refine fr ?_)
  exact ⟨_,rB,rfl,v0,o0,rfl⟩
end
section
def above (n:Int) (l:List Ev):List Ev:=l.filter fun e=>decide (n<e.n)
theorem above_take (n:Int) (l:List Ev) (i:Nat) (h:i<l.length):above n (l.take (i+1))=if n<(l[i]'h).n then above n (l.take i)++[l[i]'h] else above n (l.take i):=by
 unfold above
 rw [List.take_succ_eq_append_getElem h,List.filter_append]
 split <;> rename_i hc <;> simp [hc]
theorem above_len (n:Int) (l:List Ev):(above n l).length≤l.length:=List.length_filter_le _ _
theorem shelf_From (g0:Nat) (most base n:Int) (v0:Value) (kept:List Ev) (M:List Assn) (hk:kept.length≤1000000000) (o0:v0.oneCell'=true):Fn Tryz.prog 252 #[.pointer (some ⟨g0,0,none⟩),.int .i64 n] (ShO g0 most base v0::Evs_ v0 kept::M)
  fun r L'=>r.oneCell'=true∧L'=ShO g0 most base v0::Evs_ v0 kept::Evs_ r (above n kept)::M:=by
 refine Fn.of_ex Tryz.func252 rfl Tryz.ntmps252 rfl ?_
 refine Ex.sub ?_ (Sub.cons _ (Sub.cons _ (Sub.empty (α:=Ev) none 80 M)))
 (refine rn ?_;(repeat (first | intro (v:Value) | intro h)))
 refine Ex.loop [5,13] (fun m vs L'=>∃ (i:Nat) (r:Value),i≤kept.length∧m=kept.length - i∧r.oneCell'=true∧vs=[r,.int .i64 i]∧L'=ShO g0 most base v0::Evs_ v0 kept::Evs_ r (above n (kept.take i))::M) kept.length ⟨0,_,by omega,by omega,rfl,rfl,rfl⟩ ?_
 rintro m vs g1 L' ⟨i,r,hi,rfl,ho,rfl,rfl⟩
 have hlen:=above_len n (kept.take i)
 simp only [List.length_take] at hlen
 by_cases hlt:i<kept.length
 ·by_cases hn:n<(kept[i]'hlt).n
  ·(refine rn ?_;(repeat (first | intro (v:Value) | intro h)))
   refine rnd_n ⟨kept.length - (i+1),ShO g0 most base v0::Evs_ v0 kept::Evs_ v (above n (kept.take (i+1)))::M,by omega,?_,i+1,v,by omega,rfl,by assumption,lcons rfl (lcons (vint rM) rfl),rfl⟩
   rw [above_take _ _ _ hlt,if_pos hn]
   exact rB
  ·(refine rn ?_;intros)
   refine rnd_n ⟨kept.length - (i+1),ShO g0 most base v0::Evs_ v0 kept::Evs_ r (above n (kept.take (i+1)))::M,by omega,?_,i+1,r,by omega,rfl,by assumption,lcons rfl (lcons (vint rM) rfl),rfl⟩
   rw [above_take _ _ _ hlt,if_neg hn]
   exact rB
 ·obtain rfl:i=kept.length:=by omega
  rw [List.take_length] at *
  exact re2
end
end
section
structure Sf where
 all:List Ev
 cut:Nat
noncomputable def Sf.put (most:Int) (s:Sf) (l:List Ev):Int×Sf:=((putR most s.all.length (s.all.length - s.cut:Nat) l).1,⟨s.all++(putR most s.all.length (s.all.length - s.cut:Nat) l).2,s.cut⟩)
def Sf.to (s:Sf) (n:Int):Sf:=⟨s.all,(max (s.cut:Int) (min n s.all.length)).toNat⟩
def Sf.Ok (s:Sf):Prop:=s.cut≤s.all.length
theorem Sf.to_ok {s:Sf} (h:s.Ok) (n:Int):(s.to n).Ok:=by
 unfold Sf.Ok Sf.to at *
 simp only
 omega
def leastR (told:List Clk) (s:Nat):Int:=(told.map (·.get s)).foldl min ((told.headD Clk.zero).get s)
structure PSt where
 told:List Clk
 sf:List Sf
def Sf.none:Sf:=⟨[],0⟩
def PSt.cutAt (st:PSt) (s:Nat):PSt:=⟨st.told,st.sf.set s ((st.sf.getD s Sf.none).to (leastR st.told s))⟩
def PSt.cutN (st:PSt):Nat→PSt
 | 0=>st
 | k+1=>(st.cutN k).cutAt k
theorem PSt.cutN_told (st:PSt):∀ k,(st.cutN k).told=st.told
 | 0=>rfl
 | k+1=>PSt.cutN_told st k
theorem PSt.cutN_len (st:PSt):∀ k,(st.cutN k).sf.length=st.sf.length
 | 0=>rfl
 | k+1=>by
  show ((st.cutN k).sf.set _ _).length=_
  rw [List.length_set,PSt.cutN_len st k]
def PSt.has (st:PSt) (r:Int):Prop:=0≤r∧r<st.sf.length
instance (st:PSt) (r:Int):Decidable (st.has r):=by unfold PSt.has;exact inferInstance
open Classical in
noncomputable def PSt.push (most:Int) (st:PSt) (r:Int) (l:List Ev):Int×Int×PSt :=
 if ¬ st.has r∨∃ e∈l,e.r≠r then (0,23,st) else
 let p:=(st.sf.getD r.toNat Sf.none).put most l
 if p.1≠0 then (0,p.1,st) else (p.2.all.length,0,(⟨st.told,st.sf.set r.toNat p.2⟩:PSt).cutAt r.toNat)
def PSt.ack (st:PSt) (r:Int) (c:Clk):Int×PSt :=
 if ¬ st.has r then (23,st) else (0,(⟨st.told.set r.toNat ((st.told.getD r.toNat Clk.zero).join c),st.sf⟩:PSt).cutN st.sf.length)
def PSt.getN (st:PSt) (r:Int) (c:Clk):Nat→List Ev
 | 0=>[]
 | k+1=>if (k:Int)≠r then st.getN r c k++above (c.get k) ((st.sf.getD k Sf.none).all.drop (st.sf.getD k Sf.none).cut) else st.getN r c k
def PSt.fetch (st:PSt) (r:Int) (c:Clk):List Ev×Int:=if ¬ st.has r then ([],23) else (st.getN r c st.sf.length,0)
structure Hs where
 base:Clk
 len:Clk
 a0:Clk
 a1:Clk
 a2:Clk
 a3:Clk
 a4:Clk
deriving DecidableEq
def clkOf (f:Nat→Int):Clk:=⟨f 0,f 1,f 2,f 3,f 4⟩
theorem clkOf_get (f:Nat→Int) (i:Nat) (h:i<5):(clkOf f).get i=f i:=by
 match i,h with
 | 0,_=>rfl
 | 1,_=>rfl
 | 2,_=>rfl
 | 3,_=>rfl
 | 4,_=>rfl
def PSt.baseF (st:PSt) (i:Nat):Int:=if i<st.sf.length then ((st.sf.getD i Sf.none).cut:Int) else 0
def PSt.lenF (st:PSt) (i:Nat):Int:=if i<st.sf.length then ((st.sf.getD i Sf.none).all.length:Int) else 0
def PSt.site (st:PSt):Hs:=⟨clkOf st.baseF,clkOf st.lenF,st.told.getD 0 Clk.zero,st.told.getD 1 Clk.zero,st.told.getD 2 Clk.zero,st.told.getD 3 Clk.zero,st.told.getD 4 Clk.zero⟩
instance:Rep Hs:=⟨36,fun h=>.bool true::(Rep.cells h.base++Rep.cells h.len++Rep.cells h.a0++Rep.cells h.a1++Rep.cells h.a2++Rep.cells h.a3++Rep.cells h.a4),by decide,fun _=>rfl,fun _=>rfl⟩
structure Sh where
 g:Nat
 v:Value
 one:v.oneCell'=true
 sf:Sf
@[reducible] def ShB (most:Int) (s:Sh):Assn:=ShO s.g most s.sf.cut s.v
@[reducible] def ShC (s:Sh):Assn:=Evs_ s.v (s.sf.all.drop s.sf.cut)
def StarOf (B C:Sh→Assn) (ss:List Sh):Assn:=Star (ss.map fun s=>Two (B s) (C s))
def StarBut (B C:Sh→Assn) (ss:List Sh) (i:Nat):Assn:=Star ((ss.map fun s=>Two (B s) (C s)).eraseIdx i)
theorem StarOf.focus {B C:Sh→Assn} {ss:List Sh} {i:Nat} (L:List Assn) (h:i<ss.length):Sub (B (ss[i]'h)::C (ss[i]'h)::StarBut B C ss i::L) (StarOf B C ss::L) :=
 Sub.trans (Two.opn _ _ _) (Star.focus (As:=ss.map fun s=>Two (B s) (C s)) (i:=i) L (by simp [h]))
theorem StarOf.unfocus {B C:Sh→Assn} {ss:List Sh} {i:Nat} (x:Sh) (L:List Assn) (h:i<ss.length):Sub (StarOf B C (ss.set i x)::L) (B x::C x::StarBut B C ss i::L):=by
 have h1:=Star.unfocus (As:=ss.map fun s=>Two (B s) (C s)) (i:=i) (Two (B x) (C x)) L (by simpa using h)
 unfold StarOf
 rw [List.map_set]
 exact Sub.trans h1 (Two.cls _ _ _)
theorem StarOf.last {B C:Sh→Assn} {ss:List Sh} (x:Sh) (L:List Assn):Sub (StarOf B C (ss++[x])::L) (B x::C x::StarOf B C ss::L):=by
 unfold StarOf
 rw [List.map_append]
 exact Sub.trans (Star.last (As:=ss.map fun s=>Two (B s) (C s)) (Two (B x) (C x)) L) (Two.cls _ _ _)
theorem StarOf.nil {B C:Sh→Assn} (L:List Assn):Sub (StarOf B C []::L) L:=Star.nil L
end
section
@[reducible] def Po (g:Nat) (vs vt:Value):Assn:=Blk g 244 [vs,vt]
@[reducible] def Ptrs (vs:Value) (ss:List Sh):Assn:=RowT vs 240 (ss.map fun s=>Ptr.mk s.g)
@[reducible] def Told (vt:Value) (told:List Clk):Assn:=RowT vt 50 told
@[reducible] def Shs (most:Int) (ss:List Sh):Assn:=StarOf (ShB most) ShC ss
@[reducible] def ShsBut (most:Int) (ss:List Sh) (i:Nat):Assn:=StarBut (ShB most) ShC ss i
theorem getD5 (k:Clk) (i:Nat):[k.a,k.b,k.c,k.d,k.e].getD i 0=k.get i:=by
 match i with
 | 0=>rfl
 | 1=>rfl
 | 2=>rfl
 | 3=>rfl
 | 4=>rfl
 | i+5=>simp [Clk.get]
theorem clk_cell (c:Clk) (q:Nat) (hq:q<5):(Rep.cells c)[q]?=some (.int .i64 (c.get q)):=by
 match q,hq with
 | 0,_=>rfl
 | 1,_=>rfl
 | 2,_=>rfl
 | 3,_=>rfl
 | 4,_=>rfl
theorem vl_loadSC {P:Program} {f:Nat→Value} {L:List Assn} {d:Nat} {ty:TypeId} {pos:String} {af:Array Edge} {gd:Option (Nat×Bool)} {v:Value} {xs:List Clk} {t:TypeId} {x:Operand} {i q:Nat} (hx:evalF f x=elt v (i * 5+(0+q * 1))) (hA:aggB P t=some false) (hr:RdT L v xs) (hi:i<xs.length) (hq:q<5) :
  Val P ⟨some d,.load t x,ty,pos,af,gd⟩ f L (.int .i64 ((xs[i]'hi).get q)):=by
 rw [show 0+q * 1=q by omega] at hx
 exact vl_loadS1 (sz:=5) hx hA hr hi rfl (clk_cell _ q hq)
def leastK (told:List Clk) (s k:Nat):Int:=((told.take k).map (·.get s)).foldl min ((told.headD Clk.zero).get s)
theorem leastK_succ {told:List Clk} {s k:Nat} (h:k<told.length):leastK told s (k+1)=min (leastK told s k) ((told[k]'h).get s):=by
 unfold leastK
 rw [List.take_succ_eq_append_getElem h,List.map_append,List.foldl_append]
 rfl
theorem leastK_all (told:List Clk) (s:Nat):leastK told s told.length=leastR told s:=by unfold leastK leastR;rw [List.take_length]
theorem leastK_zero {told:List Clk} (s:Nat) (h:0<told.length):(told[0]'h).get s=leastK told s 0:=by
 match told,h with
 | c::t,_=>rfl
theorem map_set_g {ss:List Sh} {s:Nat} {x:Sh} (hs:s<ss.length) (hg:x.g=(ss[s]'hs).g):(ss.set s x).map (fun s=>Ptr.mk s.g)=ss.map (fun s=>Ptr.mk s.g):=by
 rw [List.map_set,hg]
 have h:∀ (l:List Ptr) (h:s<l.length),l.set s (l[s]'h)=l:=fun l h=>List.set_getElem_self h
 have:=h (ss.map fun s=>Ptr.mk s.g) (by simpa using hs)
 rwa [List.getElem_map] at this
theorem post_opn {g:Nat} {vs vt:Value} {most:Int} {ss:List Sh} {told:List Clk} {s:Nat} (hs:s<ss.length) (M:List Assn):Sub (ShB most (ss[s]'hs)::ShC (ss[s]'hs)::ShsBut most ss s::Po g vs vt::Ptrs vs ss::Told vt told::M) (Po g vs vt::Ptrs vs ss::Told vt told::Shs most ss::M) :=
 Sub.fr [3] rfl (StarOf.focus (B:=ShB most) (C:=ShC) _ hs)
theorem post_put {g:Nat} {vs vt:Value} {most:Int} {ss:List Sh} {told:List Clk} {s:Nat} {x:Sh} (hs:s<ss.length) (hg:x.g=(ss[s]'hs).g) (M:List Assn):Sub (Po g vs vt::Ptrs vs (ss.set s x)::Told vt told::Shs most (ss.set s x)::M) (ShB most x::ShC x::ShsBut most ss s::Po g vs vt::Ptrs vs ss::Told vt told::M):=by
 refine Sub.trans ?_ (StarOf.unfocus (B:=ShB most) (C:=ShC) x _ hs)
 unfold Ptrs
 rw [map_set_g hs hg]
 exact Sub.fr [3,3,3] rfl (Sub.refl _)
theorem post_cls {g:Nat} {vs vt:Value} {most:Int} {ss:List Sh} {told:List Clk} {s:Nat} (hs:s<ss.length) (M:List Assn):Sub (Po g vs vt::Ptrs vs ss::Told vt told::Shs most ss::M) (ShB most (ss[s]'hs)::ShC (ss[s]'hs)::ShsBut most ss s::Po g vs vt::Ptrs vs ss::Told vt told::M):=by
 have:=post_put (g:=g) (vs:=vs) (vt:=vt) (most:=most) (told:=told) hs (x:=ss[s]'hs) rfl M
 rwa [List.set_getElem_self] at this
set_option maxRecDepth 20000 attribute [local irreducible] Ex ExL Fn thn inb rnd fin meet Tab Mix mxEnd Val Sats RdT Rd RowT Row Blk Sub Fac ResV RVal Evs subs subs3 Hid Capd
section
attribute [local irreducible] StarOf StarBut
theorem post_has (g:Nat) (vs vt:Value) (ss:List Sh) (r:Int) (M:List Assn):Fn Tryz.prog 190 #[.pointer (some ⟨g,0,none⟩),.int .i64 r] (Po g vs vt::Ptrs vs ss::M)
  fun v L'=>v=.bool (decide (0≤r∧r<ss.length))∧L'=Po g vs vt::Ptrs vs ss::M:=by
 have hml:(ss.map fun s=>Ptr.mk s.g).length=ss.length:=List.length_map ..
 refine Fn.of_ex Tryz.func190 rfl Tryz.ntmps190 rfl ?_
 by_cases h0:0≤r
 ·by_cases h1:r<ss.length
  ·rw [decide_eq_true ⟨h0,h1⟩]
   exact re0
  ·rw [decide_eq_false (fun h=>h1 h.2)]
   exact re0
 ·rw [decide_eq_false (fun h=>h0 h.1)]
  exact re0
theorem post_cut (g0:Nat) (vs vt:Value) (most:Int) (ss:List Sh) (told:List Clk) (s:Nat) (M:List Assn) (hs:s<ss.length) (hs5:ss.length≤5) (hl:told.length=ss.length) (hok:(ss[s]'hs).sf.Ok) (hal:(ss[s]'hs).sf.all.length≤100000000) :
  Fn Tryz.prog 192 #[.pointer (some ⟨g0,0,none⟩),.int .i64 s] (Po g0 vs vt::Ptrs vs ss::Told vt told::Shs most ss::M)
  fun _ L'=>∃ x:Sh,x.g=(ss[s]'hs).g∧x.sf=(ss[s]'hs).sf.to (leastR told s)∧L'=Po g0 vs vt::Ptrs vs (ss.set s x)::Told vt told::Shs most (ss.set s x)::M:=by
 have hml:(ss.map fun s=>Ptr.mk s.g).length=ss.length:=List.length_map ..
 refine Fn.of_ex Tryz.func192 rfl Tryz.ntmps192 rfl ?_
 (refine rn ?_;intros)
 refine ExL.val rJ rJ rJ (vl_loadSC (i:=0) rJ rJ rD rM rM) ?_
 rw [Int.toNat_natCast,leastK_zero s rM]
 (refine rn ?_;intros)
 refine Ex.loop [4,20] (fun m vs2 L'=>∃ k:Nat,k≤told.length∧m=told.length - k∧vs2=[.int .i64 (leastK told s k),.int .i64 k]∧L'=Po g0 vs vt::Ptrs vs ss::Told vt told::Shs most ss::M) told.length ⟨0,by omega,rfl,rfl,rfl⟩ ?_
 rintro m vs2 g1 L' ⟨k,hk,rfl,rfl,rfl⟩
 by_cases hlt:k<told.length
 ·(refine rn ?_;intros)
  rw [Int.toNat_natCast,getD5,← leastK_succ hlt]
  (refine rn ?_;intros)
  exact rnd_n ⟨told.length - (k+1),_,by omega,rB,k+1,by omega,rfl,lcons rfl (lcons (vint rM) rfl),rfl⟩
 ·obtain rfl:k=told.length:=by omega
  rw [leastK_all]
  (refine rn ?_;intros)
  rw [List.getElem_map]
  refine ExL.sub (L':=ShB most (ss[s]'hs)::ShC (ss[s]'hs)::ShsBut most ss s::Po g0 vs vt::Ptrs vs ss::Told vt told::M) ?_ (post_opn hs M)
  unfold Sf.Ok at hok
  refine st_callIs [] rJ Tryz.call249 rE rJ (shelf_Cut (ss[s]'hs).g most (ss[s]'hs).sf.cut (leastR told s) (ss[s]'hs).v ((ss[s]'hs).sf.all.drop (ss[s]'hs).sf.cut) _ rM (by simp;omega)) ?_
  rintro _ _ ⟨v1,o1,rfl⟩
  (refine rn ?_;intros)
  (refine fr ?_)
  obtain ⟨B,hB⟩:∃ B:Nat,(B:Int)=max ((ss[s]'hs).sf.cut:Int) (min (leastR told s) (ss[s]'hs).sf.all.length):=⟨(max ((ss[s]'hs).sf.cut:Int) (min (leastR told s) (ss[s]'hs).sf.all.length)).toNat,by omega⟩
  have hx:(ss[s]'hs).sf.to (leastR told s)=⟨(ss[s]'hs).sf.all,B⟩:=by unfold Sf.to;rw [← hB,Int.toNat_natCast]
  refine ⟨_,?_,⟨(ss[s]'hs).g,v1,o1,⟨(ss[s]'hs).sf.all,B⟩⟩,rfl,hx.symm,rfl⟩
  refine Sub.trans (post_put (x:=⟨(ss[s]'hs).g,v1,o1,⟨(ss[s]'hs).sf.all,B⟩⟩) hs rfl M) ?_
  have e1:max ((ss[s]'hs).sf.cut:Int) (min (leastR told s) ((ss[s]'hs).sf.cut+((ss[s]'hs).sf.all.drop (ss[s]'hs).sf.cut).length))=B:=by
   rw [hB,List.length_drop];congr 2;omega
  rw [e1,List.drop_drop,show (ss[s]'hs).sf.cut+((B:Int) - (ss[s]'hs).sf.cut).toNat=B by omega]
  exact rB
end
section
theorem clkOf_set (f:Nat→Int) (k:Nat) (v:Int) (hk:k<5):(Rep.cells (clkOf f)).set k (.int .i64 v)=Rep.cells (clkOf fun i=>if i=k then v else f i):=by
 match k,hk with
 | 0,_=>rfl
 | 1,_=>rfl
 | 2,_=>rfl
 | 3,_=>rfl
 | 4,_=>rfl
theorem clkOf_congr {f g:Nat→Int} (h:∀ i,i<5→f i=g i):clkOf f=clkOf g:=by
 unfold clkOf
 rw [h 0 rM,h 1 rM,h 2 rM,h 3 rM,h 4 rM]
def Sh.zero:Sh:=⟨0,.slice none 0 0,rfl,Sf.none⟩
def eachF (φ:Sf→Int) (ss:List Sh) (k:Nat) (i:Nat):Int:=if i<k then φ (ss.getD i Sh.zero).sf else 0
theorem eachF_succ {φ:Sf→Int} {ss:List Sh} {k:Nat} (hk:k<ss.length):(fun i=>if i=k then φ (ss[k]'hk).sf else eachF φ ss k i)=eachF φ ss (k+1):=by
 funext i
 unfold eachF
 by_cases h:i=k
 ·subst h
  rw [if_pos rfl,if_pos rM]
  simp [List.getD_eq_getElem?_getD,hk]
 ·rw [if_neg h]
  by_cases h2:i<k
  ·rw [if_pos h2,if_pos rM]
  ·rw [if_neg h2,if_neg rM]
theorem pad5 {told:List Clk} (h:told.length≤5):told++(List.replicate 5 Clk.zero).drop told.length=[told.getD 0 Clk.zero,told.getD 1 Clk.zero,told.getD 2 Clk.zero,told.getD 3 Clk.zero,told.getD 4 Clk.zero]:=by
 match told,h with
 | [],_=>rfl
 | [a],_=>rfl
 | [a,b],_=>rfl
 | [a,b,c],_=>rfl
 | [a,b,c,d],_=>rfl
 | [a,b,c,d,e],_=>rfl
def siteOf (base len:Clk) (told:List Clk):Hs:=⟨base,len,told.getD 0 Clk.zero,told.getD 1 Clk.zero,told.getD 2 Clk.zero,told.getD 3 Clk.zero,told.getD 4 Clk.zero⟩
theorem site_cells (base len:Clk) {told:List Clk} (h:told.length≤5):(.bool true::(Rep.cells base++Rep.cells len))++cellsOf (told++(List.replicate 5 Clk.zero).drop told.length)++[]=Rep.cells (siteOf base len told):=by
 rw [pad5 h]
 rfl
attribute [local irreducible] StarOf StarBut
theorem post_each (F:FuncId) (φ:Sf→Int) (g0:Nat) (vs vt:Value) (most:Int) (ss:List Sh) (told:List Clk) (M:List Assn) (hs5:ss.length≤5)
  (hrun:∀ (xs:Array Value) (w:World),(callFunc F xs).run Tryz.prog w=.ok (.enter F xs) w)
  (hF:∀ x∈ss,∀ M:List Assn,Fn Tryz.prog F #[.pointer (some ⟨x.g,0,none⟩)] (ShB most x::ShC x::M) fun r L'=>r=.int .i64 (φ x.sf)∧L'=ShB most x::ShC x::M) :
  Fn Tryz.prog 158 #[.pointer (some ⟨g0,0,none⟩),.func (.func F) #[] #[]] (Po g0 vs vt::Ptrs vs ss::Told vt told::Shs most ss::M)
  fun v L'=>v=.agg (Rep.cells (clkOf (eachF φ ss ss.length))).toArray∧L'=Po g0 vs vt::Ptrs vs ss::Told vt told::Shs most ss::M:=by
 have hml:(ss.map fun s=>Ptr.mk s.g).length=ss.length:=List.length_map ..
 refine Fn.of_ex Tryz.func158 rfl Tryz.ntmps158 rfl ?_
 (refine rn ?_;(repeat (first | intro (g:Nat) | intro (v:Value) | intro (o:O1 _) | intro (cs:List Value) | intro (hcs:_=List.set _ _ _) | intro (zs:List _) | intro h)))
 rename_i g4
 revert g
 intro g5
 refine Ex.loop [13] (fun m vs2 L'=>∃ k:Nat,k≤ss.length∧m=ss.length - k∧vs2=[.int .i64 k]∧L'=Blk g5 50 (Rep.cells (clkOf (eachF φ ss k)))::Blk g4 50 [.int .i64 0,.int .i64 0,.int .i64 0,.int .i64 0,.int .i64 0]::Po g0 vs vt::Ptrs vs ss::Told vt told::Shs most ss::M) ss.length ⟨0,by omega,rfl,rfl,rfl⟩ ?_
 rintro m vs2 g1 L' ⟨k,hk,rfl,rfl,rfl⟩
 by_cases hlt:k<ss.length
 ·have hlen:(Rep.cells (clkOf (eachF φ ss k))).length=5:=rfl
  (refine rn ?_;(repeat (first | intro (cs:List Value) | intro (hcs:_=List.set _ _ _) | intro h)))
  rw [List.getElem_map]
  refine ExL.sub (L':=ShB most (ss[k]'hlt)::ShC (ss[k]'hlt)::ShsBut most ss k::Po g0 vs vt::Ptrs vs ss::Told vt told::Blk g5 50 (Rep.cells (clkOf (eachF φ ss k)))::Blk g4 50 [.int .i64 0,.int .i64 0,.int .i64 0,.int .i64 0,.int .i64 0]::M) ?_ (Sub.trans (post_opn hlt _) (Sub.fr [5,5,5,5] rE rB))
  refine st_callC [] (xs:=[.tmp 20]) (fs:=[]) (us:=[]) (vs:=[.pointer (some ⟨(ss[k]'hlt).g,0,none⟩)]) rJ rJ hrun rE rJ (hF _ (List.getElem_mem hlt) _) ?_
  rintro _ _ ⟨rfl,rfl⟩
  (refine rn ?_;(repeat (first | intro (cs:List Value) | intro (hcs:_=List.set _ _ _) | intro h)))
  have hcs2:cs=Rep.cells (clkOf (eachF φ ss (k+1))):=by rw [hcs,show 0+(k:Int).toNat * 1=k by omega,clkOf_set _ _ _ rM,eachF_succ hlt]
  subst hcs2
  exact rnd_n ⟨ss.length - (k+1),_,by omega,Sub.trans (Sub.fr [5,5] rE rB) (post_cls hlt _),k+1,by omega,rfl,lcons (vint rM) rfl,rfl⟩
 ·obtain rfl:k=ss.length:=by omega
  exact re0
theorem base_fn (most:Int) (x:Sh) (M:List Assn):Fn Tryz.prog 159 #[.pointer (some ⟨x.g,0,none⟩)] (ShB most x::ShC x::M) fun r L'=>r=.int .i64 ((fun s:Sf=>(s.cut:Int)) x.sf)∧L'=ShB most x::ShC x::M:=shelf_Base x.g most x.sf.cut x.v _ M
theorem len_fn (most:Int) (x:Sh) (M:List Assn) (hok:x.sf.Ok) (hl:x.sf.all.length≤1000000000):Fn Tryz.prog 160 #[.pointer (some ⟨x.g,0,none⟩)] (ShB most x::ShC x::M) fun r L'=>r=.int .i64 ((fun s:Sf=>(s.all.length:Int)) x.sf)∧L'=ShB most x::ShC x::M:=by
 unfold Sf.Ok at hok
 refine (shelf_Len x.g most x.sf.cut x.v (x.sf.all.drop x.sf.cut) M rM (by simp;omega)).mono ?_
 rintro r L' ⟨rfl,rfl⟩
 exact ⟨vint (by simp;omega),rfl⟩
theorem post_Site (g0:Nat) (vs vt:Value) (most:Int) (ss:List Sh) (told:List Clk) (M:List Assn) (hs5:ss.length≤5) (hl:told.length=ss.length) (hok:∀ x∈ss,x.sf.Ok∧x.sf.all.length≤1000000000) :
  Fn Tryz.prog 92 #[.pointer (some ⟨g0,0,none⟩)] (Po g0 vs vt::Ptrs vs ss::Told vt told::Shs most ss::M)
  fun v L'=>v=.agg (Rep.cells (siteOf (clkOf (eachF (fun s=>(s.cut:Int)) ss ss.length)) (clkOf (eachF (fun s=>(s.all.length:Int)) ss ss.length)) told)).toArray∧L'=Po g0 vs vt::Ptrs vs ss::Told vt told::Shs most ss::M:=by
 refine Fn.of_ex Tryz.func92 rfl Tryz.ntmps92 rfl ?_
 (refine rn ?_;(repeat (first | intro (g:Nat) | intro h)))
 refine st_callIs [4,4,4,4] rJ Tryz.call158 rE rJ (post_each 159 (fun s=>(s.cut:Int)) g0 vs vt most ss told _ hs5 Tryz.call159 (fun x hx M=>base_fn most x M)) ?_
 rintro _ _ ⟨rfl,rfl⟩
 (refine rn ?_;(repeat (first | intro (g:Nat) | intro h)))
 refine st_callIs [] rJ Tryz.call158 rE rJ (post_each 160 (fun s=>(s.all.length:Int)) g0 vs vt most ss told _ hs5 Tryz.call160 (fun x hx M=>len_fn most x M (hok x hx).1 (hok x hx).2)) ?_
 rintro _ _ ⟨rfl,rfl⟩
 generalize clkOf (eachF (fun s=>(s.cut:Int)) ss ss.length)=kb
 generalize clkOf (eachF (fun s=>(s.all.length:Int)) ss ss.length)=kl
 (refine rn ?_;(repeat (first | intro (g:Nat) | intro h)))
 rename_i g2
 refine Ex.sub (L':=Blk g 53 ((.bool true::(Rep.cells kb++Rep.cells kl))++cellsOf (List.replicate 5 Clk.zero)++[])::Po g0 vs vt::Ptrs vs ss::Told vt told::Shs most ss::Blk g2 53 (.bool false::List.replicate 35 (.int .i64 0))::M) ?_ rB
 (refine Ex.mixA 7 (_::_::_::_::_::M) rfl rQ rF ?_;(refine mn ?_;intros))
 refine mx_val rJ rJ rJ (vl_slArrO rJ rJ rJ rJ rJ) ?_
 (refine mn ?_;intros)
 refine mx_act rJ rJ rJ ?_
 refine st_copyM 0 (pre:=.bool true::(Rep.cells kb++Rep.cells kl)) (post:=[]) (List.replicate 5 Clk.zero) told rJ rJ rJ rfl rJ rJ rJ rD rM rJ rJ rJ ?_
 (refine mw ?_;intros)
 rw [site_cells kb kl rM]
 exact re0
end
section
def joinK (x y:Clk) (k:Nat):Clk:=clkOf fun i=>if i<k then max (x.get i) (y.get i) else x.get i
theorem joinK_all (x y:Clk):joinK x y 5=x.join y:=rfl
theorem joinK_get {x y:Clk} {k:Nat} (hk:k<5):(joinK x y k).get k=x.get k:=by
 unfold joinK;rw [clkOf_get _ _ hk,if_neg rM]
theorem joinK_succ {x y:Clk} {k:Nat} (hk:k<5):(Rep.cells (joinK x y k)).set k (.int .i64 (max (x.get k) (y.get k)))=Rep.cells (joinK x y (k+1)):=by
 unfold joinK
 rw [clkOf_set _ _ _ hk]
 congr 1
 refine clkOf_congr fun i hi=>?_
 by_cases h:i=k
 ·subst h;rw [if_pos rfl,if_pos rM]
 ·rw [if_neg h]
  by_cases h2:i<k
  ·rw [if_pos h2,if_pos rM]
  ·rw [if_neg h2,if_neg rM]
attribute [local irreducible] StarOf StarBut
theorem join_F (x y:Clk) (M:List Assn):Fn Tryz.prog 193 #[.agg (Rep.cells x).toArray,.agg (Rep.cells y).toArray] M fun v L'=>v=.agg (Rep.cells (x.join y)).toArray∧L'=M:=by
 refine Fn.of_ex Tryz.func193 rfl Tryz.ntmps193 rfl ?_
 (refine rn ?_;(repeat (first | intro (g:Nat) | intro (v:Value) | intro (o:O1 _) | intro (cs:List Value) | intro (hcs:_=List.set _ _ _) | intro (zs:List _) | intro h)))
 rename_i g2 g3
 revert g
 intro g4
 refine Ex.loop [6] (fun m vs2 L'=>∃ k:Nat,k≤5∧m=5 - k∧vs2=[.int .i64 k]∧L'=Blk g4 50 (Rep.cells Clk.zero)::Blk g3 50 (Rep.cells y)::Blk g2 50 (Rep.cells (joinK x y k))::M) 5 ⟨0,by omega,rfl,rfl,rfl⟩ ?_
 rintro m vs2 g1 L' ⟨k,hk,rfl,rfl,rfl⟩
 by_cases hlt:k<5
 ·have hlen:(Rep.cells (joinK x y k)).length=5:=rfl
  (refine rn ?_;(repeat (first | intro (cs:List Value) | intro (hcs:_=List.set _ _ _) | intro h)))
  (refine mu8 ?_;(repeat (first | intro (cs:List Value) | intro (hcs:_=List.set _ _ _) | intro h)))
  rw [getD5,getD5,show (k:Int).toNat=k by omega,joinK_get hlt]
  (refine rn ?_;(repeat (first | intro (cs:List Value) | intro (hcs:_=List.set _ _ _) | intro h)))
  have hcs2:cs=Rep.cells (joinK x y (k+1)):=by rw [hcs,show 0+(k:Int).toNat * 1=k by omega,joinK_succ hlt]
  subst hcs2
  exact rnd_n ⟨5 - (k+1),_,by omega,rB,k+1,by omega,rfl,lcons (vint rM) rfl,rfl⟩
 ·obtain rfl:k=5:=by omega
  rw [joinK_all]
  exact re0
def cutSh (ss:List Sh) (told:List Clk) (k:Nat) (ss2:List Sh):Prop:=ss2.length=ss.length∧(∀ i (h:i<ss.length) (h2:i<ss2.length),(ss2[i]'h2).g=(ss[i]'h).g∧(ss2[i]'h2).sf=if i<k then (ss[i]'h).sf.to (leastR told i) else (ss[i]'h).sf)
theorem cutSh_zero (ss:List Sh) (told:List Clk):cutSh ss told 0 ss:=⟨rfl,fun i h h2=>⟨rfl,by rw [if_neg rM]⟩⟩
theorem cutSh_succ {ss ss2:List Sh} {told:List Clk} {k:Nat} (h:cutSh ss told k ss2) (hk:k<ss.length) {x:Sh} (hg:x.g=(ss2[k]'(by rw [h.1];exact hk)).g) (hf:x.sf=(ss2[k]'(by rw [h.1];exact hk)).sf.to (leastR told k)):cutSh ss told (k+1) (ss2.set k x):=by
 refine ⟨by rw [List.length_set];exact h.1,fun i hi hi2=>?_⟩
 rw [List.length_set] at hi2
 obtain ⟨h1,h2⟩:=h.2 i hi hi2
 rw [List.getElem_set]
 split
 ·rename_i e
  subst e
  rw [if_neg rM] at h2
  exact ⟨hg.trans h1,by rw [hf,h2,if_pos rM]⟩
 ·rename_i e
  refine ⟨h1,?_⟩
  rw [h2]
  by_cases h3:i<k
  ·rw [if_pos h3,if_pos rM]
  ·rw [if_neg h3,if_neg rM]
theorem post_Ack (g0:Nat) (vs vt:Value) (most:Int) (ss:List Sh) (told:List Clk) (r:Int) (c:Clk) (M:List Assn) (hs5:ss.length≤5) (hl:told.length=ss.length) (hok:∀ x∈ss,x.sf.Ok∧x.sf.all.length≤100000000) :
  Fn Tryz.prog 133 #[.pointer (some ⟨g0,0,none⟩),.int .i64 r,.agg (Rep.cells c).toArray] (Po g0 vs vt::Ptrs vs ss::Told vt told::Shs most ss::M)
  fun v L'=>(¬ (0≤r∧r<ss.length)∧v=.int .i64 23∧L'=Po g0 vs vt::Ptrs vs ss::Told vt told::Shs most ss::M) ∨
   ((0≤r∧r<ss.length)∧v=.int .i64 0∧∃ ss2:List Sh,cutSh ss (told.set r.toNat ((told.getD r.toNat Clk.zero).join c)) ss.length ss2∧L'=Po g0 vs vt::Ptrs vs ss2::Told vt (told.set r.toNat ((told.getD r.toNat Clk.zero).join c))::Shs most ss2::M):=by
 have hml:(ss.map fun s=>Ptr.mk s.g).length=ss.length:=List.length_map ..
 refine Fn.of_ex Tryz.func133 rfl Tryz.ntmps133 rfl ?_
 (refine rn ?_;intros)
 refine st_callIs [2,2] rJ Tryz.call190 rE rJ (post_has g0 vs vt ss r _) ?_
 rintro _ _ ⟨rfl,rfl⟩
 by_cases hr:0≤r∧r<ss.length
 ·rw [decide_eq_true hr]
  obtain ⟨n,rfl⟩:=Int.eq_ofNat_of_zero_le hr.1
  have hn:n<told.length:=by omega
  (refine rn ?_;intros)
  (refine mu14 ?_;intros)
  (refine mx_act rJ rJ rJ ?_;refine st_callIs [] rJ Tryz.call193 rE rJ (join_F _ c _) ?_)
  rintro _ _ ⟨rfl,rfl⟩
  (refine mw ?_;intros)
  (refine rn ?_;intros)
  refine st_storeRA 3 rJ rJ rJ rJ rJ rM rE ?_
  obtain ⟨td,htd⟩:∃ td,td=told.set n ((told[n]'hn).join c):=⟨_,rfl⟩
  have htd2:told.set (n:Int).toNat ((told.getD (n:Int).toNat Clk.zero).join c)=td:=by
   rw [htd,Int.toNat_natCast]
   simp [List.getD_eq_getElem?_getD,hn]
  rw [htd2,← htd]
  have htl:td.length=ss.length:=by rw [htd,List.length_set];exact hl
  clear htd htd2
  (refine rn ?_;intros)
  refine Ex.sub (L':=Po g0 vs vt::Ptrs vs ss::Told vt td::Shs most ss::M) ?_ rB
  refine Ex.loop [32] (fun m vs2 L'=>∃ (k:Nat) (ss2:List Sh),k≤ss.length∧m=ss.length - k∧cutSh ss td k ss2∧vs2=[.int .i64 k]∧L'=Po g0 vs vt::Ptrs vs ss2::Told vt td::Shs most ss2::M) ss.length ⟨0,ss,by omega,rfl,cutSh_zero ss td,rfl,rfl⟩ ?_
  rintro m vs2 g1 L' ⟨k,ss2,hk,rfl,hC,rfl,rfl⟩
  have hl2:=hC.1
  by_cases hlt:k<ss.length
  ·have hk2:k<ss2.length:=by omega
   have hsf:=(hC.2 k hlt hk2).2
   rw [if_neg rM] at hsf
   have hok1:=hok _ (List.getElem_mem hlt)
   (refine rn ?_;intros)
   refine st_callIs [] rJ Tryz.call192 rE rJ (post_cut g0 vs vt most ss2 td k _ hk2 rM rM (by rw [hsf];exact hok1.1) (by rw [hsf];exact hok1.2)) ?_
   rintro _ _ ⟨x,hxg,hxf,rfl⟩
   (refine rn ?_;intros)
   exact rnd_n ⟨ss.length - (k+1),_,by omega,rB,k+1,ss2.set k x,by omega,rfl,cutSh_succ hC hlt hxg hxf,lcons (vint rM) rfl,rfl⟩
  ·obtain rfl:k=ss.length:=by omega
   (refine rn ?_;intros)
   (refine fr ?_)
   exact ⟨_,rB,.inr ⟨hr,rfl,ss2,hC,rfl⟩⟩
 ·rw [decide_eq_false hr]
  (refine rn ?_;intros)
  (refine fr ?_)
  refine ⟨_,?_,.inl ⟨hr,rfl,rfl⟩⟩
  exact rB
end
section
theorem putR_err {most len k:Int} {l:List Ev} (h:(putR most len k l).1≠0):(putR most len k l).2=[]:=by
 unfold putR at h ⊢
 split
 ·rfl
 ·split
  ·rfl
  ·rename_i h1 h2
   rw [if_neg h1,if_neg h2] at h
   exact absurd rfl h
theorem putR_len (most len k:Int) (l:List Ev):(putR most len k l).2.length≤l.length:=by
 unfold putR
 split
 ·simp
 ·split
  ·simp
  ·exact List.length_filter_le _ _
def badPush (n:Nat) (r:Int) (l:List Ev):Prop:=¬ (0≤r∧r<n)∨∃ e∈l,e.r≠r
@[reducible] noncomputable def pushR (most:Int) (s:Sf) (l:List Ev):Int×List Ev:=putR most s.all.length (s.all.length - s.cut:Nat) l
attribute [local irreducible] StarOf StarBut
theorem post_Push (g0:Nat) (vs vt u:Value) (most:Int) (ss:List Sh) (told:List Clk) (r:Int) (l:List Ev) (M:List Assn) (hs5:ss.length≤5) (hl:told.length=ss.length) (hok:∀ x∈ss,x.sf.Ok∧x.sf.all.length≤10000000)
    (hu:RdT M u l) (hll:l.length≤10000000) (hI:∀ e∈l,I64 e.n) :
    Fn Tryz.prog 132 #[.pointer (some ⟨g0,0,none⟩),.int .i64 r,u] (Po g0 vs vt::Ptrs vs ss::Told vt told::Shs most ss::M)
    fun v L'=>(badPush ss.length r l∧v=.tuple #[.int .i64 0,.int .i64 23]∧L'=Po g0 vs vt::Ptrs vs ss::Told vt told::Shs most ss::M) ∨
      (¬ badPush ss.length r l∧∃ h:r.toNat<ss.length,∃ x:Sh,x.g=(ss[r.toNat]'h).g∧L'=Po g0 vs vt::Ptrs vs (ss.set r.toNat x)::Told vt told::Shs most (ss.set r.toNat x)::M ∧
        ((pushR most (ss[r.toNat]'h).sf l).1≠0∧v=.tuple #[.int .i64 0,.int .i64 (pushR most (ss[r.toNat]'h).sf l).1]∧x.sf=(ss[r.toNat]'h).sf ∨
         (pushR most (ss[r.toNat]'h).sf l).1=0∧v=.tuple #[.int .i64 x.sf.all.length,.int .i64 0]∧x.sf=(⟨(ss[r.toNat]'h).sf.all++(pushR most (ss[r.toNat]'h).sf l).2,(ss[r.toNat]'h).sf.cut⟩:Sf).to (leastR told r.toNat))):=by
  have hml:(ss.map fun s=>Ptr.mk s.g).length=ss.length:=List.length_map ..
  refine Fn.of_ex Tryz.func132 rfl Tryz.ntmps132 rfl ?_
  (refine rn ?_;(repeat (first | intro (g:Nat) | intro h)))
  refine st_callIs [] rJ Tryz.call190 rE rJ (post_has g0 vs vt ss r _) ?_
  rintro _ _ ⟨rfl,rfl⟩
  by_cases hr:0≤r∧r<ss.length
  · rw [decide_eq_true hr]
    obtain ⟨n,rfl⟩:=Int.eq_ofNat_of_zero_le hr.1
    have hn:n<ss.length:=by omega
    (refine rn ?_;(repeat (first | intro (g:Nat) | intro h)))
    refine Ex.loop [17] (fun m vs2 L'=>∃ k:Nat,k≤l.length∧m=l.length - k∧(∀ j (hj:j<l.length),j<k→(l[j]'hj).r=(n:Int))∧vs2=[.int .i64 k]∧L'=Po g0 vs vt::Ptrs vs ss::Told vt told::Shs most ss::M) l.length ⟨0,by omega,rfl,fun j _ h=>by omega,rfl,rfl⟩ ?_
    rintro m vs2 g1 L' ⟨k,hk,rfl,hall,rfl,rfl⟩
    by_cases hlt:k<l.length
    · by_cases he:(l[k]'hlt).r=(n:Int)
      · (refine rn ?_;(repeat (first | intro (g:Nat) | intro h)))
        exact rnd_n ⟨l.length - (k+1),_,by omega,rB,k+1,by omega,rfl,fun j hj hjk=>by
          by_cases h:j=k
          · subst h;exact he
          · exact hall j hj rM,lcons (vint rM) rfl,rfl⟩
      · (refine rn ?_;(repeat (first | intro (g:Nat) | intro h)))
        (refine fr ?_)
        exact ⟨_,rB,.inl ⟨.inr ⟨_,List.getElem_mem hlt,he⟩,rfl,rfl⟩⟩
    · have hgood:¬ badPush ss.length (n:Int) l:=by
        rintro (h | ⟨e,he,hne⟩)
        · exact h hr
        · obtain ⟨j,hj,rfl⟩:=List.getElem_of_mem he
          exact hne (hall j hj rM)
      have hok1:=hok _ (List.getElem_mem hn)
      clear hall
      unfold Sf.Ok at hok1
      have hdl:((ss[n]'hn).sf.all.drop (ss[n]'hn).sf.cut).length=(ss[n]'hn).sf.all.length - (ss[n]'hn).sf.cut:=List.length_drop ..
      obtain ⟨p,hp⟩:∃ p,p=pushR most (ss[n]'hn).sf l:=⟨_,rfl⟩
      have hp2:putR most ((ss[n]'hn).sf.cut+((ss[n]'hn).sf.all.drop (ss[n]'hn).sf.cut).length) ((ss[n]'hn).sf.all.drop (ss[n]'hn).sf.cut).length l=p:=by
        rw [hp];unfold pushR;rw [hdl];congr 1;omega
      have hpl:p.2.length≤l.length:=by rw [hp];exact putR_len _ _ _ _
      (refine rn ?_;(repeat (first | intro (g:Nat) | intro h)))
      rw [List.getElem_map]
      refine ExL.sub (L':=ShB most (ss[n]'hn)::ShC (ss[n]'hn)::ShsBut most ss n::Po g0 vs vt::Ptrs vs ss::Told vt told::M) ?_ (post_opn hn M)
      refine st_callIs [] rJ Tryz.call191 rE rJ (shelf_Put (ss[n]'hn).g most (ss[n]'hn).sf.cut (ss[n]'hn).v u ((ss[n]'hn).sf.all.drop (ss[n]'hn).sf.cut) l _ rD hI rM rM rM (ss[n]'hn).one) ?_
      rintro _ _ ⟨rfl,v1,o1,rfl⟩
      rw [hp2,← List.drop_append_of_le_length (show (ss[n]'hn).sf.cut≤(ss[n]'hn).sf.all.length by omega)]
      obtain ⟨x1,hx1⟩:∃ x1:Sh,x1=⟨(ss[n]'hn).g,v1,o1,⟨(ss[n]'hn).sf.all++p.2,(ss[n]'hn).sf.cut⟩⟩:=⟨_,rfl⟩
      have hx1g:x1.g=(ss[n]'hn).g:=by rw [hx1]
      have hx1f:x1.sf=⟨(ss[n]'hn).sf.all++p.2,(ss[n]'hn).sf.cut⟩:=by rw [hx1]
      refine ExL.sub (L':=Po g0 vs vt::Ptrs vs (ss.set n x1)::Told vt told::Shs most (ss.set n x1)::M) ?_ (Sub.trans (post_put (x:=x1) hn hx1g M) (by rw [hx1];exact rB))
      clear hx1 hp2 hdl
      by_cases hp0:p.1=0
      · rw [hp0]
        have hs2:n<(ss.set n x1).length:=by simpa using hn
        have he:(ss.set n x1)[n]'hs2=x1:=List.getElem_set_self _
        (refine rn ?_;(repeat (first | intro (g:Nat) | intro h)))
        refine st_callIs [] rJ Tryz.call192 rE rJ (post_cut g0 vs vt most (ss.set n x1) told n _ hs2 (by simp;omega) (by simp;omega) (by rw [he,hx1f];unfold Sf.Ok;simp;omega) (by rw [he,hx1f];simp;omega)) ?_
        rintro _ _ ⟨x,hxg,hxf,rfl⟩
        rw [he] at hxg hxf
        rw [List.set_set]
        have hs3:n<(ss.set n x).length:=by simpa using hn
        have he2:(ss.set n x)[n]'hs3=x:=List.getElem_set_self _
        have hml2:((ss.set n x).map fun s=>Ptr.mk s.g).length=ss.length:=by simp
        have hxa:x.sf.all=(ss[n]'hn).sf.all++p.2:=by rw [hxf,hx1f];rfl
        have hxo:x.sf.Ok:=by rw [hxf];exact Sf.to_ok (by rw [hx1f];unfold Sf.Ok;simp;omega) _
        (refine rn ?_;(repeat (first | intro (g:Nat) | intro h)))
        rw [List.getElem_map,he2]
        refine ExL.sub (L':=ShB most x::ShC x::ShsBut most (ss.set n x) n::Po g0 vs vt::Ptrs vs (ss.set n x)::Told vt told::M) ?_ (by have:=post_opn (g:=g0) (vs:=vs) (vt:=vt) (most:=most) (told:=told) hs3 M;rwa [he2] at this)
        refine st_callIs [] rJ Tryz.call160 rE rJ (len_fn most x _ hxo (by rw [hxa];simp;omega)) ?_
        rintro _ _ ⟨rfl,rfl⟩
        (refine rn ?_;(repeat (first | intro (g:Nat) | intro h)))
        (refine fr ?_)
        refine ⟨_,(by have:=post_cls (g:=g0) (vs:=vs) (vt:=vt) (most:=most) (told:=told) hs3 M;rwa [he2] at this),.inr ⟨hgood,hn,x,hxg.trans hx1g,rfl,.inr ⟨by show (pushR most (ss[n]'hn).sf l).1=0;rw [← hp];exact hp0,rfl,?_⟩⟩⟩
        show x.sf=(⟨(ss[n]'hn).sf.all++(pushR most (ss[n]'hn).sf l).2,(ss[n]'hn).sf.cut⟩:Sf).to (leastR told n)
        rw [hxf,hx1f,hp]
      · (refine rn ?_;intros)
        (refine fr ?_)
        refine ⟨_,Sub.refl _,.inr ⟨hgood,hn,x1,hx1g,rfl,.inl ⟨by show (pushR most (ss[n]'hn).sf l).1≠0;rw [← hp];exact hp0,by show _=Value.tuple #[.int .i64 0,.int .i64 (pushR most (ss[n]'hn).sf l).1];rw [← hp],?_⟩⟩⟩
        show x1.sf=(ss[n]'hn).sf
        have hnil:p.2=[]:=by rw [hp] at hp0 ⊢;exact putR_err hp0
        rw [hx1f,hnil,List.append_nil]
  · rw [decide_eq_false hr]
    (refine rn ?_;intros)
    (refine fr ?_)
    exact ⟨_,rB,.inl ⟨.inl hr,rfl,rfl⟩⟩
end
section
def fetN (ss:List Sh) (r:Int) (c:Clk):Nat→List Ev
 | 0=>[]
 | k+1=>if (k:Int)≠r then fetN ss r c k++above (c.get k) ((ss.getD k Sh.zero).sf.all.drop (ss.getD k Sh.zero).sf.cut) else fetN ss r c k
theorem fetN_len {ss:List Sh} (h:∀ x∈ss,x.sf.all.length≤10000000) (r:Int) (c:Clk):∀ k,k≤ss.length→(fetN ss r c k).length≤k * 10000000
 | 0,_=>by simp [fetN]
 | k+1,hk=>by
  have ih:=fetN_len h r c k rM
  have e:ss.getD k Sh.zero=ss[k]'rM:=by simp [List.getD_eq_getElem?_getD,show k<ss.length by omega]
  have h1:=h _ (List.getElem_mem (show k<ss.length by omega))
  have h2:=above_len (c.get k) ((ss[k]'rM).sf.all.drop (ss[k]'rM).sf.cut)
  simp only [fetN]
  rw [Nat.succ_mul]
  generalize k * 10000000=z at ih
  split
  ·rw [List.length_append,e]
   rw [List.length_drop] at h2
   omega
  ·omega
instance:ZRep Tryz.prog 50 Clk:=⟨Clk.zero,by kernel_rfl,by kernel_rfl⟩
attribute [local irreducible] StarOf StarBut
theorem post_Fetch (g0:Nat) (vs vt:Value) (most:Int) (ss:List Sh) (told:List Clk) (r:Int) (c:Clk) (M:List Assn) (hs5:ss.length≤5) (hok:∀ x∈ss,x.sf.all.length≤10000000) :
  Fn Tryz.prog 199 #[.pointer (some ⟨g0,0,none⟩),.int .i64 r,.agg (Rep.cells c).toArray] (Po g0 vs vt::Ptrs vs ss::Told vt told::Shs most ss::M)
  fun v L'=>∃ u:Value,u.oneCell'=true∧v=.tuple #[u,.int .i64 (if 0≤r∧r<ss.length then 0 else 23)]∧L'=Evs_ u (if 0≤r∧r<ss.length then fetN ss r c ss.length else [])::Po g0 vs vt::Ptrs vs ss::Told vt told::Shs most ss::M:=by
 have hml:(ss.map fun s=>Ptr.mk s.g).length=ss.length:=List.length_map ..
 refine Fn.of_ex Tryz.func199 rfl Tryz.ntmps199 rfl ?_
 (refine rn ?_;(repeat (first | intro (g:Nat) | intro (v:Value) | intro h)))
 refine st_callIs [2,2] rJ Tryz.call190 rE rJ (post_has g0 vs vt ss r _) ?_
 rintro _ _ ⟨rfl,rfl⟩
 by_cases hr:0≤r∧r<ss.length
 ·rw [decide_eq_true hr,if_pos hr,if_pos hr]
  (refine rn ?_;(repeat (first | intro (g:Nat) | intro (v:Value) | intro h)))
  revert g
  intro g5
  refine Ex.sub (L':=Blk g5 50 (Rep.cells c)::Evs_ (.slice none 0 0) []::Po g0 vs vt::Ptrs vs ss::Told vt told::Shs most ss::M) ?_ (Sub.trans (Sub.fr [3] rE rB) (Sub.empty (α:=Ev) none 80 _))
  refine Ex.loop [8,20] (fun m vs2 L'=>∃ (k:Nat) (u:Value),k≤ss.length∧m=ss.length - k∧u.oneCell'=true∧vs2=[u,.int .i64 k]∧L'=Blk g5 50 (Rep.cells c)::Evs_ u (fetN ss r c k)::Po g0 vs vt::Ptrs vs ss::Told vt told::Shs most ss::M) ss.length ⟨0,_,by omega,rfl,rfl,rfl,rfl⟩ ?_
  rintro m vs2 g1 L' ⟨k,u,hk,rfl,ou,rfl,rfl⟩
  by_cases hlt:k<ss.length
  ·have hfl:=fetN_len hok r c k hk
   have hk1:=hok _ (List.getElem_mem hlt)
   by_cases hkr:(k:Int)=r
   ·(refine rn ?_;(repeat (first | intro (v:Value) | intro h)))
    exact rnd_n ⟨ss.length - (k+1),_,by omega,rB,k+1,u,by omega,rfl,ou,lcons rfl (lcons (vint rM) rfl),by simp only [fetN];rw [if_neg rM]⟩
   ·have hab:=above_len (c.get k) ((ss[k]'hlt).sf.all.drop (ss[k]'hlt).sf.cut)
    have hdl:((ss[k]'hlt).sf.all.drop (ss[k]'hlt).sf.cut).length=(ss[k]'hlt).sf.all.length - (ss[k]'hlt).sf.cut:=List.length_drop ..
    have hfs:fetN ss r c (k+1)=fetN ss r c k++above (c.get k) ((ss[k]'hlt).sf.all.drop (ss[k]'hlt).sf.cut):=by
     have e:ss.getD k Sh.zero=ss[k]'hlt:=by simp [List.getD_eq_getElem?_getD,hlt]
     simp only [fetN]
     rw [if_pos hkr,e]
    (refine rn ?_;(repeat (first | intro (v:Value) | intro h)))
    rw [getD5,show (k:Int).toNat=k by omega,List.getElem_map]
    refine ExL.sub (L':=ShB most (ss[k]'hlt)::ShC (ss[k]'hlt)::ShsBut most ss k::Po g0 vs vt::Ptrs vs ss::Told vt told::Blk g5 50 (Rep.cells c)::Evs_ u (fetN ss r c k)::M) ?_ (Sub.trans (post_opn hlt _) (Sub.fr [5,5,5,5] rE rB))
    refine st_callIs [] rJ Tryz.call252 rE rJ (shelf_From (ss[k]'hlt).g most (ss[k]'hlt).sf.cut (c.get k) (ss[k]'hlt).v ((ss[k]'hlt).sf.all.drop (ss[k]'hlt).sf.cut) _ rM (ss[k]'hlt).one) ?_
    rintro u2 _ ⟨ou2,rfl⟩
    (refine rn ?_;(repeat (first | intro (v:Value) | intro h)))
    rw [← hfs]
    exact rnd_n ⟨ss.length - (k+1),_,by omega,Sub.trans (Sub.fr [5,5] rE (Sub.refl _)) (Sub.trans (post_cls hlt (Blk g5 50 (Rep.cells c)::Evs_ v (fetN ss r c (k+1))::M)) rB),k+1,v,by omega,rfl,by assumption,lcons rfl (lcons (vint rM) rfl),rfl⟩
  ·obtain rfl:k=ss.length:=by omega
   (refine rn ?_;intros)
   (refine fr ?_)
   exact ⟨_,Sub.drop _ (Sub.refl _),u,ou,rfl,rfl⟩
 ·rw [decide_eq_false hr,if_neg hr,if_neg hr]
  (refine rn ?_;intros)
  (refine fr ?_)
  exact ⟨_,Sub.trans (Sub.cons _ rB) (Sub.empty (α:=Ev) none 80 _),.slice none 0 0,rfl,rfl,rfl⟩
theorem post_New (c:Cfg) (M:List Assn):Fn Tryz.prog 130 #[.agg (Rep.cells c).toArray] M
  fun v L'=>∃ (g:Nat) (vs vt:Value) (ss:List Sh),v=.pointer (some ⟨g,0,none⟩)∧vs.oneCell'=true∧ss.length=(min (max c.n 0) 5).toNat∧(∀ x∈ss,x.sf=Sf.none)∧L'=Po g vs vt::Ptrs vs ss::Told vt (List.replicate (min (max c.n 0) 5).toNat Clk.zero)::Shs c.w ss::M:=by
 obtain ⟨N,hNn⟩:∃ N:Nat,(N:Int)=min (max c.n 0) 5:=⟨(min (max c.n 0) 5).toNat,by omega⟩
 refine Fn.of_ex Tryz.func130 rfl Tryz.ntmps130 rfl ?_
 (repeat' (first | (refine r1 ?_;(repeat (first | intro (g:Nat) | intro (v:Value) | intro (o:O1 _) | intro (cs:List Value) | intro (hcs:_=List.set _ _ _) | intro (zs:List _) | intro h))) | (refine Ex.cond_d rJ (fun h=>?_) (fun h=>?_) <;> try (exfalso;omega)) | (apply exlGuard;refine ExL.gsplit rJ rJ rJ (fun h=>?_) (fun h=>?_) <;> try (exfalso;omega))))
 rw [← hNn,Int.toNat_natCast]
 (refine rn ?_;(repeat (first | intro (g:Nat) | intro (v:Value) | intro (o:O1 _) | intro (cs:List Value) | intro (hcs:_=List.set _ _ _) | intro (zs:List _) | intro h)))
 rename_i g1
 revert g v
 intro vt ovt gp
 refine Ex.sub (L':=Blk g1 23 (Rep.cells c)::Po gp (.slice none 0 0) vt::Ptrs (.slice none 0 0) []::Told vt (List.replicate N Clk.zero)::Shs c.w []::M) ?_ ?_
 ·refine Ex.loop [14] (fun m vs2 L'=>∃ (k:Nat) (vs:Value) (ss:List Sh),k≤N∧m=N - k∧vs.oneCell'=true∧ss.length=k∧(∀ x∈ss,x.sf=Sf.none)∧vs2=[.int .i64 k]∧L'=Blk g1 23 (Rep.cells c)::Po gp vs vt::Ptrs vs ss::Told vt (List.replicate N Clk.zero)::Shs c.w ss::M) N ⟨0,_,[],by omega,rfl,rfl,rfl,by simp,rfl,rfl⟩ ?_
  rintro m vs2 gf L' ⟨k,vs,ss,hk,rfl,ovs,hsl,hss,rfl,rfl⟩
  by_cases hlt:k<N
  ·have hml:(ss.map fun s=>Ptr.mk s.g).length=ss.length:=List.length_map ..
   (refine rn ?_;(repeat (first | intro (g:Nat) | intro (v:Value) | intro h)))
   refine Ex.reord [2] rE ?_
   (refine Ex.mixA 10 (_::_::_::_::M) rfl rQ rF ?_;(refine mn ?_;(repeat (first | intro (g:Nat) | intro (v:Value) | intro h))))
   (refine mx_act rJ rJ rJ ?_;refine st_callIs [] rJ Tryz.call189 rE rJ (shelf_New c.w _) ?_)
   rintro _ _ ⟨gs,rfl,rfl⟩
   (refine ExL.nil ?_;refine mxEnd_n rF ?_;(refine mn ?_;(repeat (first | intro (g:Nat) | intro (v:Value) | intro h))))
   refine mx_slice1V (⟨gs⟩:Ptr) rJ rJ rJ rJ rJ rJ rJ rJ (fun g=>?_)
   (repeat' (first | (refine m1 ?_;(repeat (first | intro (v:Value) | intro h))) | (refine mx_gsplit rJ rJ rJ (fun h=>?_) (fun h=>?_) <;> try (exfalso;omega))))
   (refine rn ?_;(repeat (first | intro (v:Value) | intro h)))
   obtain ⟨x,hx⟩:∃ x:Sh,x=⟨gs,.slice none 0 0,rfl,Sf.none⟩:=⟨_,rfl⟩
   have hP:Ptrs v (ss++[x])=RowT v 240 (ss.map (fun s=>Ptr.mk s.g)++[⟨gs⟩]):=by unfold Ptrs;rw [List.map_append,hx];rfl
   refine rnd_n ⟨N - (k+1),Blk g1 23 (Rep.cells c)::Po gp v vt::Ptrs v (ss++[x])::Told vt (List.replicate N Clk.zero)::Shs c.w (ss++[x])::M,by omega,?_,k+1,v,ss++[x],by omega,rfl,by assumption,by simp [hsl],fun y hy=>by
    rcases List.mem_append.1 hy with hy | hy
    ·exact hss y hy
    ·rw [List.mem_singleton.1 hy,hx],lcons (vint rM) rfl,rfl⟩
   rw [hP]
   refine Sub.trans (Sub.fr [4,4,2,4] rE (Sub.refl _)) (Sub.trans (StarOf.last (B:=ShB c.w) (C:=ShC) x (RowT v 240 (ss.map (fun s=>Ptr.mk s.g)++[⟨gs⟩])::Blk g1 23 (Rep.cells c)::Po gp v vt::Told vt (List.replicate N Clk.zero)::M)) ?_)
   rw [hx]
   exact Sub.fr [3,3,7] rE rB
  ·obtain rfl:k=N:=by omega
   (refine rn ?_;intros)
   (refine fr ?_)
   exact ⟨_,Sub.drop _ (Sub.refl _),gp,vs,vt,ss,rfl,ovs,hsl,hss,rfl⟩
 ·exact Sub.trans (Sub.fr [4,3,2,3] rE rB) (Sub.trans (StarOf.nil _) (Sub.empty (α:=Ptr) none 240 _))
end
end
section
def PoA (g:Nat) (most:Int) (st:PSt):Assn:=fun h=>∃ (vs vt:Value) (ss:List Sh),ss.map Sh.sf=st.sf∧Star [Po g vs vt,Ptrs vs ss,Told vt st.told,Shs most ss] h
theorem star4 (A B C D:Assn) (L:List Assn):Sub (A::B::C::D::L) (Star [A,B,C,D]::L) :=
 Sub.trans (Sub.cons A (Sub.trans (Sub.cons B (Sub.trans (Sub.cons C (Sub.trans (Sub.cons D (Sub.drop _ (Sub.refl L))) (Star.open1 (A:=D) (As:=[]) L))) (Star.open1 (A:=C) (As:=[D]) L))) (Star.open1 (A:=B) (As:=[C,D]) L))) (Star.open1 (A:=A) (As:=[B,C,D]) L)
theorem star4c (A B C D:Assn) (L:List Assn):Sub (Star [A,B,C,D]::L) (A::B::C::D::L) :=
 Sub.trans (Star.close1 (A:=A) (As:=[B,C,D]) L) (Sub.cons A (Sub.trans (Star.close1 (A:=B) (As:=[C,D]) L) (Sub.cons B (Sub.trans (Star.close1 (A:=C) (As:=[D]) L) (Sub.cons C (Sub.trans (Star.close1 (A:=D) (As:=[]) L) (Sub.cons D (Star.nil L))))))))
theorem PoA.cls {g:Nat} {most:Int} {st:PSt} {vs vt:Value} {ss:List Sh} (h:ss.map Sh.sf=st.sf) (M:List Assn):Sub (PoA g most st::M) (Po g vs vt::Ptrs vs ss::Told vt st.told::Shs most ss::M) :=
 Sub.trans (Sub.cons' (fun x a=>⟨vs,vt,ss,h,a⟩) (Sub.refl M)) (star4c _ _ _ _ M)
theorem PoA.fn {P:Program} {k:FuncId} {args:Array Value} {g:Nat} {most:Int} {st:PSt} {M:List Assn} {R:Value→List Assn→Prop} (h:∀ vs vt ss,ss.map Sh.sf=st.sf→Fn P k args (Po g vs vt::Ptrs vs ss::Told vt st.told::Shs most ss::M) R):Fn P k args (PoA g most st::M) R:=fun F w0 w r ⟨x,⟨vs,vt,ss,hs,a⟩,d,s⟩ =>
 h vs vt ss hs F w0 w r (star4 _ _ _ _ M w F ⟨x,a,d,s⟩)
theorem Fn.res {P:Program} {k:FuncId} {args:Array Value} {L:List Assn} {R R':Value→List Assn→Prop} (h:Fn P k args L R) (hr:∀ v L',R v L'→∃ L2,Sub L2 L'∧R' v L2):Fn P k args L R':=fun F w0 w r s =>
 (h F w0 w r s).mono fun e w' ⟨v,L',he,hr',hs,hR⟩=>let ⟨L2,h1,h2⟩:=hr v L' hR;⟨v,L2,he,hr',h1 w' F hs,h2⟩
structure PSt.Ok (B:Nat) (st:PSt):Prop where
 n:st.sf.length≤5
 t:st.told.length=st.sf.length
 s:∀ x∈st.sf,x.Ok∧x.all.length≤B
theorem PSt.Ok.ss {B:Nat} {st:PSt} (h:st.Ok B) {ss:List Sh} (hs:ss.map Sh.sf=st.sf):ss.length=st.sf.length∧∀ x∈ss,x.sf.Ok∧x.sf.all.length≤B:=by
 refine ⟨by rw [← hs,List.length_map],fun x hx=>h.s _ ?_⟩
 rw [← hs]
 exact List.mem_map_of_mem hx
theorem sf_get {ss:List Sh} {st:PSt} (hs:ss.map Sh.sf=st.sf) {i:Nat} (h:i<ss.length):st.sf.getD i Sf.none=(ss[i]'h).sf:=by
 rw [← hs]
 simp [List.getD_eq_getElem?_getD,h]
theorem sh_get {ss:List Sh} {i:Nat} (h:i<ss.length):ss.getD i Sh.zero=ss[i]'h:=by
 simp [List.getD_eq_getElem?_getD,h]
theorem post_SiteA (g:Nat) (most:Int) (st:PSt) (M:List Assn) (hok:st.Ok 1000000):Fn Tryz.prog 92 #[.pointer (some ⟨g,0,none⟩)] (PoA g most st::M) fun v L'=>v=.agg (Rep.cells st.site).toArray∧L'=PoA g most st::M:=by
 refine PoA.fn fun vs vt ss hs=>?_
 obtain ⟨hl,hx⟩:=hok.ss hs
 refine (post_Site g vs vt most ss st.told M (by rw [hl];exact hok.n) (by rw [hl];exact hok.t) (fun x h=>⟨(hx x h).1,by have:=(hx x h).2;omega⟩)).res ?_
 rintro v L' ⟨rfl,rfl⟩
 refine ⟨_,PoA.cls hs M,?_,rfl⟩
 have e1:clkOf (eachF (fun s=>(s.cut:Int)) ss ss.length)=clkOf st.baseF:=clkOf_congr fun i hi=>by
  unfold eachF PSt.baseF
  rw [hl]
  by_cases h:i<st.sf.length
  ·rw [if_pos h,if_pos h,sh_get rM,sf_get hs rM]
  ·rw [if_neg h,if_neg h]
 have e2:clkOf (eachF (fun s=>(s.all.length:Int)) ss ss.length)=clkOf st.lenF:=clkOf_congr fun i hi=>by
  unfold eachF PSt.lenF
  rw [hl]
  by_cases h:i<st.sf.length
  ·rw [if_pos h,if_pos h,sh_get rM,sf_get hs rM]
  ·rw [if_neg h,if_neg h]
 rw [e1,e2]
 rfl
theorem fetN_get {ss:List Sh} {st:PSt} (hs:ss.map Sh.sf=st.sf) (r:Int) (c:Clk):∀ k,k≤ss.length→fetN ss r c k=st.getN r c k
 | 0,_=>rfl
 | k+1,hk=>by
  simp only [fetN,PSt.getN]
  rw [fetN_get hs r c k rM,sh_get rM,sf_get hs rM]
theorem post_FetchA (g:Nat) (most:Int) (st:PSt) (r:Int) (c:Clk) (M:List Assn) (hok:st.Ok 1000000):Fn Tryz.prog 199 #[.pointer (some ⟨g,0,none⟩),.int .i64 r,.agg (Rep.cells c).toArray] (PoA g most st::M)
  fun v L'=>∃ u:Value,u.oneCell'=true∧v=.tuple #[u,.int .i64 (st.fetch r c).2]∧L'=Evs_ u (st.fetch r c).1::PoA g most st::M:=by
 refine PoA.fn fun vs vt ss hs=>?_
 obtain ⟨hl,hx⟩:=hok.ss hs
 refine (post_Fetch g vs vt most ss st.told r c M (by rw [hl];exact hok.n) (fun x h=>by have:=(hx x h).2;omega)).res ?_
 rintro v L' ⟨u,ou,rfl,rfl⟩
 have he:st.fetch r c=(if 0≤r∧r<ss.length then fetN ss r c ss.length else [],if 0≤r∧r<ss.length then 0 else 23):=by
  unfold PSt.fetch PSt.has
  rw [hl]
  by_cases h:0≤r∧r<st.sf.length
  ·rw [if_neg (fun k=>k h),if_pos h,if_pos h,← hl,fetN_get hs r c _ (Nat.le_refl _)]
  ·rw [if_pos h,if_neg h,if_neg h]
 rw [he]
 exact ⟨_,Sub.cons _ (PoA.cls hs M),u,ou,rfl,rfl⟩
theorem PSt.cutN_get (told:List Clk) (sf:List Sf):∀ (k i:Nat) (h:i<sf.length),k≤sf.length→((⟨told,sf⟩:PSt).cutN k).sf[i]'(by rw [PSt.cutN_len];exact h)=if i<k then (sf[i]'h).to (leastR told i) else sf[i]'h
 | 0,i,h,_=>by simp [PSt.cutN]
 | k+1,i,h,hk=>by
  have ih:=PSt.cutN_get told sf k i h rM
  have e:((⟨told,sf⟩:PSt).cutN (k+1)).sf=((⟨told,sf⟩:PSt).cutN k).sf.set k ((((⟨told,sf⟩:PSt).cutN k).sf.getD k Sf.none).to (leastR told k)):=by
   show ((⟨told,sf⟩:PSt).cutN k).sf.set k ((((⟨told,sf⟩:PSt).cutN k).sf.getD k Sf.none).to (leastR ((⟨told,sf⟩:PSt).cutN k).told k))=_
   rw [PSt.cutN_told]
  have hkl:k<((⟨told,sf⟩:PSt).cutN k).sf.length:=by rw [PSt.cutN_len];exact hk
  simp only [e,List.getElem_set]
  by_cases h1:k=i
  ·subst h1
   rw [if_pos rfl,if_pos rM]
   have h2:=PSt.cutN_get told sf k k h rM
   rw [if_neg rM] at h2
   rw [show ((⟨told,sf⟩:PSt).cutN k).sf.getD k Sf.none=((⟨told,sf⟩:PSt).cutN k).sf[k]'hkl by simp [List.getD_eq_getElem?_getD,hkl],h2]
  ·rw [if_neg h1,ih]
   by_cases h2:i<k
   ·rw [if_pos h2,if_pos rM]
   ·rw [if_neg h2,if_neg rM]
theorem cut_all {ss ss2:List Sh} {told:List Clk} {sf:List Sf} (hs:ss.map Sh.sf=sf) (h:cutSh ss told ss.length ss2):ss2.map Sh.sf=((⟨told,sf⟩:PSt).cutN sf.length).sf:=by
 have hl:sf.length=ss.length:=by rw [← hs,List.length_map]
 refine List.ext_getElem (by rw [List.length_map,PSt.cutN_len,h.1];exact hl.symm) fun i h1 h2=>?_
 rw [PSt.cutN_len] at h2
 have h2:i<sf.length:=h2
 rw [PSt.cutN_get told sf sf.length i h2 (Nat.le_refl _),if_pos h2,List.getElem_map,(h.2 i rM (by rw [h.1];omega)).2,if_pos rM]
 subst hs
 rw [List.getElem_map]
theorem post_AckA (g:Nat) (most:Int) (st:PSt) (r:Int) (c:Clk) (M:List Assn) (hok:st.Ok 1000000):Fn Tryz.prog 133 #[.pointer (some ⟨g,0,none⟩),.int .i64 r,.agg (Rep.cells c).toArray] (PoA g most st::M)
  fun v L'=>v=.int .i64 (st.ack r c).1∧L'=PoA g most (st.ack r c).2::M:=by
 refine PoA.fn fun vs vt ss hs=>?_
 obtain ⟨hl,hx⟩:=hok.ss hs
 refine (post_Ack g vs vt most ss st.told r c M (by rw [hl];exact hok.n) (by rw [hl];exact hok.t) (fun x h=>⟨(hx x h).1,by have:=(hx x h).2;omega⟩)).res ?_
 rintro v L' (⟨hr,rfl,rfl⟩ | ⟨hr,rfl,ss2,hC,rfl⟩)
 ·have hst:¬ st.has r:=by unfold PSt.has;rw [← hl];exact hr
  have he:st.ack r c=(23,st):=by unfold PSt.ack;rw [if_pos hst]
  rw [he]
  exact ⟨_,PoA.cls hs M,rfl,rfl⟩
 ·have he:st.ack r c=(0,(⟨st.told.set r.toNat ((st.told.getD r.toNat Clk.zero).join c),st.sf⟩:PSt).cutN st.sf.length):=by
   have hst:st.has r:=by unfold PSt.has;rw [← hl];exact hr
   unfold PSt.ack;rw [if_neg (fun k=>k hst)]
  rw [he]
  have ht:=PSt.cutN_told (⟨st.told.set r.toNat ((st.told.getD r.toNat Clk.zero).join c),st.sf⟩:PSt) st.sf.length
  have h2:=PoA.cls (g:=g) (most:=most) (vs:=vs) (vt:=vt) (cut_all hs hC) M
  rw [ht] at h2
  exact ⟨_,h2,rfl,rfl⟩
theorem post_PushA (g:Nat) (most:Int) (st:PSt) (r:Int) (u:Value) (l:List Ev) (M:List Assn) (hok:st.Ok 1000000) (hu:RdT M u l) (hll:l.length≤1000000) (hI:∀ e∈l,I64 e.n):Fn Tryz.prog 132 #[.pointer (some ⟨g,0,none⟩),.int .i64 r,u] (PoA g most st::M)
  fun v L'=>v=.tuple #[.int .i64 (st.push most r l).1,.int .i64 (st.push most r l).2.1]∧L'=PoA g most (st.push most r l).2.2::M:=by
 refine PoA.fn fun vs vt ss hs=>?_
 obtain ⟨hl,hx⟩:=hok.ss hs
 refine (post_Push g vs vt u most ss st.told r l M (by rw [hl];exact hok.n) (by rw [hl];exact hok.t) (fun x h=>⟨(hx x h).1,by have:=(hx x h).2;omega⟩) hu rM hI).res ?_
 have hbad:badPush ss.length r l↔(¬ st.has r∨∃ e∈l,e.r≠r):=by unfold badPush PSt.has;rw [hl]
 rintro v L' (⟨hb,rfl,rfl⟩ | ⟨hb,hn,x,hxg,rfl,hcase⟩)
 ·have he:st.push most r l=(0,23,st):=by unfold PSt.push;rw [if_pos (hbad.1 hb)]
  rw [he]
  exact ⟨_,PoA.cls hs M,rfl,rfl⟩
 ·have hg:=sf_get hs hn
  have hset:∀ y:Sf,x.sf=y→(ss.set r.toNat x).map Sh.sf=st.sf.set r.toNat y:=fun y hy=>by rw [List.map_set,hs,hy]
  rcases hcase with ⟨hp,rfl,hxf⟩ | ⟨hp,rfl,hxf⟩
  ·have he:st.push most r l=(0,(pushR most (ss[r.toNat]'hn).sf l).1,st):=by
    unfold PSt.push
    rw [if_neg (fun k=>hb (hbad.2 k)),hg]
    exact if_pos hp
   rw [he]
   have h2:=hset _ hxf
   have h3:st.sf.set r.toNat (ss[r.toNat]'hn).sf=st.sf:=by
    rw [← hs,← List.getElem_map (f:=Sh.sf) (h:=by simpa using hn)]
    exact List.set_getElem_self _
   rw [h3] at h2
   exact ⟨_,PoA.cls h2 M,rfl,rfl⟩
  ·have hrl:r.toNat<st.sf.length:=by rw [← hl];exact hn
   have he:st.push most r l=(((x.sf.all.length:Nat):Int),(0:Int),(⟨st.told,st.sf.set r.toNat x.sf⟩:PSt)):=by
    unfold PSt.push
    rw [if_neg (fun k=>hb (hbad.2 k)),hg]
    refine (if_neg (fun k=>k hp)).trans ?_
    simp only [Sf.put]
    have e1:x.sf.all=(ss[r.toNat]'hn).sf.all++(pushR most (ss[r.toNat]'hn).sf l).2:=by rw [hxf];rfl
    rw [e1]
    simp only [PSt.cutAt,List.set_set]
    have e2:(st.sf.set r.toNat (⟨(ss[r.toNat]'hn).sf.all++(pushR most (ss[r.toNat]'hn).sf l).2,(ss[r.toNat]'hn).sf.cut⟩:Sf)).getD r.toNat Sf.none=⟨(ss[r.toNat]'hn).sf.all++(pushR most (ss[r.toNat]'hn).sf l).2,(ss[r.toNat]'hn).sf.cut⟩:=by
     simp [List.getD_eq_getElem?_getD,hrl]
    rw [e2,← hxf]
   rw [he]
   have h2:=PoA.cls (g:=g) (most:=most) (st:=⟨st.told,st.sf.set r.toNat x.sf⟩) (vs:=vs) (vt:=vt) (hset _ rfl) M
   exact ⟨_,h2,rfl,rfl⟩
theorem post_NewA (c:Cfg) (M:List Assn):Fn Tryz.prog 130 #[.agg (Rep.cells c).toArray] M
  fun v L'=>∃ g:Nat,v=.pointer (some ⟨g,0,none⟩)∧L'=PoA g c.w ⟨List.replicate (min (max c.n 0) 5).toNat Clk.zero,List.replicate (min (max c.n 0) 5).toNat Sf.none⟩::M:=by
 refine (post_New c M).res ?_
 rintro v L' ⟨g,vs,vt,ss,rfl,ovs,hsl,hss,rfl⟩
 have h:ss.map Sh.sf=List.replicate (min (max c.n 0) 5).toNat Sf.none:=by
  rw [← hsl]
  refine List.ext_getElem (by simp) fun i h1 h2=>?_
  rw [List.getElem_map,List.getElem_replicate]
  exact hss _ (List.getElem_mem _)
 exact ⟨_,PoA.cls (st:=⟨List.replicate (min (max c.n 0) 5).toNat Clk.zero,List.replicate (min (max c.n 0) 5).toNat Sf.none⟩) h M,g,rfl,rfl⟩
end
section
theorem wrap_in {x:Int} (h:I64 x):IntKind.i64.wrap x=x:=by
 unfold I64 at h
 rw [IntKind.wrap_i64]
 omega
theorem height_rng {out:List Ev} (c:Clk) (h:∀ e∈out,I64 e.h):I64 (out.foldl (heightS c) (0,false)).1:=by
 have key:∀ (l:List Ev) (s:Int×Bool),(∀ e∈l,I64 e.h)→I64 s.1→I64 (l.foldl (heightS c) s).1:=by
  intro l
  induction l with
  | nil=>intro s _ h;exact h
  | cons a l ih =>
   intro s hl hs
   refine ih _ (fun e he=>hl e (List.mem_cons_of_mem _ he)) ?_
   have:=hl a (List.mem_cons_self ..)
   unfold heightS
   split
   ·exact this
   ·exact hs
 exact key out (0,false) h (by unfold I64;omega)
end
section
set_option maxRecDepth 20000 attribute [local irreducible] Ex ExL Fn thn inb rnd fin meet Tab Mix mxEnd Val Sats RdT Rd RowT Row Blk Sub Fac ResV RVal Evs subs subs3 Hid Capd
section
theorem outbox_Batch (g:Nat) (most size sent:Int) (v0:Value) (wait:List Ev) (M:List Assn) (hb:wait.length≤1000000000):Fn Tryz.prog 110 #[.pointer (some ⟨g,0,none⟩)] (OxO g most size sent v0::Evs_ v0 wait::M)
  fun r L'=>r.oneCell'=true∧L'=Evs_ r (wait.take (min (max size 0) wait.length).toNat)::OxO g most size sent v0::Evs_ v0 wait::M:=by
 refine Fn.of_ex Tryz.func110 rfl Tryz.ntmps110 rfl ?_
 (refine rn ?_;intros)
 (refine mu11 ?_;intros)
 obtain ⟨k,hk⟩:∃ k,k=min (max size 0) (wait.length:Int):=⟨_,rfl⟩
 rw [← hk]
 (refine rn ?_;intros)
 refine st_callIs [] rJ Tryz.call181 rJ rJ (clone_evs _ _ _ rD (by simp;omega)) ?_
 rintro r _ ⟨hr,rfl⟩
 (refine rn ?_;intros)
 (refine fr ?_)
 exact ⟨_,rB,hr,rfl⟩
theorem outbox_Add (g:Nat) (most size sent:Int) (v0:Value) (wait:List Ev) (e:Ev) (M:List Assn) (hw:Wait sent wait) (hs:0≤sent∧sent≤1000000000) (hb:wait.length≤1000000000) (o0:v0.oneCell'=true) :
  Fn Tryz.prog 105 #[.pointer (some ⟨g,0,none⟩),.agg (Rep.cells e).toArray] (OxO g most size sent v0::Evs_ v0 wait::M)
  fun r L'=>r=.int .i64 (addR most sent wait e).1∧∃ v',v'.oneCell'=true∧L'=OxO g most size sent v'::Evs_ v' (addR most sent wait e).2::M:=by
 refine Fn.of_ex Tryz.func105 rfl Tryz.ntmps105 rfl ?_
 unfold addR
 by_cases hm:most≤(wait.length:Int)
 ·rw [if_pos hm]
  (refine rn ?_;intros)
  refine st_callIs [2,2] rJ Tryz.call99 rE rJ (outbox_Room _ _ _ _ _ _ _) ?_
  rintro _ _ ⟨rfl,rfl⟩
  rw [decide_eq_false rM]
  (refine rn ?_;intros)
  (refine fr ?_)
  exact ⟨_,rB,rfl,v0,o0,rfl⟩
 ·rw [if_neg hm]
  by_cases hz:wait.length=0
  ·obtain rfl:=List.eq_nil_of_length_eq_zero hz
   by_cases he:e.n=sent+([]:List Ev).length+1
   ·rw [if_pos he]
    have he2:e.n=sent+1:=by simpa using he
    (refine rn ?_;intros)
    refine st_callIs [2,2] rJ Tryz.call99 rE rJ (outbox_Room _ _ _ _ _ _ _) ?_
    rintro _ _ ⟨rfl,rfl⟩
    rw [decide_eq_true rM]
    (refine rn ?_;intros)
    refine Ex.reord [1] rE ?_
    (refine Ex.mixA 8 (_::_::M) rfl rQ rF ?_;(refine mn ?_;intros))
    (refine rn ?_;intros)
    (refine fr ?_)
    exact ⟨_,Sub.trans rB (fronts_sub [2] _),rfl,_,by assumption,rfl⟩
   ·rw [if_neg he]
    have he2:¬ e.n=sent+1:=by simpa using he
    (refine rn ?_;intros)
    refine st_callIs [2,2] rJ Tryz.call99 rE rJ (outbox_Room _ _ _ _ _ _ _) ?_
    rintro _ _ ⟨rfl,rfl⟩
    rw [decide_eq_true rM]
    (refine rn ?_;intros)
    (refine fr ?_)
    exact ⟨_,rB,rfl,v0,o0,rfl⟩
  ·have hl0:0<wait.length:=by omega
   have hlast:(wait[((wait.length:Int) - 1).toNat]'rM).n=sent+wait.length:=by
    rw [hw _ rM];omega
   by_cases he:e.n=sent+wait.length+1
   ·rw [if_pos he]
    (refine rn ?_;intros)
    refine st_callIs [2,2] rJ Tryz.call99 rE rJ (outbox_Room _ _ _ _ _ _ _) ?_
    rintro _ _ ⟨rfl,rfl⟩
    rw [decide_eq_true rM]
    (refine rn ?_;intros)
    refine Ex.reord [1] rE ?_
    (refine Ex.mixA 8 (_::_::M) rfl rQ rF ?_;(refine mn ?_;intros))
    (refine rn ?_;intros)
    (refine fr ?_)
    exact ⟨_,Sub.trans rB (fronts_sub [2] _),rfl,_,by assumption,rfl⟩
   ·rw [if_neg he]
    (refine rn ?_;intros)
    refine st_callIs [2,2] rJ Tryz.call99 rE rJ (outbox_Room _ _ _ _ _ _ _) ?_
    rintro _ _ ⟨rfl,rfl⟩
    rw [decide_eq_true rM]
    (refine rn ?_;intros)
    (refine fr ?_)
    exact ⟨_,rB,rfl,v0,o0,rfl⟩
theorem outbox_Sent (g:Nat) (most size sent upto:Int) (v0:Value) (wait:List Ev) (M:List Assn) (hu:I64 upto) (hs:0≤sent∧sent≤1000000000) (hb:wait.length≤1000000000) (o0:v0.oneCell'=true) :
  Fn Tryz.prog 200 #[.pointer (some ⟨g,0,none⟩),.int .i64 upto] (OxO g most size sent v0::Evs_ v0 wait::M)
  fun r L'=>r=.int .i64 (sentR sent wait upto)∧∃ v',v'.oneCell'=true∧L'=OxO g most size (sentR sent wait upto) v'::Evs_ v' (wait.drop (sentR sent wait upto - sent).toNat)::M:=by
 unfold I64 at hu
 refine Fn.of_ex Tryz.func200 rfl Tryz.ntmps200 rfl ?_
 by_cases h:upto≤sent
 ·have e:sentR sent wait upto=sent:=by unfold sentR;omega
  rw [e,Int.sub_self]
  (refine rn ?_;intros)
  (refine fr ?_)
  exact ⟨_,rB,rfl,v0,o0,rfl⟩
 ·obtain ⟨k,hk⟩:∃ k:Nat,(k:Int)=min (upto - sent) wait.length:=⟨(min (upto - sent) (wait.length:Int)).toNat,by omega⟩
  have e:sentR sent wait upto=sent+k:=by unfold sentR;omega
  rw [e,show sent+(k:Int) - sent=k by omega,Int.toNat_natCast]
  (refine rn ?_;intros)
  (refine mu16 ?_;intros)
  rw [show IntKind.i64.wrap (min (IntKind.u64.wrap (upto - sent)) (wait.length:Int))=(k:Int) by rw [wrap_u64 rM rM,← hk,wrap_i64 rM rM]]
  (refine rn ?_;intros)
  refine st_callIs [1] rJ Tryz.call253 rE rJ (delete_evs _ _ 0 k _ rM rM hb o0) ?_
  rintro v1 _ ⟨o1,rfl⟩
  (refine rn ?_;intros)
  (refine fr ?_)
  exact ⟨_,Sub.trans rB (fronts_sub [1] _),rfl,v1,o1,rfl⟩
end
section
theorem pheight_F (v0:Value) (out:List Ev) (c:Clk) (M:List Assn) (hr:RdT M v0 out) (hl:out.length≤1000000) (hh:∀ e∈out,I64 e.h):Fn Tryz.prog 102 #[v0,c.val] M fun v L'=>v=.int .i64 (IntKind.i64.wrap (heightP out c))∧L'=M:=by
 refine Fn.of_ex Tryz.func102 rfl Tryz.ntmps102 rfl ?_
 (refine rn ?_;(repeat (first | intro (g:Nat) | intro h)))
 revert g
 intro g3
 refine Ex.loop [5,6,11] (fun m vs L'=>∃ (i:Nat),i≤out.length∧m=out.length - i∧vs=[.int .i64 ((out.take i).foldl (heightS c) (0,false)).1,.bool ((out.take i).foldl (heightS c) (0,false)).2,.int .i64 i]∧L'=Blk g3 50 (Rep.cells c)::M) out.length ⟨0,by omega,by omega,rfl,rfl⟩ ?_
 rintro m vs g1 L' ⟨i,hi,rfl,rfl,rfl⟩
 refine Ex.keep [3,5,6,9,10,11] rG (fun gk=>?_)
 by_cases hlt:i<out.length
 ·have hst:(out.take (i+1)).foldl (heightS c) (0,false)=heightS c ((out.take i).foldl (heightS c) (0,false)) (out[i]'hlt):=by
   rw [List.take_succ_eq_append_getElem hlt,List.foldl_append];rfl
  have hnx:∀ X:Int×Bool,(out.take (i+1)).foldl (heightS c) (0,false)=X→∃ (j:Nat),j≤out.length∧out.length - (i+1)=out.length - j∧[Value.int .i64 X.1,.bool X.2,.int .i64 (i+1)]=[.int .i64 ((out.take j).foldl (heightS c) (0,false)).1,.bool ((out.take j).foldl (heightS c) (0,false)).2,.int .i64 j]∧Blk g3 50 (Rep.cells c)::M=Blk g3 50 (Rep.cells c)::M:=fun X hX=>⟨i+1,by omega,rfl,by rw [hX];rfl,rfl⟩
  generalize (out.take i).foldl (heightS c) (0,false)=s at hst ⊢
  obtain ⟨h,a⟩:=s
  unfold heightS at hst
  simp only at hst
  (repeat' (first | (refine r1 ?_;intros) | (refine Ex.cond_d rJ (fun h=>?_) (fun h=>?_) <;> try (exfalso;omega)) | (apply exlGuard;refine ExL.gsplit rJ rJ rJ (fun h=>?_) (fun h=>?_) <;> try (exfalso;omega))))
  refine st_callIs [] rJ Tryz.call171 rJ rJ (has_F c (out[i]'hlt).r (out[i]'hlt).n _) ?_
  rintro _ _ ⟨rfl,rfl⟩
  cases hb:c.has (out[i]'hlt).r (out[i]'hlt).n
  ·rw [if_neg (by rw [hb];simp)] at hst
   have hn:=hnx _ hst
   clear hnx hst
   (refine rn ?_;intros)
   exact rnd_n ⟨out.length - (i+1),_,by omega,rB,hn⟩
  ·cases a
   ·rw [if_pos ⟨hb,.inl rfl⟩] at hst
    have hn:=hnx _ hst
    clear hnx hst
    (refine rn ?_;intros)
    exact rnd_n ⟨out.length - (i+1),_,by omega,rB,hn⟩
   ·by_cases hgt:h<(out[i]'hlt).h
    ·rw [if_pos ⟨hb,.inr hgt⟩] at hst
     have hn:=hnx _ hst
     clear hnx hst
     (refine rn ?_;intros)
     exact rnd_n ⟨out.length - (i+1),_,by omega,rB,hn⟩
    ·rw [if_neg (by rintro ⟨_,h1 | h1⟩;cases h1;exact hgt h1)] at hst
     have hn:=hnx _ hst
     clear hnx hst
     (refine rn ?_;intros)
     exact rnd_n ⟨out.length - (i+1),_,by omega,rB,hn⟩
 ·obtain rfl:i=out.length:=by omega
  rw [List.take_length]
  have hb:=height_rng c hh
  unfold heightP
  have hw:=wrap_in (x:=(out.foldl (heightS c) (0,false)).1+1)
  unfold I64 at hb hw
  by_cases hmx:(out.foldl (heightS c) (0,false)).1=9223372036854775807
  ·clear hw
   exact re0
  ·rw [hw rM]
   clear hw
   exact re0
theorem cnext_F (x:Clk) (r:Int) (M:List Assn) (hr:0≤r∧r<5) (hx:x.get r.toNat≤1048576) (h0:0≤x.get r.toNat):Fn Tryz.prog 101 #[x.val,.int .i64 r] M fun v L'=>v=.tuple #[.agg (Rep.cells (x.next r).1).toArray,.int .i64 (x.next r).2]∧L'=M:=by
 refine Fn.of_ex Tryz.func101 rfl Tryz.ntmps101 rfl ?_
 have hgd:=x.getD_eq r.toNat
 by_cases h:1048576≤x.get r.toNat
 ·have e:x.next r=(Clk.zero,25):=by unfold Clk.next;rw [if_neg rM,if_pos h]
  rw [e]
  have h2:1048576≤[x.a,x.b,x.c,x.d,x.e].getD r.toNat 0:=by rw [hgd];exact h
  (refine rn ?_;(repeat (first | intro (cs:List Value) | intro (hcs:_=List.set _ _ _) | intro h)))
  (refine fr ?_)
  exact ⟨_,rB,rfl,rfl⟩
 ·have e:x.next r=(x.set r.toNat (x.get r.toNat+1),0):=by unfold Clk.next;rw [if_neg rM,if_neg h]
  rw [e]
  have h2:¬ 1048576≤[x.a,x.b,x.c,x.d,x.e].getD r.toNat 0:=by rw [hgd];exact h
  (refine rn ?_;(repeat (first | intro (cs:List Value) | intro (hcs:_=List.set _ _ _) | intro h)))
  have hcs2:cs=Rep.cells (x.set r.toNat (x.get r.toNat+1)):=by
   rw [hcs,hgd,show (0+r.toNat * 1)=r.toNat by omega]
   exact Clk.cells_set x r.toNat rM (x.get r.toNat+1)
  clear hcs
  subst hcs2
  exact re0
end
end
section
def lvOf (log:List Ev):KMap:=log.foldl lvApply []
theorem lvOf_snoc (log:List Ev) (e:Ev):lvOf (log++[e])=lvApply (lvOf log) e:=by unfold lvOf;rw [List.foldl_append];rfl
def rpStep (s:List Ev×Int) (x:Rcd):List Ev×Int:=if x.kind=3 then (s.1,x.upto) else if x.kind=4 then (x.l,x.upto) else (s.1++x.l,s.2)
def replay (recs:List Rcd):List Ev×Int:=recs.foldl rpStep ([],0)
theorem replay_snoc (recs:List Rcd) (x:Rcd):replay (recs++[x])=rpStep (replay recs) x:=by unfold replay;rw [List.foldl_append];rfl
def clkStep (c:Clk) (e:Ev):Clk:=c.set e.r.toNat (c.get e.r.toNat+1)
def clkOfLog (log:List Ev):Clk:=log.foldl clkStep Clk.zero
def outStep (q r sent:Int) (w:List Ev) (e:Ev):List Ev:=if e.r=r∧sent<e.n then (addR q sent w e).2 else w
def outOf (q r sent:Int) (log:List Ev):List Ev:=log.foldl (outStep q r sent) []
def posC (l:List Con) (k:List UInt8):Int:=if l.findIdx (fun c=>decide (c.key=k))<l.length then (l.findIdx (fun c=>decide (c.key=k)):Int) else -1
def Con.set (c:Con) (label:Int):List (List UInt8):=if label=0 then c.s0 else c.s1
def chkC (L P:Int) (l:List Con) (e:Ed):Int :=
 if e.err≠0 then e.err else
 if e.kind=1 then (if 0≤posC l e.key then 13 else if L≤l.length then 15 else 0) else
 if posC l e.key<0 then 14 else
 match l[(posC l e.key).toNat]? with
 | none=>14
 | some c=>if e.kind=4 then (if P≤(c.set e.label).length then 15 else 0) else if e.kind=5 then (if e.value∈c.set e.label then 0 else 16) else 0
theorem findIdx_map {α β:Type} (φ:α→β) (p:β→Bool):∀ l:List α,(l.map φ).findIdx p=l.findIdx fun a=>p (φ a)
 | []=>rfl
 | a::l=>by
  rw [List.map_cons,List.findIdx_cons,List.findIdx_cons,findIdx_map φ p l]
theorem posC_con (l:List Ct) (k:List UInt8):posC (l.map Ct.con) k=posK l k:=by
 unfold posC posK
 rw [findIdx_map,List.length_map]
 rfl
theorem chkC_con (L P:Int) (l:List Ct) (e:Ed):chkC L P (l.map Ct.con) e=chk L P l e:=by
 unfold chkC chk
 rw [posC_con,List.length_map,List.getElem?_map]
 split
 ·rfl
 ·split
  ·rfl
  ·split
   ·rfl
   ·cases l[(posK l e.key).toNat]? with
    | none=>rfl
    | some c =>
     simp only [Option.map_some]
     unfold chkAt hasT
     have hs:c.con.set e.label=(c.set e.label).map (·.l):=by unfold Con.set Ct.set Ct.con;split <;> rfl
     rw [hs,List.length_map]
     have hm:(e.value∈(c.set e.label).map (·.l))↔((c.set e.label).any fun t=>decide (t.l=e.value))=true:=by
      rw [List.mem_map,List.any_eq_true]
      exact ⟨fun ⟨t,h1,h2⟩=>⟨t,h1,by simp [h2]⟩,fun ⟨t,h1,h2⟩=>⟨t,h1,by simpa using h2⟩⟩
     split
     ·rfl
     ·split
      ·by_cases h:e.value∈(c.set e.label).map (·.l)
       ·rw [if_pos h,if_pos (hm.1 h)]
       ·rw [if_neg h,if_neg (fun k=>h (hm.2 k))]
      ·rfl
structure NSt where
 up:Bool
 recs:List Rcd
 tail:List UInt8
 cuts:Bool
 keep:Int
 log:List Ev
 sent:Int
 clk:Clk
 held:List Ev
 wait:List Ev
def keptOf (keep:Int) (n:Nat):Nat:=(min (max keep 0) (n:Int)).toNat
def NSt.write (st:NSt) (x:Rcd):NSt×Int :=
  if st.cuts then
    (if x.bytes.length≤keptOf st.keep x.bytes.length then { st with up:=false,cuts:=false,recs:=st.recs++[x],tail:=[] }
     else { st with up:=false,cuts:=false,tail:=x.bytes.take (keptOf st.keep x.bytes.length) },18)
  else ({ st with recs:=st.recs++[x] },0)
def NSt.crash (st:NSt):NSt:={ st with up:=false,cuts:=false }
def NSt.cut (st:NSt) (keep:Int):NSt:={ st with cuts:=true,keep:=keep }
def NSt.start (st:NSt) (c:Cfg) (r:Int):NSt×Int :=
 if st.up then (st,19) else
 ({ st with up:=true,tail:=[],cuts:=false,log:=(replay st.recs).1,sent:=(replay st.recs).2,clk:=clkOfLog (replay st.recs).1,held:=[],wait:=outOf c.q r (replay st.recs).2 (replay st.recs).1 },0)
def NSt.mk1 (st:NSt) (r:Int) (e:Ed):Ev:=⟨r,st.clk.get r.toNat+1,st.clk,heightP st.log st.clk,e⟩
def rcEv (k r:Int) (l:List Ev):Rcd:=⟨k,r,0,Clk.zero,l⟩
def NSt.editE (st:NSt) (c:Cfg) (r:Int) (e:Ed):Int :=
 if st.up=false then 18 else
 if chkC c.l c.p (lvList (lvOf st.log)) e≠0 then chkC c.l c.p (lvList (lvOf st.log)) e else
 if c.q≤st.wait.length then 17 else
 if 1048576≤st.clk.get r.toNat∨16777216<heightP st.log st.clk then 25 else 0
def NSt.edit (st:NSt) (c:Cfg) (r:Int) (e:Ed):NSt×Int :=
 if st.editE c r e≠0 then (st,st.editE c r e) else
 if (st.write (rcEv 1 r [st.mk1 r e])).2≠0 then ((st.write (rcEv 1 r [st.mk1 r e])).1,18) else
 ({ (st.write (rcEv 1 r [st.mk1 r e])).1 with log:=st.log++[st.mk1 r e],clk:=st.clk.set r.toNat (st.clk.get r.toNat+1),wait:=(addR c.q st.sent st.wait (st.mk1 r e)).2 },0)
def NSt.push (st:NSt) (c:Cfg) (r:Int):Rcd×Int :=
 if st.up=false then (Rcd.zero,18) else if st.wait=[] then (Rcd.zero,24) else (rcEv 1 r (st.wait.take (min (max c.w 0) st.wait.length).toNat),0)
def NSt.tell (st:NSt) (r k:Int):Rcd×Int:=if st.up=false then (Rcd.zero,18) else (⟨k,r,0,st.clk,[]⟩,0)
def NSt.pushed (st:NSt) (r upto:Int):NSt×Int :=
 let s:=max st.sent (min upto (st.clk.get r.toNat))
 if s=st.sent then (st,0) else
 if (st.write ⟨3,r,s,Clk.zero,[]⟩).2≠0 then ((st.write ⟨3,r,s,Clk.zero,[]⟩).1,18) else
 ({ (st.write ⟨3,r,s,Clk.zero,[]⟩).1 with sent:=sentR st.sent st.wait s,wait:=st.wait.drop (sentR st.sent st.wait s - st.sent).toNat },0)
def NSt.state (st:NSt) (r:Int):NSt×Int :=
 if st.up=false then (st,18) else if 4096<st.log.length then (st,1) else
 if (st.write ⟨4,r,st.sent,Clk.zero,st.log⟩).2≠0 then ((st.write ⟨4,r,st.sent,Clk.zero,st.log⟩).1,18) else ((st.write ⟨4,r,st.sent,Clk.zero,st.log⟩).1,0)
end
section
@[reducible] def dkC (v:Value) (s:DS):List Value:=[v,.bool s.down,.bool s.cut,.int .i64 s.keep]
def DkA (g:Nat) (s:DS):Assn:=fun h=>∃ v:Value,v.oneCell'=true∧Two (Blk g 284 (dkC v s)) (RowT v 5 s.b) h
def nilP:Value:=.pointer none
def ptrV (g:Nat):Value:=.pointer (some ⟨g,0,none⟩)
def DS.zero:DS:=⟨[],false,false,0⟩
def DvA (dv:Value) (s:DS):Assn:=fun h=>(dv=nilP∧s=DS.zero∧h=fun _=>none)∨∃ g,dv=ptrV g∧DkA g s h
theorem DkA.cls {g:Nat} {s:DS} {v:Value} (o:v.oneCell'=true) (M:List Assn):Sub (DkA g s::M) (Blk g 284 (dkC v s)::RowT v 5 s.b::M) :=
 Sub.trans (Sub.cons' (fun x a=>⟨v,o,a⟩) (Sub.refl M)) (Two.cls _ _ M)
theorem DkA.fn {P:Program} {k:FuncId} {args:Array Value} {g:Nat} {s:DS} {M:List Assn} {R:Value→List Assn→Prop}
  (h:∀ v,v.oneCell'=true→Fn P k args (Blk g 284 (dkC v s)::RowT v 5 s.b::M) R):Fn P k args (DkA g s::M) R:=fun F w0 w r ⟨x,⟨v,o,a⟩,d,st⟩ =>
 h v o F w0 w r (Two.opn _ _ M w F ⟨x,a,d,st⟩)
theorem DvA.of {g:Nat} {s:DS} (M:List Assn):Sub (DvA (ptrV g) s::M) (DkA g s::M):=Sub.cons' (fun x a=>.inr ⟨g,rfl,a⟩) (Sub.refl M)
theorem DvA.nil_ (M:List Assn):Sub (DvA nilP DS.zero::M) M:=fun w F s=>by
 refine ⟨fun _=>none,.inl ⟨rfl,rfl,rfl⟩,fun n=>Or.inl rfl,?_⟩
 have:Frag.add (fun _=>none) F=F:=by funext n;rfl
 rw [this];exact s
theorem dk_Write (g:Nat) (x:Value) (s:DS) (xs:List UInt8) (M:List Assn) (hx:RdT M x xs) (hb:s.b.length+xs.length≤140737488355328):Fn Tryz.prog 173 #[ptrV g,x] (DkA g s::M) fun r L'=>r=.int .i64 (s.write xs).2∧L'=DkA g (s.write xs).1::M:=by
 refine DkA.fn fun v o=>?_
 refine (disk_Write g v x s xs M hx o hb).resv ?_
 rintro r L' ⟨rfl,v',o',rfl⟩
 exact ⟨_,DkA.cls o' M,rfl,rfl⟩
theorem dk_Cut (g:Nat) (s:DS) (n:Int) (M:List Assn):Fn Tryz.prog 369 #[ptrV g,.int .i64 n] (DkA g s::M) fun r L'=>L'=DkA g ⟨s.b,s.down,true,n⟩::M:=by
 refine DkA.fn fun v o=>?_
 refine (disk_Cut g v s.b s.down s.cut s.keep n M).resv ?_
 rintro r L' rfl
 exact ⟨_,DkA.cls (s:=⟨s.b,s.down,true,n⟩) o M,rfl⟩
theorem dk_Crash (g:Nat) (s:DS) (M:List Assn):Fn Tryz.prog 123 #[ptrV g] (DkA g s::M) fun r L'=>L'=DkA g ⟨s.b,true,false,s.keep⟩::M:=by
 refine DkA.fn fun v o=>?_
 refine (disk_Crash g v s.b s.down s.cut s.keep M).resv ?_
 rintro r L' rfl
 exact ⟨_,DkA.cls (s:=⟨s.b,true,false,s.keep⟩) o M,rfl⟩
theorem dk_Start (g:Nat) (s:DS) (M:List Assn):Fn Tryz.prog 124 #[ptrV g] (DkA g s::M) fun r L'=>L'=DkA g ⟨s.b,false,false,s.keep⟩::M:=by
 refine DkA.fn fun v o=>?_
 refine (disk_Start g v s.b s.down s.cut s.keep M).resv ?_
 rintro r L' rfl
 exact ⟨_,DkA.cls (s:=⟨s.b,false,false,s.keep⟩) o M,rfl⟩
theorem dk_Bytes (g:Nat) (s:DS) (M:List Assn) (hb:s.b.length≤140737488355328):Fn Tryz.prog 126 #[ptrV g] (DkA g s::M) fun r L'=>r.oneCell'=true∧L'=RowT r 5 s.b::DkA g s::M:=by
 refine DkA.fn fun v o=>?_
 refine (disk_Bytes g v s.b s.down s.cut s.keep M hb).resv ?_
 rintro r L' ⟨o2,rfl⟩
 exact ⟨_,Sub.cons _ (DkA.cls o M),o2,rfl⟩
theorem dk_Trim (g:Nat) (s:DS) (n:Int) (M:List Assn) (hb:s.b.length≤140737488355328):Fn Tryz.prog 127 #[ptrV g,.int .i64 n] (DkA g s::M) fun r L'=>L'=DkA g (s.trim n)::M:=by
 refine DkA.fn fun v o=>?_
 refine (disk_Trim g v s n M o hb).resv ?_
 rintro r L' ⟨v',o',rfl⟩
 exact ⟨_,DkA.cls o' M,rfl⟩
@[reducible] def ndC (c:Cfg) (r:Int) (up:Bool) (d vl:Value) (sent:Int) (b i o:Value):List Value :=
 [.int .i64 c.n,.int .i64 c.w,.int .i64 c.q,.int .i64 c.h,.int .i64 c.l,.int .i64 c.p,.int .i64 r,.bool up,d,vl,.int .i64 sent,b,i,o]
@[reducible] def NdB (g:Nat) (c:Cfg) (r:Int) (up:Bool) (d vl:Value) (sent:Int) (b i o:Value):Assn:=Blk g 186 (ndC c r up d vl sent b i o)
theorem DvA.fn {P:Program} {k:FuncId} {args:Array Value} {A:Value→Assn} {dv:Value} {s:DS} {M:List Assn} {R:Value→List Assn→Prop}
  (h0:dv=nilP→s=DS.zero→Fn P k args (A dv::M) R) (h:∀ g,dv=ptrV g→Fn P k args (A dv::DkA g s::M) R):Fn P k args (A dv::DvA dv s::M) R:=fun F w0 w r ⟨y,b,dy,x,a,d,st⟩=>by
 rcases a with ⟨h1,h2,rfl⟩ | ⟨g,h1,a⟩
 ·refine h0 h1 h2 F w0 w r ⟨y,b,dy,?_⟩
  have:Frag.add (fun _=>none) (y.add F)=y.add F:=by funext n;rfl
  rwa [this] at st
 ·exact h g h1 F w0 w r ⟨y,b,dy,x,a,d,st⟩
set_option maxRecDepth 20000 attribute [local irreducible] Ex ExL Fn thn inb rnd fin meet Tab Mix mxEnd Val Sats RdT Rd RowT Row Blk Sub Fac ResV RVal Evs subs subs3 Hid Capd
section
attribute [local irreducible] DkA DvA
theorem vl_nil_nn {P:Program} {f:Nat→Value} {L:List Assn} {d:Nat} {ty:TypeId} {pos:String} {af:Array Edge} {gd:Option (Nat×Bool)} {xt yt e:TypeId} {x y:Operand} (hx:evalF f x=.pointer none) (hy:evalF f y=.pointer none) (hu:P.underlying xt=some (.pointer e)):Val P ⟨some d,.binOp .eql xt x y yt,ty,pos,af,gd⟩ f L (.bool true):=vl_eqv hx hy (fun w=>by simp [eqGuard]) (fun w=>by
  have h1:(Op.equal xt (.pointer none) (.pointer none)).run P w=.ok true w:=by
   show (Op.equalIn (9999+1) xt (.pointer none) (.pointer none)).run P w=_
   rw [Op.equalIn]
   simp [run_underlying hu]
  simp only [binOp,Sem.run_bind,h1,Result.andThen_ok,Sem.run_pure])
theorem nstore_F (g:Nat) (c:Cfg) (r:Int) (up:Bool) (dv vl:Value) (sent:Int) (b i o:Value) (s:DS) (M:List Assn) :
  Fn Tryz.prog 122 #[.pointer (some ⟨g,0,none⟩)] (NdB g c r up dv vl sent b i o::DvA dv s::M) fun v L'=>∃ gd,v=ptrV gd∧L'=NdB g c r up (ptrV gd) vl sent b i o::DkA gd s::M:=by
 refine DvA.fn (A:=fun dv=>NdB g c r up dv vl sent b i o) (fun h0 h1=>?_) (fun gd h=>?_)
 ·subst h0;subst h1
  refine Fn.resv (R:=fun v L'=>∃ gd,v=ptrV gd∧L'=Blk gd 284 (dkC (.slice none 0 0) DS.zero)::RowT (.slice none 0 0) 5 ([]:List UInt8)::NdB g c r up (ptrV gd) vl sent b i o::M) ?_ ?_
  ·unfold nilP ptrV
   refine Fn.of_ex Tryz.func122 rfl Tryz.ntmps122 rfl ?_
   (refine rn ?_;(repeat (first | intro (g:Nat) | intro (v:Value) | intro (o:O1 _) | intro h)))
   refine ExL.val rJ rJ rJ (vl_nil_nn rJ rJ rJ) ?_
   (refine rn ?_;(repeat (first | intro (g:Nat) | intro (v:Value) | intro (o:O1 _) | intro h)))
   refine st_callIs [] rJ Tryz.call184 rJ rJ (disk_New _) ?_
   rintro _ _ ⟨gd,rfl,rfl⟩
   (refine rn ?_;(repeat (first | intro (g:Nat) | intro (v:Value) | intro (o:O1 _) | intro h)))
   (refine fr ?_)
   exact ⟨_,rB,gd,rfl,rfl⟩
  ·rintro v L' ⟨gd,rfl,rfl⟩
   exact ⟨_,Sub.trans (Sub.front (L:=DkA gd DS.zero::NdB g c r up (ptrV gd) vl sent b i o::M) 1 rfl) (DkA.cls rfl _),gd,rfl,rfl⟩
 ·subst h
  unfold ptrV
  refine Fn.of_ex Tryz.func122 rfl Tryz.ntmps122 rfl ?_
  (refine rn ?_;intros)
  (refine fr ?_)
  exact ⟨_,rB,gd,rfl,rfl⟩
end
section
theorem DS.write_errno (s:DS) (xs:List UInt8):(s.write xs).2=0∨(s.write xs).2=18:=by unfold DS.write;split <;> simp
attribute [local irreducible] DkA DvA
theorem nwrite_F (gn:Nat) (c:Cfg) (r:Int) (up:Bool) (dv vl:Value) (sent:Int) (b i o:Value) (s:DS) (x:Rcd) (v0:Value) (M:List Assn)
  (hr:RdT M v0 x.l) (o0:v0.oneCell'=true) (hl:x.l.length≤1000000000) (hs:∀ e∈x.l,e.ed.key.length≤1000∧e.ed.value.length≤1000) (hm:x.May)
  (hb:s.b.length+x.bytes.length≤140737488355328) :
  Fn Tryz.prog 103 #[ptrV gn,.agg (rcC x v0).toArray] (NdB gn c r up dv vl sent b i o::DvA dv s::M)
   fun v L'=>∃ gd,v=.int .i64 (s.write x.bytes).2∧L'=NdB gn c r (up && decide ((s.write x.bytes).2=0)) (ptrV gd) vl sent b i o::DkA gd (s.write x.bytes).1::M:=by
 refine Fn.of_ex Tryz.func103 rfl Tryz.ntmps103 rfl ?_
 (refine rn ?_;(repeat (first | intro (v:Value) | intro (o:O1 _) | intro h)))
 refine st_callIs [] rJ Tryz.call172 rJ rJ (rput_F x v0 _ (hr.sub rB) o0 hl hs) ?_
 rintro _ _ (⟨hn,_,_⟩ | ⟨_,v,ov,rfl,rfl⟩)
 ·exact absurd hm hn
 (refine rn ?_;(repeat (first | intro (v:Value) | intro (o:O1 _) | intro h)))
 refine st_callIs [3,3] rJ Tryz.call122 rE rJ (nstore_F _ c r up dv vl sent b i o s _) ?_
 rintro _ _ ⟨gd,rfl,rfl⟩
 (refine rn ?_;(repeat (first | intro (v:Value) | intro (o:O1 _) | intro h)))
 refine st_callIs [1] rJ Tryz.call173 rE rJ (dk_Write gd v s x.bytes _ rD hb) ?_
 rintro _ _ ⟨rfl,rfl⟩
 rcases s.write_errno x.bytes with he | he
 ·rw [he]
  have e1:(up && decide ((0:Int)=0))=up:=by simp
  rw [e1]
  (refine rn ?_;(repeat (first | intro (o:O1 _) | intro h)))
  (refine fr ?_)
  exact ⟨NdB gn c r up (ptrV gd) vl sent b i o::DkA gd (s.write x.bytes).1::M,Sub.trans rB (Sub.front 1 rfl),gd,rfl,rfl⟩
 ·rw [he]
  have e1:(up && decide ((18:Int)=0))=false:=by simp
  rw [e1]
  (refine rn ?_;(repeat (first | intro (o:O1 _) | intro h)))
  (refine fr ?_)
  exact ⟨NdB gn c r false (ptrV gd) vl sent b i o::DkA gd (s.write x.bytes).1::M,Sub.trans rB (Sub.front 1 rfl),gd,rfl,rfl⟩
end
section
theorem lvApplies_tot:∀ (l:List Ev) (m:KMap),lvTot (l.foldl lvApply m)≤lvTot m+l.length
 | [],m=>Nat.le_refl _
 | e::l,m=>by
  have h1:=lvApplies_tot l (lvApply m e)
  have h2:lvTot (lvApply m e)≤lvTot m+1:=lvUpd_tot _ _ (fun l=>by have:=lvWith_len l e;omega) m
  rw [List.foldl_cons,List.length_cons]
  omega
attribute [local irreducible] DkA DvA
theorem ndeliver_F (gn:Nat) (c:Cfg) (r:Int) (up:Bool) (dv vl:Value) (sent:Int) (gb:Nat) (vi vo v1:Value) (log l:List Ev) (m:KMap) (M:List Assn)
  (hr:RdT M v1 l) (o1:v1.oneCell'=true) (ol:vl.oneCell'=true) (hll:log.length+l.length≤1000000) (hm:∀ e∈l,e.May∧e.ed.key.length≤1000∧e.ed.value.length≤1000) (ht:lvTot m+l.length≤1000000) :
  Fn Tryz.prog 106 #[ptrV gn,v1] (NdB gn c r up dv vl sent (ptrV gb) vi vo::Evs_ vl log::LvA gb m::M)
   fun v L'=>∃ vl',vl'.oneCell'=true∧L'=NdB gn c r up dv vl' sent (ptrV gb) vi vo::Evs_ vl' (log++l)::LvA gb (l.foldl lvApply m)::M:=by
 refine Fn.of_ex Tryz.func106 rfl Tryz.ntmps106 rfl ?_
 (refine rn ?_;(repeat (first | intro (v:Value) | intro h)))
 refine Ex.loop [17] (fun z vs L'=>∃ (i:Nat),i≤l.length∧z=l.length - i∧vs=[.int .i64 i]∧L'=NdB gn c r up dv v sent (ptrV gb) vi vo::Evs_ v (log++l)::LvA gb ((l.take i).foldl lvApply m)::M) l.length ⟨0,by omega,rfl,rfl,rfl⟩ ?_
 rintro z vs g1 L1 ⟨i,hi,rfl,rfl,rfl⟩
 refine Ex.keep [0,15,16,17] rG (fun gk=>?_)
 by_cases hlt:i<l.length
 ·have hmi:=hm (l[i]'hlt) (List.getElem_mem hlt)
  have hti:=lvApplies_tot (l.take i) m
  rw [List.length_take] at hti
  (refine rn ?_;(repeat (first | intro (v:Value) | intro h)))
  refine Ex.reord [3] rE ?_
  (refine Ex.mixA 6 (_::_::_::M) rfl rQ rF ?_;(refine mn ?_;(repeat (first | intro (v:Value) | intro h))))
  (refine mx_act rJ rJ rJ ?_;refine st_callIs [] rJ Tryz.call175 rE rJ (lapply_F gb _ (l[i]'hlt) _ hmi.1 hmi.2.1 hmi.2.2 rM) ?_)
  rintro _ _ ⟨rfl,rfl⟩
  (refine ExL.nil ?_;refine mxEnd_n rF ?_;(refine mn ?_;(repeat (first | intro (v:Value) | intro h))))
  (refine rn ?_;(repeat (first | intro (v:Value) | intro h)))
  refine rnd_n ⟨l.length - (i+1),NdB gn c r up dv v sent (ptrV gb) vi vo::Evs_ v (log++l)::LvA gb ((l.take (i+1)).foldl lvApply m)::M,by omega,?_,i+1,by omega,rfl,lcons (vint rM) rfl,rfl⟩
  rw [List.take_succ_eq_append_getElem hlt,List.foldl_append]
  exact Sub.fr [3,3] rE rB
 ·obtain rfl:i=l.length:=by omega
  rw [List.take_length]
  (refine rn ?_;(repeat (first | intro (v:Value) | intro h)))
  (refine fr ?_)
  exact ⟨_,rB,v,by assumption,rfl⟩
end
section
attribute [local irreducible] DkA DvA
theorem nCut_F (gn:Nat) (c:Cfg) (r:Int) (up:Bool) (dv vl:Value) (sent:Int) (b i o:Value) (s:DS) (n:Int) (M:List Assn) :
  Fn Tryz.prog 370 #[ptrV gn,.int .i64 n] (NdB gn c r up dv vl sent b i o::DvA dv s::M)
   fun v L'=>∃ gd,L'=NdB gn c r up (ptrV gd) vl sent b i o::DkA gd ⟨s.b,s.down,true,n⟩::M:=by
 refine Fn.of_ex Tryz.func370 rfl Tryz.ntmps370 rfl ?_
 (refine rn ?_;(repeat (first | intro (o:O1 _) | intro h)))
 refine st_callIs [] rJ Tryz.call122 rE rJ (nstore_F _ c r up dv vl sent b i o s _) ?_
 rintro _ _ ⟨gd,rfl,rfl⟩
 (refine rn ?_;(repeat (first | intro (o:O1 _) | intro h)))
 refine st_callIs [1] rJ Tryz.call369 rE rJ (dk_Cut gd s n _) ?_
 rintro _ _ rfl
 (refine rn ?_;(repeat (first | intro (o:O1 _) | intro h)))
 (refine fr ?_)
 exact ⟨NdB gn c r up (ptrV gd) vl sent b i o::DkA gd ⟨s.b,s.down,true,n⟩::M,Sub.trans rB (Sub.front 1 rfl),gd,rfl⟩
theorem nCrash_F (gn:Nat) (c:Cfg) (r:Int) (up:Bool) (dv vl:Value) (sent:Int) (b i o:Value) (s:DS) (M:List Assn) :
  Fn Tryz.prog 60 #[ptrV gn] (NdB gn c r up dv vl sent b i o::DvA dv s::M)
   fun v L'=>∃ gd,L'=NdB gn c r false (ptrV gd) vl sent b i o::DkA gd ⟨s.b,true,false,s.keep⟩::M:=by
 refine Fn.of_ex Tryz.func60 rfl Tryz.ntmps60 rfl ?_
 (refine rn ?_;(repeat (first | intro (o:O1 _) | intro h)))
 refine st_callIs [] rJ Tryz.call122 rE rJ (nstore_F _ c r false dv vl sent b i o s _) ?_
 rintro _ _ ⟨gd,rfl,rfl⟩
 (refine rn ?_;(repeat (first | intro (o:O1 _) | intro h)))
 refine st_callIs [1] rJ Tryz.call123 rE rJ (dk_Crash gd s _) ?_
 rintro _ _ rfl
 (refine rn ?_;(repeat (first | intro (o:O1 _) | intro h)))
 (refine fr ?_)
 exact ⟨NdB gn c r false (ptrV gd) vl sent b i o::DkA gd ⟨s.b,true,false,s.keep⟩::M,Sub.trans rB (Sub.front 1 rfl),gd,rfl⟩
end
section
attribute [local irreducible] DkA DvA
theorem nState_down (gn:Nat) (c:Cfg) (r:Int) (dv vl:Value) (sent:Int) (b i o:Value) (M:List Assn) :
  Fn Tryz.prog 45 #[ptrV gn] (NdB gn c r false dv vl sent b i o::M)
   fun v L'=>v=.int .i64 18∧L'=NdB gn c r false dv vl sent b i o::M:=by
 refine Fn.of_ex Tryz.func45 rfl Tryz.ntmps45 rfl ?_
 exact re0
theorem nState_long (gn:Nat) (c:Cfg) (r:Int) (dv vl:Value) (sent:Int) (b i o:Value) (log:List Ev) (M:List Assn) (ol:vl.oneCell'=true) (hll:4096<log.length) (hl2:log.length≤1000000) :
  Fn Tryz.prog 45 #[ptrV gn] (NdB gn c r true dv vl sent b i o::Evs_ vl log::M)
   fun v L'=>v=.int .i64 1∧L'=NdB gn c r true dv vl sent b i o::Evs_ vl log::M:=by
 refine Fn.of_ex Tryz.func45 rfl Tryz.ntmps45 rfl ?_
 exact re0
theorem ntell_down (gn:Nat) (c:Cfg) (r k:Int) (dv vl:Value) (sent:Int) (b i o:Value) (M:List Assn) :
  Fn Tryz.prog 111 #[ptrV gn,.int .i64 k] (NdB gn c r false dv vl sent b i o::M)
   fun v L'=>v=.tuple #[.slice none 0 0,.int .i64 18]∧L'=NdB gn c r false dv vl sent b i o::M:=by
 refine Fn.of_ex Tryz.func111 rfl Tryz.ntmps111 rfl ?_
 exact re0
theorem ntell_up (gn gi:Nat) (c:Cfg) (r k:Int) (dv vl:Value) (sent:Int) (b o:Value) (most:Int) (clk:Clk) (v0:Value) (held:List Ev) (M:List Assn) (hm:(⟨k,r,0,clk,[]⟩:Rcd).FMay) :
  Fn Tryz.prog 111 #[ptrV gn,.int .i64 k] (InO gi most clk v0::Evs_ v0 held::NdB gn c r true dv vl sent b (ptrV gi) o::M)
   fun v L'=>∃ u,u.oneCell'=true∧v=.tuple #[u,.int .i64 0]∧L'=Bys u (⟨k,r,0,clk,[]⟩:Rcd).fbytes::InO gi most clk v0::Evs_ v0 held::NdB gn c r true dv vl sent b (ptrV gi) o::M:=by
 refine Fn.of_ex Tryz.func111 rfl Tryz.ntmps111 rfl ?_
 (refine rn ?_;intros)
 (refine mu14 ?_;intros)
 (refine mx_act rJ rJ rJ ?_;refine st_callIs [] rJ Tryz.call100 rE rJ (inbox_Clock gi most clk v0 held _) ?_)
 rintro _ _ ⟨rfl,rfl⟩
 (refine mw ?_;intros)
 (repeat' (first | (refine m1 ?_;intros) | (refine mx_gsplit rJ rJ rJ (fun h=>?_) (fun h=>?_) <;> try (exfalso;omega))))
 (refine mx_act rJ rJ rJ ?_;refine st_callIs [] rJ Tryz.call109 rE rJ (fput_F ⟨k,r,0,clk,[]⟩ (.slice none 0 0) _ (RdT.nil _) rfl (by simp) (by simp)) ?_)
 rintro _ _ (⟨hn,_,_⟩ | ⟨_,u,ou,rfl,rfl⟩)
 ·exact absurd hm hn
 (refine mw ?_;intros)
 (repeat' (first | (refine m1 ?_;intros) | (refine mx_gsplit rJ rJ rJ (fun h=>?_) (fun h=>?_) <;> try (exfalso;omega))))
 (refine rn ?_;intros)
 (refine fr ?_)
 exact ⟨_,rB,u,ou,rfl,rfl⟩
end
section
attribute [local irreducible] DkA DvA
theorem nFetch_down (gn:Nat) (c:Cfg) (r:Int) (dv vl:Value) (sent:Int) (b i o:Value) (M:List Assn) :
  Fn Tryz.prog 43 #[ptrV gn] (NdB gn c r false dv vl sent b i o::M)
   fun v L'=>v=.tuple #[.slice none 0 0,.int .i64 18]∧L'=NdB gn c r false dv vl sent b i o::M:=by
 refine Fn.of_ex Tryz.func43 rfl Tryz.ntmps43 rfl ?_
 (refine rn ?_;(repeat (first | intro (o:O1 _) | intro h)))
 refine st_callIs [] rJ Tryz.call111 rJ rJ (ntell_down gn c r 3 dv vl sent b i o _) ?_
 rintro _ _ ⟨rfl,rfl⟩
 exact re0
theorem nFetch_up (gn gi:Nat) (c:Cfg) (r:Int) (dv vl:Value) (sent:Int) (b o:Value) (most:Int) (clk:Clk) (v0:Value) (held:List Ev) (M:List Assn) (hm:(⟨3,r,0,clk,[]⟩:Rcd).FMay) :
  Fn Tryz.prog 43 #[ptrV gn] (InO gi most clk v0::Evs_ v0 held::NdB gn c r true dv vl sent b (ptrV gi) o::M)
   fun v L'=>∃ u,u.oneCell'=true∧v=.tuple #[u,.int .i64 0]∧L'=Bys u (⟨3,r,0,clk,[]⟩:Rcd).fbytes::InO gi most clk v0::Evs_ v0 held::NdB gn c r true dv vl sent b (ptrV gi) o::M:=by
 refine Fn.of_ex Tryz.func43 rfl Tryz.ntmps43 rfl ?_
 (refine rn ?_;(repeat (first | intro (o:O1 _) | intro h)))
 refine st_callIs [] rJ Tryz.call111 rE rJ (ntell_up gn gi c r 3 dv vl sent b o most clk v0 held _ hm) ?_
 rintro _ _ ⟨u,ou,rfl,rfl⟩
 (refine rn ?_;intros)
 (refine fr ?_)
 exact ⟨_,rB,u,ou,rfl,rfl⟩
theorem nAck_down (gn:Nat) (c:Cfg) (r:Int) (dv vl:Value) (sent:Int) (b i o:Value) (M:List Assn) :
  Fn Tryz.prog 44 #[ptrV gn] (NdB gn c r false dv vl sent b i o::M)
   fun v L'=>v=.tuple #[.slice none 0 0,.int .i64 18]∧L'=NdB gn c r false dv vl sent b i o::M:=by
 refine Fn.of_ex Tryz.func44 rfl Tryz.ntmps44 rfl ?_
 (refine rn ?_;(repeat (first | intro (o:O1 _) | intro h)))
 refine st_callIs [] rJ Tryz.call111 rJ rJ (ntell_down gn c r 5 dv vl sent b i o _) ?_
 rintro _ _ ⟨rfl,rfl⟩
 exact re0
theorem nAck_up (gn gi:Nat) (c:Cfg) (r:Int) (dv vl:Value) (sent:Int) (b o:Value) (most:Int) (clk:Clk) (v0:Value) (held:List Ev) (M:List Assn) (hm:(⟨5,r,0,clk,[]⟩:Rcd).FMay) :
  Fn Tryz.prog 44 #[ptrV gn] (InO gi most clk v0::Evs_ v0 held::NdB gn c r true dv vl sent b (ptrV gi) o::M)
   fun v L'=>∃ u,u.oneCell'=true∧v=.tuple #[u,.int .i64 0]∧L'=Bys u (⟨5,r,0,clk,[]⟩:Rcd).fbytes::InO gi most clk v0::Evs_ v0 held::NdB gn c r true dv vl sent b (ptrV gi) o::M:=by
 refine Fn.of_ex Tryz.func44 rfl Tryz.ntmps44 rfl ?_
 (refine rn ?_;(repeat (first | intro (o:O1 _) | intro h)))
 refine st_callIs [] rJ Tryz.call111 rE rJ (ntell_up gn gi c r 5 dv vl sent b o most clk v0 held _ hm) ?_
 rintro _ _ ⟨u,ou,rfl,rfl⟩
 (refine rn ?_;intros)
 (refine fr ?_)
 exact ⟨_,rB,u,ou,rfl,rfl⟩
end
end
end Go.Proofs.YtogcfijlhpaeeaaGreat
