/- Texts, one behind the other. No condition. -/
import Derived.Lib.AppendStr
import Derived.Lib.Strings
import Derived.Test.YtogcfijlhpaeeaaGreatChecked
import Derived.Test.YtogcfijlhpaeeaaGreatZehjcikgl
import Derived.Test.YtogcfijlhpaeeaaGreatZincgmifm
open Go.RowKit
set_option linter.unusedSimpArgs false
set_option linter.unusedVariables false
set_option linter.unusedSectionVars false
set_option maxHeartbeats 32000000
namespace Go.Proofs.YtogcfijlhpaeeaaGreat
section
section
variable {P:Program} {n:Nat} {ops:Array Oper} {Q:Post} {f:Nat→Value} {L:List Assn} {rest:List Oper} {d:Nat} {ty:TypeId} {pos:String} {af:Array Edge}
theorem st_make0 {α:Type} [Rep α] {t e:TypeId} [Z:ZRep P e α] {x y:Operand} {k k':IntKind} {m:Int} {by_:Nat} (hd:Nat.blt d n=true) (hx:evalF f x=.int k 0) (hy:evalF f y=.int k' m) (ht:P.underlying t=some (.slice e)) (hby:P.bytesOf e=by_) (hbp:Nat.blt 0 by_=true)
  (h0:0≤m) (hb:m * by_≤140737488355328) (h:∀ v,v.oneCell'=true→ExL P n ops rest Q (upd f d v) (RowT v e ([]:List α)::L)) :
  ExL P n ops (⟨some d,.makeSlice t x y,ty,pos,af,none⟩::rest) Q f L:=by
 have hp:0<Rep.sz α:=Rep.pos
 have hbp:=Nat.le_of_ble_eq_true hbp
 obtain ⟨inf,zv,hinf,hsize,hbytes,hzero,hzc⟩:=info_of_bytes Z.size hp hby Z.eq
 obtain ⟨m,rfl⟩:=Int.eq_ofNat_of_zero_le h0
 refine ExL.eff rfl hd (R:=fun v L'=>v.oneCell'=true∧L'=RowT v e ([]:List α)::L) (fun F w s=>?_) (fun v L' hv=>by obtain ⟨h1,rfl⟩:=hv;exact h v h1)
 have hmb:(m:Int) * 1≤(m:Int) * by_:=Int.mul_le_mul_of_nonneg_left rM rM
 have hr:=run_make (P:=P) w t e inf zv ht hinf hzero k k' 0 m (Int.le_refl _) h0 (by rw [hbytes,Int.mul_comm];omega) rM
 simp only [Int.toNat_natCast,Int.toNat_zero] at hr
 refine ⟨.slice (some ⟨w.heap.size,0,none⟩) 0 m,w.alloc (.cells (madeCells zv.cells (m * inf.size)) e),_,.inl ?_,Rest.refl w,Sats.alloc (A:=RowT (.slice (some ⟨w.heap.size,0,none⟩) 0 m) e ([]:List α)) _ s ?_,rfl,rfl⟩
 ·simp [execOp,hx,hy,hr]
 ·refine ⟨cellsOf_len _,.inr ⟨w.heap.size,m,_,by simp,rfl,by simp,by unfold maxLen;omega,by rw [size_madeCells,hsize],?_⟩⟩
  simp [cellsOf]
end
end
section
theorem strCells_S (s:List UInt8):Lib.strCells (S s)=cellsOf s:=by
 show List.map (fun b:UInt8=>Value.int .u8 b.toNat) _=_
 have:(S s).data.toList=s:=by simp [S]
 rw [this]
 induction s with
 | nil=>rfl
 | cons a l ih =>
  simp [cellsOf,Rep.cells] at ih ⊢
  exact ih
section
variable {P:Program} {w:World} {L:List Assn} {F:Frag}
theorem row_appendS {i:Nat} {v:Value} {t u ty e:TypeId} {xs:List UInt8} (s:List UInt8) {zs:List Value} (hi:L[i]?=some (RowT v e xs)) (hx0:0<xs.length) (ht:P.underlying t=some (.slice e)) (hu:P.underlying u=some .string)
  (hs:P.cellsOf e=1) (hby:P.bytesOf e=1) (hz:zeroC P e=some zs) (hzl:zs.length=1) (hb:xs.length+s.length≤140737488355328) (st:Sats w L F) :
  ∃ v' w',(Builtin.append_ #[t,u] ty #[v,.string (S s)]).run P w=.ok v' w'∧Rest w w'∧Sats w' (L.set i (RowT v' e (xs++s))) F:=by
 obtain ⟨inf,z,hinf,hsize,hbytes,hzero,hzc⟩:=info_of_bytes hs rM hby hz
 have hil:i<L.length:=(List.getElem?_eq_some_iff.1 hi).1
 obtain ⟨hv1,hv2⟩:=row_heap hi st
 have hsz:Rep.sz UInt8=1:=rfl
 rw [hsz] at hv1 hv2
 have hall:=cellsOf_all s
 have hS:=S_size s
 have hC:=strCells_S s
 have hzcs:z.cells.size=1:=by rw [hzc];simpa using hzl
 rcases hv2 with ⟨h0,b,rfl⟩ | ⟨g,c2,cur,rfl,hg,hk,hc,hsz2,htk⟩
 ·omega
 ·have hcl:(cellsOf xs).length=xs.length * 1:=by rw [cellsOf_len,hsz]
  have hyl:(cellsOf s).length=s.length * 1:=by rw [cellsOf_len,hsz]
  by_cases hroom:xs.length+s.length≤c2
  ·have hrun:=Lib.run_append_room_string (P:=P) w t u ty e inf ht hu hinf hsize g xs.length c2 cur hg (S s) rM rM
   refine ⟨_,_,hrun,Rest.refl w,?_⟩
   obtain ⟨h,⟨hl2,hcc⟩,dd,s'⟩:=Sats.pick hi st
   rcases hcc with ⟨_,⟨b,hb2⟩,_⟩ | ⟨g2,c3,cur2,hv3,rfl,_⟩
   ·simp at hb2
    omega
   ·cases hv3
    have hcur:cur2=cur:=by
     have:=Sats.frame_left s' g _ (Frag.one_self g _)
     rw [hg] at this
     cases this;rfl
    subst hcur
    rw [hS,hC]
    refine Sats.rewrite (o':=.cells ((cur2.toList.take xs.length++cellsOf s++cur2.toList.drop (xs.length+s.length)).toArray) e (0,0)) hil dd s' ?_ (fun n hn=>setRow_other w g _ hn) (setRow_heap w g cur2 _ e (0,0) hg)
    refine ⟨cellsOf_len _,.inr ⟨g,c2,_,by simp,rfl,by simpa using hroom,hc,?_,?_⟩⟩
    ·simp;rw [hsz];omega
    ·rw [Nat.mul_one] at htk
     simp only [htk]
     rw [← cellsOf_append,← cellsOf_len]
     exact List.take_left
  ·have hrun:=Lib.run_append_grow_string (P:=P) w t u ty e inf z ht hu hinf hzero ⟨g,0,none⟩ xs.length c2 (cellsOf xs) (by rw [hcl,hsize]) (fun j u hj=>by
      rw [addr_add,cell_heap hg,← htk] at *
      rw [List.getElem?_take] at hj
      split at hj
      ·simpa using hj
      ·cases hj) (S s) rM rM (growslice_fits rM (by rw [hbytes,hS];omega))
   refine ⟨_,_,hrun,Rest.refl w,?_⟩
   rw [hS,hC]
   have hge:=grownCap_ge w (xs.length+s.length) c2 e
   have hcm':grownCap w (xs.length+s.length) c2 e≤maxLen:=grownCap_le_maxLen w (xs.length+s.length) c2 e (by unfold maxLen;omega)
   refine Sats.replace_new (w:=w.drew) _ hi (Sats.drew st) ?_
   refine ⟨cellsOf_len _,.inr ⟨w.heap.size,_,_,by simp,rfl,by simpa using hge,hcm',?_,?_⟩⟩
   ·simp only [Array.size_append,List.size_toArray,size_zeroCells,hzcs,cellsOf_len,hsz]
    omega
   ·simp only [Array.toList_append]
    rw [← cellsOf_append,← cellsOf_len]
    exact List.take_left
end
section
variable {P:Program} {n:Nat} {ops:Array Oper} {Q:Post} {f:Nat→Value} {L:List Assn} {rest:List Oper} {d:Nat} {ty:TypeId} {pos:String} {af:Array Edge} {v:Value} {xs:List UInt8}
theorem st_appS (i:Nat) {x y:Operand} {s:List UInt8} {t u e:TypeId} {zs:List Value} (hd:Nat.blt d n=true) (hx:evalF f x=v) (hi:L[i]?=some (RowT v e xs)) (hy:evalF f y=.string (S s)) (hx0:0<xs.length) (ht:P.underlying t=some (.slice e)) (hu:P.underlying u=some .string)
  (hs:P.cellsOf e=1) (hby:P.bytesOf e=1) (hz:zeroC P e=some zs) (hzl:zs.length=1) (hb:xs.length+s.length≤140737488355328)
  (h:∀ v',v'.oneCell'=true→ExL P n ops rest Q (upd f d v') (L.set i (RowT v' e (xs++s)))):ExL P n ops (⟨some d,.call ⟨.builtin .append,#[x,y],#[t,u]⟩,ty,pos,af,none⟩::rest) Q f L:=by
 refine ExL.eff rfl hd (R:=fun v' L'=>v'.oneCell'=true∧L'=L.set i (RowT v' e (xs++s))) (fun F w st=>?_) (fun v' L' e=>by obtain ⟨o,rfl⟩:=e;exact h v' o)
 obtain ⟨v',w',hrun,hre,hsat⟩:=row_appendS (P:=P) (ty:=ty) s hi hx0 ht hu hs hby hz hzl hb st
 exact ⟨v',w',_,.inl (by simp [execOp,resolve,invoke,builtin,hx,hy,hrun]),hre,hsat,RowT.one (by rw [List.getElem?_set_self (List.getElem?_eq_some_iff.1 hi).1]) hsat,rfl⟩
end
end
section
def vB (n:Nat):List UInt8:=if h:n<128 then [UInt8.ofNat n] else UInt8.ofNat (n % 128+128)::vB (n / 128)
termination_by n
decreasing_by omega
def vT (i acc:Nat):List UInt8→Except Int (Nat×Nat)
 | []=>.error (if i=10 then 3 else 2)
 | c::l=>if i=10 then .error 3 else
  if 128≤c.toNat then vT (i+1) (acc+((c.toNat - 128) * 2 ^ (7 * i)) % 2 ^ 64) l
  else if (0<i∧c.toNat=0)∨(i=9∧1<c.toNat) then .error 3 else .ok (acc+c.toNat * 2 ^ (7 * i),i+1)
def vTake (l:List UInt8):Except Int (Nat×Nat):=vT 0 0 l
theorem vB_small {n:Nat} (h:n<128):vB n=[UInt8.ofNat n]:=by
 rw [vB,dif_pos h]
theorem vB_big {n:Nat} (h:¬ n<128):vB n=UInt8.ofNat (n % 128+128)::vB (n / 128):=by
 conv=>lhs;rw [vB,dif_neg h]
theorem vB_pos (n:Nat):0<(vB n).length:=by
 by_cases h:n<128
 ·rw [vB_small h];simp
 ·rw [vB_big h];simp
theorem vB_len:∀ (k n:Nat),n<2 ^ (7 * k)→0<k→(vB n).length≤k
 | 0,n,_,h=>by omega
 | k+1,n,hn,_=>by
  by_cases h:n<128
  ·rw [vB_small h];simp
  ·rw [vB_big h]
   have hk:0<k:=by
    rcases Nat.eq_zero_or_pos k with rfl | hk
    ·simp at hn;omega
    ·exact hk
   have:n / 128<2 ^ (7 * k):=by
    rw [show 7 * (k+1)=7 * k+7 by omega,Nat.pow_add] at hn
    exact Nat.div_lt_of_lt_mul (by rw [Nat.mul_comm];exact hn)
   have:=vB_len k (n / 128) this hk
   simp only [List.length_cons]
   omega
theorem vT_vB:∀ (k n i acc:Nat) (l:List UInt8),n<2 ^ (7 * k)→i+k≤9→(0<i→0<n)→vT i acc (vB n++l)=.ok (acc+n * 2 ^ (7 * i),i+(vB n).length)
 | 0,n,i,acc,l,hn,hi,h0=>by
  have:n=0:=by simpa using hn
  subst this
  rw [vB_small rM]
  have hi0:i=0:=by
   rcases Nat.eq_zero_or_pos i with h | h
   ·exact h
   ·exact absurd (h0 h) rM
  subst hi0
  rfl
 | k+1,n,i,acc,l,hn,hi,h0=>by
  by_cases h:n<128
  ·rw [vB_small h]
   have e:(UInt8.ofNat n).toNat=n:=by simp;omega
   simp only [List.cons_append,List.nil_append,vT,e]
   rw [if_neg rM,if_neg rM,if_neg rM]
   rfl
  ·rw [vB_big h]
   have e:(UInt8.ofNat (n % 128+128)).toNat=n % 128+128:=by simp;omega
   have hn2:n / 128<2 ^ (7 * k):=by
    rw [show 7 * (k+1)=7 * k+7 by omega,Nat.pow_add] at hn
    exact Nat.div_lt_of_lt_mul (by rw [Nat.mul_comm];exact hn)
   have ih:=vT_vB k (n / 128) (i+1) (acc+n % 128 * 2 ^ (7 * i)) l hn2 rM (fun _=>by omega)
   simp only [List.cons_append,vT,e]
   have hlt:n % 128 * 2 ^ (7 * i)<2 ^ 64:=by
    have h1:n % 128 * 2 ^ (7 * i)<128 * 2 ^ (7 * i):=Nat.mul_lt_mul_of_pos_right rM (Nat.pow_pos rM)
    have h2:128 * 2 ^ (7 * i)=2 ^ (7+7 * i):=by rw [Nat.pow_add]
    have h3:2 ^ (7+7 * i)≤2 ^ 64:=Nat.pow_le_pow_right rM rM
    omega
   rw [if_neg rM,if_pos rM,show n % 128+128 - 128=n % 128 by omega,Nat.mod_eq_of_lt hlt,ih]
   congr 2
   ·rw [show 7 * (i+1)=7+7 * i by omega,Nat.pow_add,Nat.add_assoc,← Nat.mul_assoc,← Nat.add_mul]
    congr 2
    omega
   ·simp only [List.length_cons];omega
theorem vTake_vB {n:Nat} (h:n<2 ^ 63) (l:List UInt8):vTake (vB n++l)=.ok (n,(vB n).length):=by
 have:=vT_vB 9 n 0 0 l (by simpa using h) rM rM
 simpa [vTake] using this
theorem vT_ten:∀ (l:List UInt8) (i acc:Nat),i≤10→vT i acc l=vT i acc (l.take (10 - i))
 | [],i,acc,_=>by simp
 | c::l,i,acc,hi=>by
  by_cases h:i=10
  ·subst h
   simp [vT]
  ·rw [show 10 - i=(10 - (i+1))+1 by omega,List.take_succ_cons]
   simp only [vT]
   rw [if_neg h,if_neg h]
   split
   ·exact vT_ten l (i+1) _ rM
   ·rfl
theorem vTake_ten (l:List UInt8):vTake l=vTake (l.take 10):=vT_ten l 0 0 rM
end
section
@[reducible] def Bys (v:Value) (l:List UInt8):Assn:=RowT v 5 l
theorem vl_quou64 {P:Program} {f:Nat→Value} {L:List Assn} {d:Nat} {ty:TypeId} {pos:String} {af:Array Edge} {gd:Option (Nat×Bool)} {xt yt:TypeId} {x y:Operand} {a b:Int} (hx:evalF f x=.int .u64 a) (hy:evalF f y=.int .u64 b) (ha:0≤a) (hb:0<b) (h2:a≤18446744073709551615) :
  Val P ⟨some d,.binOp .quo xt x y yt,ty,pos,af,gd⟩ f L (.int .u64 (a / b)):=by
 have h0:0≤a / b:=Int.ediv_nonneg ha rM
 have h1:a / b≤a:=Int.ediv_le_self b ha
 refine vl_bin hx hy rfl (fun w=>?_)
 simp [binOp,Op.intDiv,show b≠0 by omega,Int.tdiv_eq_ediv_of_nonneg ha,wrap_u64 h0 (show a / b≤18446744073709551615 by omega)]
theorem u64_or {a b:Nat} (ha:a<2 ^ 64) (hb:b<2 ^ 64):bits .or .u64 (a:Int) (b:Int)=((a ||| b:Nat):Int):=by
 have e1:((a:Int) % ((2 ^ 64:Nat):Int)).toNat=a:=by omega
 have e2:((b:Int) % ((2 ^ 64:Nat):Int)).toNat=b:=by omega
 show IntKind.u64.wrap ((BitVec.ofInt 64 a ||| BitVec.ofInt 64 b).toNat:Nat)=_
 have h:=Nat.or_lt_two_pow ha hb
 rw [BitVec.toNat_or,BitVec.toNat_ofInt,BitVec.toNat_ofInt,e1,e2,wrap_u64 rM rM]
theorem shl_or {a x i:Nat} (hi:i≤9) (ha:a<2 ^ (7 * i)):bits .or .u64 (a:Int) (IntKind.u64.wrap ((x:Int) * 2 ^ (min ((7 * (i:Int)).toNat) IntKind.u64.bits)))=((a+(x * 2 ^ (7 * i)) % 2 ^ 64:Nat):Int):=by
 have e0:min ((7 * (i:Int)).toNat) IntKind.u64.bits=7 * i:=by
  show min ((7 * (i:Int)).toNat) 64=7 * i
  omega
 have e1:IntKind.u64.wrap ((x:Int) * 2 ^ (7 * i))=((x * 2 ^ (7 * i) % 2 ^ 64:Nat):Int):=by
  rw [IntKind.wrap_u64]
  simp
 have hp:2 ^ (7 * i)≤2 ^ 63:=Nat.pow_le_pow_right rM rM
 rw [e0,e1,u64_or rM (Nat.mod_lt _ (by decide))]
 congr 1
 have e2:x * 2 ^ (7 * i) % 2 ^ 64=2 ^ (7 * i) * (x % 2 ^ (64 - 7 * i)):=by
  have e3:2 ^ 64=2 ^ (7 * i) * 2 ^ (64 - 7 * i):=by rw [← Nat.pow_add];congr 1;omega
  rw [Nat.mul_comm x,e3,Nat.mul_mod_mul_left]
 rw [e2,Nat.or_comm,← Nat.two_pow_add_eq_or_of_lt ha,Nat.add_comm]
def vtV:Except Int (Nat×Nat)→Value
 | .ok (n,u)=>.tuple #[.int .u64 n,.int .i64 u,.int .i64 0]
 | .error e=>.tuple #[.int .u64 0,.int .i64 0,.int .i64 e]
set_option maxRecDepth 20000 attribute [local irreducible] Ex ExL Fn thn inb rnd fin meet Tab Mix mxEnd Val Sats RdT Rd RowT Row Blk Sub Fac ResV RVal Evs subs subs3 Hid Capd
section
theorem vput_F (n:Nat) (M:List Assn) (hn:n<2 ^ 63):Fn Tryz.prog 179 #[.int .u64 n] M fun v L'=>v.oneCell'=true∧L'=Bys v (vB n)::M:=by
 refine Fn.of_ex Tryz.func179 rfl Tryz.ntmps179 rfl ?_
 (refine rn ?_;(repeat (first | intro (v:Value) | intro h)))
 have hvl:=vB_len 9 n (by simpa using hn) rM
 refine Ex.sub ?_ (Sub.empty (α:=UInt8) none 5 M)
 refine Ex.loop [0,3] (fun q vs L'=>∃ (m:Nat) (v3:Value) (pre:List UInt8),m<2 ^ 63∧q=m∧vB n=pre++vB m∧v3.oneCell'=true∧vs=[.int .u64 m,v3]∧L'=Bys v3 pre::M) n ⟨n,_,[],hn,rfl,rfl,rfl,rfl,rfl⟩ ?_
 rintro q vs g1 L' ⟨_,v3,pre,hm,rfl,hpre,o3,rfl,rfl⟩
 refine Ex.keep [0,3] rG (fun gk=>?_)
 have hpl:=congrArg List.length hpre
 rw [List.length_append] at hpl
 have hvp:=vB_pos q
 by_cases hlt:q<128
 ·rw [vB_small hlt] at hpre
  (refine rn ?_;(repeat (first | intro (v:Value) | intro h)))
  (refine fr ?_)
  rw [hpre]
  exact ⟨_,rB,by assumption,rfl⟩
 ·rw [vB_big hlt] at hpre
  (refine rn ?_;(repeat (first | intro (v:Value) | intro h)))
  refine ExL.val rJ rJ rJ (vl_quou64 rJ rJ rM rM rM) ?_
  (refine rn ?_;(repeat (first | intro (v:Value) | intro h)))
  have e1:((q:Int) % 128+128).toNat=q % 128+128:=by omega
  rw [e1,show ((q:Int) / 128)=((q / 128:Nat):Int) by omega]
  exact rnd_n ⟨q / 128,Bys v (pre++[UInt8.ofNat (q % 128+128)])::M,by omega,rB,q / 128,v,_,by omega,rfl,by rw [hpre];simp,by assumption,lcons rfl (lcons rfl rfl),rfl⟩
theorem vtake_F (v0:Value) (l:List UInt8) (M:List Assn) (hr:RdT M v0 l) (hl:l.length≤1000000000):Fn Tryz.prog 247 #[v0] M fun v L'=>v=vtV (vTake l)∧L'=M:=by
 have hm:vTake l=vTake (l.take 10):=vTake_ten l
 have hml:(l.take 10).length≤10:=by rw [List.length_take];omega
 refine Fn.of_ex Tryz.func247 rfl Tryz.ntmps247 rfl ?_
 refine Ex.claim 2 [0,2] (fun vs L'=>∃ v12:Value,RdT M v12 (l.take 10)∧vs=[v12,.int .u64 0]∧L'=M) ?_ ?_
 ·rintro vs gq L1 ⟨v12,hr12,rfl,rfl⟩
  rw [hm]
  generalize l.take 10=b at hr12 hml
  clear hm hr
  (refine rn ?_;(repeat (first | intro (hcs:_=List.set _ _ _) | intro h)))
  refine Ex.loop [2,14] (fun q vs L'=>∃ (i acc:Nat),i≤b.length∧q=b.length - i∧vTake b=vT i acc (b.drop i)∧(i≤9→acc<2 ^ (7 * i))∧acc<2 ^ 65∧vs=[.int .u64 acc,.int .i64 i]∧L'=L1) b.length ⟨0,0,by omega,rfl,rfl,fun _=>by simp,by decide,rfl,rfl⟩ ?_
  rintro q vs g1 L2 ⟨i,acc,hi,rfl,hv,ha,ha2,rfl,rfl⟩
  refine Ex.keep [0,2,12,13,14] rG (fun gk=>?_)
  by_cases hlt:i<b.length
  ·have hc:=(b[i]'hlt).toNat_lt
   have ha:=ha rM
   rw [List.drop_eq_getElem_cons hlt,vT,if_neg rM] at hv
   by_cases h128:128≤(b[i]'hlt).toNat
   ·rw [if_pos h128] at hv
    obtain ⟨x,hx⟩:∃ x:Nat,((b[i]'hlt).toNat:Int) - 128=x:=⟨(b[i]'hlt).toNat - 128,by omega⟩
    have hso:=shl_or (x:=x) (show i≤9 by omega) ha
    have hxn:(b[i]'hlt).toNat - 128=x:=by omega
    rw [hxn] at hv
    have hbd:i+1≤9→acc+x * 2 ^ (7 * i) % 2 ^ 64<2 ^ (7 * (i+1)):=fun hi9=>by
     have h1:x * 2 ^ (7 * i) % 2 ^ 64≤x * 2 ^ (7 * i):=Nat.mod_le _ _
     have h2:x * 2 ^ (7 * i)≤127 * 2 ^ (7 * i):=Nat.mul_le_mul_right _ rM
     have h3:2 ^ (7 * (i+1))=128 * 2 ^ (7 * i):=by rw [show 7 * (i+1)=7+7 * i by omega,Nat.pow_add]
     omega
    have hbd2:acc+x * 2 ^ (7 * i) % 2 ^ 64<2 ^ 65:=by
     have h1:x * 2 ^ (7 * i) % 2 ^ 64<2 ^ 64:=Nat.mod_lt _ (by decide)
     have h2:2 ^ (7 * i)≤2 ^ 63:=Nat.pow_le_pow_right rM rM
     omega
    (refine rn ?_;(repeat (first | intro (hcs:_=List.set _ _ _) | intro h)))
    rw [hx,wrap_u8 (show (0:Int)≤x by omega) rM,wrap_u64 (show (0:Int)≤x by omega) rM,hso]
    exact rnd_n ⟨b.length - (i+1),_,by omega,rB,i+1,_,by omega,rfl,hv,hbd,hbd2,lcons rfl (lcons (vint rM) rfl),rfl⟩
   ·rw [if_neg h128] at hv
    by_cases hb1:(0<i∧(b[i]'hlt).toNat=0)∨(i=9∧1<(b[i]'hlt).toNat)
    ·rw [if_pos hb1] at hv
     rw [hv]
     have hcs:(0<i∧(b[i]'hlt).toNat=0)∨(i=9∧1<(b[i]'hlt).toNat∧¬ (b[i]'hlt).toNat=0):=by omega
     rcases hcs with ⟨h1,h2⟩ | ⟨h1,h2,h3⟩
     all_goals
      (refine rn ?_;(repeat (first | intro (hcs:_=List.set _ _ _) | intro h)))
      (refine fr ?_)
      exact ⟨_,rB,rfl,rfl⟩
    ·rw [if_neg hb1] at hv
     obtain ⟨x,hx⟩:∃ x:Nat,((b[i]'hlt).toNat:Int)=x:=⟨(b[i]'hlt).toNat,rfl⟩
     have hxn:(b[i]'hlt).toNat=x:=by omega
     have hso:=shl_or (x:=x) (show i≤9 by omega) ha
     have hlt2:x * 2 ^ (7 * i)<2 ^ 64:=by
      rcases (show i≤8∨(i=9∧x≤1) by omega) with h | ⟨rfl,h⟩
      ·have h1:x * 2 ^ (7 * i)≤127 * 2 ^ (7 * i):=Nat.mul_le_mul_right _ rM
       have h2:2 ^ (7 * i)≤2 ^ 56:=Nat.pow_le_pow_right rM rM
       omega
      ·have h1:x * 2 ^ (7 * 9)≤1 * 2 ^ (7 * 9):=Nat.mul_le_mul_right _ h
       omega
     rw [Nat.mod_eq_of_lt hlt2] at hso
     rw [hxn] at hv
     rw [hv]
     have hcs:i=0∨(0<i∧¬ (b[i]'hlt).toNat=0∧i≠9)∨(0<i∧¬ (b[i]'hlt).toNat=0∧i=9∧¬ 1<(b[i]'hlt).toNat):=by omega
     rcases hcs with h1 | ⟨h1,h2,h3⟩ | ⟨h1,h2,h3,h4⟩
     all_goals
      (refine rn ?_;intros)
      (refine fr ?_)
      refine ⟨_,rB,?_,rfl⟩
      rw [hx,hso]
      rfl
  ·obtain rfl:i=b.length:=by omega
   rw [List.drop_length,vT] at hv
   by_cases h10:b.length=10
   ·(refine rn ?_;intros)
    (refine fr ?_)
    rw [hv,if_pos h10]
    exact ⟨_,rB,rfl,rfl⟩
   ·(refine rn ?_;intros)
    (refine fr ?_)
    rw [hv,if_neg h10]
    exact ⟨_,rB,rfl,rfl⟩
 ·intro HC
  by_cases h10:10<l.length
  ·(refine rn ?_;intros)
   exact HC _ _ ⟨_,Sub.refl _,_,rD,rfl,rfl⟩
  ·have e:l.take 10=l:=List.take_of_length_le rM
   (refine rn ?_;intros)
   exact HC _ _ ⟨_,Sub.refl _,_,by rw [e];exact hr,rfl,rfl⟩
end
end
section
def crcBit (r:Nat):Nat:=if r % 2=1 then (r / 2) ^^^ 3988292384 else r / 2
def crcN:Nat→Nat→Nat
 | 0,r=>r
 | k+1,r=>crcBit (crcN k r)
def crcStep (r:Nat) (c:UInt8):Nat:=crcN 8 (r ^^^ c.toNat)
def crcSum (l:List UInt8):Nat:=4294967295 ^^^ l.foldl crcStep 4294967295
theorem crcBit_lt {r:Nat} (h:r<2 ^ 32):crcBit r<2 ^ 32:=by
 unfold crcBit
 split
 ·exact Nat.xor_lt_two_pow rM (by decide)
 ·omega
theorem crcN_lt {r:Nat} (h:r<2 ^ 32):∀ k,crcN k r<2 ^ 32
 | 0=>h
 | k+1=>crcBit_lt (crcN_lt h k)
theorem crcStep_lt {r:Nat} (h:r<2 ^ 32) (c:UInt8):crcStep r c<2 ^ 32:=crcN_lt (Nat.xor_lt_two_pow h (by have:=c.toNat_lt;omega)) 8
theorem crcFold_lt {r:Nat} (h:r<2 ^ 32):∀ l:List UInt8,l.foldl crcStep r<2 ^ 32
 | []=>h
 | c::l=>crcFold_lt (crcStep_lt h c) l
theorem crcSum_lt (l:List UInt8):crcSum l<2 ^ 32:=Nat.xor_lt_two_pow (by decide) (crcFold_lt (by decide) l)
def crcTail (l:List UInt8):List UInt8:=[UInt8.ofNat (crcSum l / 2 ^ (8 * 0) % 256),UInt8.ofNat (crcSum l / 2 ^ (8 * 1) % 256),UInt8.ofNat (crcSum l / 2 ^ (8 * 2) % 256),UInt8.ofNat (crcSum l / 2 ^ (8 * 3) % 256)]
def crcSeal (l:List UInt8):List UInt8:=l++crcTail l
def crcOpen (b:List UInt8):Option (List UInt8):=if 4≤b.length∧b.drop (b.length - 4)=crcTail (b.take (b.length - 4)) then some (b.take (b.length - 4)) else none
theorem crcTail_len (l:List UInt8):(crcTail l).length=4:=rfl
theorem crcSeal_len (l:List UInt8):(crcSeal l).length=l.length+4:=by simp [crcSeal,crcTail_len]
theorem crcOpen_seal (l:List UInt8):crcOpen (crcSeal l)=some l:=by
 unfold crcOpen
 have h:=crcSeal_len l
 rw [h,show l.length+4 - 4=l.length by omega]
 unfold crcSeal
 rw [List.take_left,List.drop_left,if_pos ⟨by omega,rfl⟩]
theorem crcOpen_some {b l:List UInt8} (h:crcOpen b=some l):b=crcSeal l:=by
 unfold crcOpen at h
 split at h
 ·rename_i hc
  simp only [Option.some.injEq] at h
  subst h
  unfold crcSeal
  rw [← hc.2,List.take_append_drop]
 ·cases h
end
section
instance:ZRep Tryz.prog 5 UInt8:=⟨0,by kernel_rfl,by kernel_rfl⟩
theorem u32_xor {a b:Nat} (ha:a<2 ^ 32) (hb:b<2 ^ 32):bits .xor .u32 (a:Int) (b:Int)=((a ^^^ b:Nat):Int):=by
 have e1:((a:Int) % ((2 ^ 32:Nat):Int)).toNat=a:=by omega
 have e2:((b:Int) % ((2 ^ 32:Nat):Int)).toNat=b:=by omega
 show IntKind.u32.wrap ((BitVec.ofInt 32 a ^^^ BitVec.ofInt 32 b).toNat:Nat)=_
 have h:=Nat.xor_lt_two_pow ha hb
 rw [BitVec.toNat_xor,BitVec.toNat_ofInt,BitVec.toNat_ofInt,e1,e2,wrap_u32 rM rM]
theorem u32_and1 {a:Nat} (ha:a<2 ^ 32):bits .and .u32 (a:Int) 1=((a % 2:Nat):Int):=by
 have e1:((a:Int) % ((2 ^ 32:Nat):Int)).toNat=a:=by omega
 show IntKind.u32.wrap ((BitVec.ofInt 32 a &&& BitVec.ofInt 32 1).toNat:Nat)=_
 have e2:(BitVec.ofInt 32 1).toNat=1:=by decide
 rw [BitVec.toNat_and,BitVec.toNat_ofInt,e1,e2,Nat.and_one_is_mod,wrap_u32 rM rM]
theorem u32_shr1 (a:Nat):(a:Int).fdiv (2 ^ (min (Int.toNat 1) IntKind.u32.bits))=((a / 2:Nat):Int):=by
 have:min (Int.toNat 1) IntKind.u32.bits=1:=by decide
 rw [this,Int.fdiv_eq_ediv_of_nonneg _ (by decide)]
 omega
theorem vl_compl {P:Program} {f:Nat→Value} {L:List Assn} {d:Nat} {ty:TypeId} {pos:String} {af:Array Edge} {gd:Option (Nat×Bool)} {t:TypeId} {x:Operand} {a:Nat} (hx:evalF f x=.int .u32 a) (ha:a<2 ^ 32):Val P ⟨some d,.unOp .xor t x,ty,pos,af,gd⟩ f L (.int .u32 ((4294967295 ^^^ a:Nat):Int)):=by
 have h:=u32_xor (show 4294967295<2 ^ 32 by decide) ha
 intro F w s
 rw [← h]
 simp [execOp,hx,Op.unary,Op.intBits,bits]
 rfl
def tailK (s:Nat):Nat→List UInt8
 | 0=>[0,0,0,0]
 | 1=>[UInt8.ofNat (s / 2 ^ (8 * 0) % 256),0,0,0]
 | 2=>[UInt8.ofNat (s / 2 ^ (8 * 0) % 256),UInt8.ofNat (s / 2 ^ (8 * 1) % 256),0,0]
 | 3=>[UInt8.ofNat (s / 2 ^ (8 * 0) % 256),UInt8.ofNat (s / 2 ^ (8 * 1) % 256),UInt8.ofNat (s / 2 ^ (8 * 2) % 256),0]
 | _=>[UInt8.ofNat (s / 2 ^ (8 * 0) % 256),UInt8.ofNat (s / 2 ^ (8 * 1) % 256),UInt8.ofNat (s / 2 ^ (8 * 2) % 256),UInt8.ofNat (s / 2 ^ (8 * 3) % 256)]
theorem tail_byte (s k:Nat) (hk:k≤3):IntKind.u8.wrap ((s:Int).fdiv (2 ^ (min ((8 * (k:Int)).toNat) IntKind.u32.bits)))=((UInt8.ofNat (s / 2 ^ (8 * k) % 256)).toNat:Int):=by
 have e0:min ((8 * (k:Int)).toNat) IntKind.u32.bits=8 * k:=by
  show min ((8 * (k:Int)).toNat) 32=8 * k
  omega
 have e1:(UInt8.ofNat (s / 2 ^ (8 * k) % 256)).toNat=s / 2 ^ (8 * k) % 256:=by simp
 rw [e0,e1,IntKind.wrap_u8,Int.fdiv_eq_ediv_of_nonneg _ (by exact Int.le_of_lt (Int.pow_pos (by decide)))]
 simp
set_option maxRecDepth 20000 attribute [local irreducible] Ex ExL Fn thn inb rnd fin meet Tab Mix mxEnd Val Sats RdT Rd RowT Row Blk Sub Fac ResV RVal Evs subs subs3 Hid Capd
section
theorem cstep_F (r:Nat) (c:UInt8) (M:List Assn) (hr:r<2 ^ 32):Fn Tryz.prog 318 #[.int .u32 r,.int .u8 c.toNat] M fun v L'=>v=.int .u32 (crcStep r c)∧L'=M:=by
 have hc:=c.toNat_lt
 have hx:=u32_xor hr (show c.toNat<2 ^ 32 by omega)
 have hxl:r ^^^ c.toNat<2 ^ 32:=Nat.xor_lt_two_pow hr rM
 refine Fn.of_ex Tryz.func318 rfl Tryz.ntmps318 rfl ?_
 (refine rn ?_;intros)
 rw [hx]
 refine Ex.loop [0,9] (fun q vs L'=>∃ (k:Nat),k≤8∧q=8 - k∧vs=[.int .u32 (crcN k (r ^^^ c.toNat)),.int .i64 k]∧L'=M) 8 ⟨0,by omega,rfl,rfl,rfl⟩ ?_
 rintro q vs g1 L1 ⟨k,hk,rfl,rfl,rfl⟩
 refine Ex.keep [0,9] rG (fun gk=>?_)
 have hl:=crcN_lt hxl k
 by_cases hlt:k<8
 ·have hs:crcN (k+1) (r ^^^ c.toNat)=crcBit (crcN k (r ^^^ c.toNat)):=rfl
  generalize crcN k (r ^^^ c.toNat)=z at hl hs ⊢
  have ha:=u32_and1 hl
  have hsh:=u32_shr1 z
  by_cases hz:z % 2=1
  ·rw [crcBit,if_pos hz] at hs
   have hx2:=u32_xor (show z / 2<2 ^ 32 by omega) (show 3988292384<2 ^ 32 by decide)
   (refine rn ?_;intros)
   rw [hsh]
   exact rnd_n ⟨8 - (k+1),_,by omega,Sub.refl _,k+1,by omega,rfl,by rw [hs,← hx2];exact lcons rfl (lcons (vint rM) rfl),rfl⟩
  ·rw [crcBit,if_neg hz] at hs
   (refine rn ?_;intros)
   rw [hsh]
   exact rnd_n ⟨8 - (k+1),_,by omega,Sub.refl _,k+1,by omega,rfl,by rw [hs];exact lcons rfl (lcons (vint rM) rfl),rfl⟩
 ·obtain rfl:k=8:=by omega
  (refine rn ?_;intros)
  (refine fr ?_)
  exact ⟨_,Sub.refl _,rfl,rfl⟩
theorem csum_F (v0:Value) (l:List UInt8) (M:List Assn) (hr:RdT M v0 l) (hl:l.length≤1000000000):Fn Tryz.prog 284 #[v0] M fun v L'=>v=.int .u32 (crcSum l)∧L'=M:=by
 refine Fn.of_ex Tryz.func284 rfl Tryz.ntmps284 rfl ?_
 (refine rn ?_;intros)
 refine Ex.loop [3,8] (fun q vs L'=>∃ (k:Nat),k≤l.length∧q=l.length - k∧vs=[.int .u32 ((l.take k).foldl crcStep 4294967295:Nat),.int .i64 k]∧L'=M) l.length ⟨0,by omega,rfl,rfl,rfl⟩ ?_
 rintro q vs g1 L1 ⟨k,hk,rfl,rfl,rfl⟩
 refine Ex.keep [3,6,7,8] rG (fun gk=>?_)
 have hz:=crcFold_lt (show 4294967295<2 ^ 32 by decide) (l.take k)
 by_cases hlt:k<l.length
 ·have hs:(l.take (k+1)).foldl crcStep 4294967295=crcStep ((l.take k).foldl crcStep 4294967295) (l[k]'hlt):=by rw [List.take_succ_eq_append_getElem hlt,List.foldl_append];rfl
  generalize (l.take k).foldl crcStep 4294967295=z at hz hs ⊢
  (refine rn ?_;intros)
  refine st_callIs [] rJ Tryz.call318 rJ rJ (cstep_F z (l[k]'hlt) _ hz) ?_
  rintro _ _ ⟨rfl,rfl⟩
  (refine rn ?_;intros)
  exact rnd_n ⟨l.length - (k+1),_,by omega,rB,k+1,by omega,rfl,by rw [hs];exact lcons rfl (lcons (vint rM) rfl),rfl⟩
 ·obtain rfl:k=l.length:=by omega
  rw [List.take_length] at hz ⊢
  (refine rn ?_;intros)
  refine ExL.val rJ rJ rJ (vl_compl rJ hz) ?_
  exact re0
theorem ctail_F (v0:Value) (l:List UInt8) (M:List Assn) (hr:RdT M v0 l) (hl:l.length≤1000000000):Fn Tryz.prog 245 #[v0] M fun v L'=>v=.agg (cellsOf (crcTail l)).toArray∧L'=M:=by
 refine Fn.of_ex Tryz.func245 rfl Tryz.ntmps245 rfl ?_
 (refine rn ?_;(repeat (first | intro (g:Nat) | intro h)))
 revert g
 intro g3
 revert g
 intro g2
 refine st_callIs [] rJ Tryz.call284 rJ rJ (csum_F v0 l _ rD hl) ?_
 rintro _ _ ⟨rfl,rfl⟩
 have hs:=crcSum_lt l
 unfold crcTail
 generalize crcSum l=s at hs ⊢
 (refine rn ?_;intros)
 refine Ex.loop [8] (fun q vs L'=>∃ (k:Nat),k≤4∧q=4 - k∧vs=[.int .i64 k]∧L'=Blk g3 334 (cellsOf (tailK s k))::Blk g2 334 [.int .u8 0,.int .u8 0,.int .u8 0,.int .u8 0]::M) 4 ⟨0,by omega,rfl,rfl,rfl⟩ ?_
 rintro q vs g1 L1 ⟨k,hk,rfl,rfl,rfl⟩
 refine Ex.keep [2,3,4,8] rG (fun gk=>?_)
 rcases (show k=0∨k=1∨k=2∨k=3∨k=4 by omega) with rfl | rfl | rfl | rfl | rfl
 ·(refine rn ?_;intros)
  rw [tail_byte s 0 rM]
  exact rnd_n ⟨3,_,by omega,rB,1,by omega,rfl,lcons (vint rM) rfl,rfl⟩
 ·(refine rn ?_;intros)
  rw [tail_byte s 1 rM]
  exact rnd_n ⟨2,_,by omega,rB,2,by omega,rfl,lcons (vint rM) rfl,rfl⟩
 ·(refine rn ?_;intros)
  rw [tail_byte s 2 rM]
  exact rnd_n ⟨1,_,by omega,rB,3,by omega,rfl,lcons (vint rM) rfl,rfl⟩
 ·(refine rn ?_;intros)
  rw [tail_byte s 3 rM]
  exact rnd_n ⟨0,_,by omega,rB,4,by omega,rfl,lcons (vint rM) rfl,rfl⟩
 ·exact re0
theorem cseal_F (v0:Value) (l:List UInt8) (M:List Assn) (hr:RdT M v0 l) (hl:l.length≤1000000000):Fn Tryz.prog 180 #[v0] M fun v L'=>v.oneCell'=true∧L'=Bys v (crcSeal l)::M:=by
 refine Fn.of_ex Tryz.func180 rfl Tryz.ntmps180 rfl ?_
 (refine rn ?_;(repeat (first | intro (g:Nat) | intro (v:Value) | intro (o:O1 _) | intro h)))
 refine st_callIs [] rJ Tryz.call245 rJ rJ (ctail_F v0 l _ rD rM) ?_
 rintro _ L1 ⟨rfl,rfl⟩
 have htl:=crcTail_len l
 (refine rn ?_;(repeat (first | intro (g:Nat) | intro (v:Value) | intro (o:O1 _) | intro h)))
 revert g
 intro g3
 generalize hT:crcTail l=T at htl ⊢
 refine st_make0 rJ rJ rJ rJ rE rJ rM (by show ((l.length:Int)+4) * 1≤_;omega) (fun v o=>?_)
 revert o
 revert v
 intro v4 o4
 (refine rn ?_;(repeat (first | intro (v:Value) | intro h)))
 refine ExL.sub (L':=Bys v l::Blk g3 334 (cellsOf T)::L1) ?_ rB
 have hrd:RdT (Bys v l::Blk g3 334 (cellsOf T)::L1) (.slice (some ⟨g3,0,none⟩) 4 4) T:=rd_blk 1 T rfl htl rfl
 (refine rn ?_;intros)
 (refine fr ?_)
 unfold crcSeal
 rw [hT]
 exact ⟨_,rB,by assumption,rfl⟩
structure Q4 where
 a:UInt8
 b:UInt8
 c:UInt8
 d:UInt8
deriving DecidableEq
def Q4.l (q:Q4):List UInt8:=[q.a,q.b,q.c,q.d]
instance:Rep Q4:=⟨4,fun q=>cellsOf q.l,by decide,fun _=>rfl,fun _=>rfl⟩
instance:EqT Tryz.prog 334 Q4:=⟨6,[.i .u8,.i .u8,.i .u8,.i .u8],by kernel_rfl,by kernel_rfl,by kernel_rfl,by kernel_rfl,fun _=>rfl,fun a b h=>by
 obtain ⟨a1,a2,a3,a4⟩:=a
 obtain ⟨b1,b2,b3,b4⟩:=b
 have h':cellsOf [a1,a2,a3,a4]=cellsOf [b1,b2,b3,b4]:=h
 simp [cellsOf,Rep.cells] at h'
 obtain ⟨h1,h2,h3,h4⟩:=h'
 rw [UInt8.toNat_inj.1 (Int.ofNat.inj h1),UInt8.toNat_inj.1 (Int.ofNat.inj h2),UInt8.toNat_inj.1 (Int.ofNat.inj h3),UInt8.toNat_inj.1 (Int.ofNat.inj h4)]⟩
theorem copen_F (v0:Value) (l:List UInt8) (M:List Assn) (hr:RdT M v0 l) (hl:l.length≤1000000000):Fn Tryz.prog 194 #[v0] M fun v L'=>(crcOpen l=none∧v=.tuple #[.slice none 0 0,.bool false]∧L'=M)∨∃ b u,crcOpen l=some b∧u.oneCell'=true∧v=.tuple #[u,.bool true]∧L'=Bys u b::M:=by
 refine Fn.of_ex Tryz.func194 rfl Tryz.ntmps194 rfl ?_
 by_cases h4:l.length<4
 ·have hn:crcOpen l=none:=by unfold crcOpen;rw [if_neg rM]
  (refine rn ?_;intros)
  (refine mu14 ?_;intros)
  (refine rn ?_;intros)
  (refine fr ?_)
  exact ⟨_,rB,.inl ⟨hn,rfl,rfl⟩⟩
 ·obtain ⟨n,hn⟩:∃ n:Nat,(n:Int)=(l.length:Int) - 4:=⟨l.length - 4,by omega⟩
  have hnl:l.length - 4=n:=by omega
  (refine rn ?_;intros)
  rw [← hn]
  (refine mu14 ?_;intros)
  have hll:(List.drop n l).length=4:=by rw [List.length_drop];omega
  obtain ⟨a,b,c,d,hd⟩:∃ a b c d,List.drop n l=[a,b,c,d]:=by
   match hq:List.drop n l,hll with
   | [a,b,c,d],_=>exact ⟨a,b,c,d,rfl⟩
  obtain ⟨q,hq⟩:∃ q:Q4,q.l=crcTail (List.take n l):=⟨⟨_,_,_,_⟩,rfl⟩
  have e1:cellsOf (List.take 4 (List.drop (n:Int).toNat l))=Rep.cells (⟨a,b,c,d⟩:Q4):=by rw [Int.toNat_natCast,hd];rfl
  have e2:cellsOf (crcTail (List.take n l))=Rep.cells q:=by rw [← hq];rfl
  rw [e1]
  (refine mx_act rJ rJ rJ ?_;refine st_callIs [] rJ Tryz.call245 rE rJ (ctail_F _ (List.take n l) _ rD (by rw [List.length_take];omega)) ?_)
  rintro _ L1 ⟨rfl,rfl⟩
  rw [e2]
  by_cases hne:(⟨a,b,c,d⟩:Q4)=q
  ·have hS:crcOpen l=some (List.take n l):=by
    unfold crcOpen
    rw [hnl,hd,← hq,← hne,if_pos ⟨by omega,rfl⟩]
   (refine mw ?_;intros)
   (refine rn ?_;intros)
   (refine fr ?_)
   exact ⟨_,rB,.inr ⟨_,_,hS,by assumption,rfl,rfl⟩⟩
  ·have hN:crcOpen l=none:=by
    unfold crcOpen
    rw [hnl,hd,← hq,if_neg]
    rintro ⟨_,h2⟩
    apply hne
    obtain ⟨q1,q2,q3,q4⟩:=q
    simp only [Q4.l,List.cons.injEq] at h2
    obtain ⟨rfl,rfl,rfl,rfl,_⟩:=h2
    rfl
   (refine mw ?_;intros)
   (refine rn ?_;intros)
   (refine fr ?_)
   exact ⟨_,rB,.inl ⟨hN,rfl,rfl⟩⟩
end
end
section
structure Ed where
 kind:Int
 key:List UInt8
 label:Int
 value:List UInt8
deriving DecidableEq
def Ed.cells (e:Ed):List Value:=[.int .i64 e.kind,.string (S e.key),.int .i64 e.label,.string (S e.value)]
def Ed.val (e:Ed):Value:=.agg e.cells.toArray
instance:Rep Ed:=⟨4,Ed.cells,by decide,fun _=>rfl,fun _=>rfl⟩
def sumB (l:List UInt8):Int:=(l.map fun b=>(b.toNat:Int)).sum
theorem sumB_bd (l:List UInt8):0≤sumB l∧sumB l≤255 * l.length:=by
 induction l with
 | nil=>simp [sumB]
 | cons a l ih =>
  have:=a.toNat_lt
  simp [sumB] at ih ⊢;omega
theorem sumB_succ (l:List UInt8) (k:Nat) (h:k<l.length):sumB (l.take (k+1))=sumB (l.take k)+(l[k].toNat:Int):=by
 rw [List.take_succ_eq_append_getElem h]
 simp only [sumB,List.map_append,List.sum_append]
 simp
def fitKey (j:Int):List UInt8:=if j=0 then [97,110,110] else if j=1 then [98,111,98] else [99,121]
def fitValue (j:Int):List UInt8:=if j=0 then [49] else if j=1 then [116,119,111] else if j=2 then [0,255] else [116,119,101,108,118,101,32,98,121,116,101,115]
def Ed.fit (e:Ed):Ed :=
 ⟨1+(e.kind.tmod 5+5) % 5,fitKey (sumB e.key % 3),if 2<1+(e.kind.tmod 5+5) % 5 then e.label % 2 else 0,if 2<1+(e.kind.tmod 5+5) % 5 then fitValue (sumB e.value % 4) else []⟩
theorem tmod5 (n:Int):-5<n.tmod 5∧n.tmod 5<5:=⟨Int.lt_tmod_of_pos n (by decide),Int.tmod_lt_of_pos n (by decide)⟩
end
section
structure Clk where
 a:Int
 b:Int
 c:Int
 d:Int
 e:Int
 deriving DecidableEq
def Clk.get (k:Clk) (i:Nat):Int:=match i with | 0=>k.a | 1=>k.b | 2=>k.c | 3=>k.d | 4=>k.e | _=>0
@[reducible] def Clk.val (k:Clk):Value:=.agg #[.int .i64 k.a,.int .i64 k.b,.int .i64 k.c,.int .i64 k.d,.int .i64 k.e]
def Clk.join (x y:Clk):Clk:=⟨max x.a y.a,max x.b y.b,max x.c y.c,max x.d y.d,max x.e y.e⟩
def Clk.le (x y:Clk):Bool:=x.a≤y.a && x.b≤y.b && x.c≤y.c && x.d≤y.d && x.e≤y.e
def Clk.set (k:Clk) (i:Nat) (v:Int):Clk:=match i with | 0=>{ k with a:=v } | 1=>{ k with b:=v } | 2=>{ k with c:=v } | 3=>{ k with d:=v } | 4=>{ k with e:=v } | _=>k
def Clk.zero:Clk:=⟨0,0,0,0,0⟩
def Clk.next (k:Clk) (r:Int):Clk×Int:=if r<0∨5≤r then (Clk.zero,1) else if 1048576≤k.get r.toNat then (Clk.zero,25) else (k.set r.toNat (k.get r.toNat+1),0)
def Clk.has (k:Clk) (r n:Int):Bool:=0≤r && r<5 && 1≤n && n≤k.get r.toNat
end
section
structure Ev where
 r:Int
 n:Int
 c:Clk
 h:Int
 ed:Ed
deriving DecidableEq
instance:Rep Clk:=⟨5,fun k=>[.int .i64 k.a,.int .i64 k.b,.int .i64 k.c,.int .i64 k.d,.int .i64 k.e],by decide,fun _=>rfl,fun _=>rfl⟩
instance:Rep Ev:=⟨12,fun e=>[.int .i64 e.r,.int .i64 e.n,.int .i64 e.c.a,.int .i64 e.c.b,.int .i64 e.c.c,.int .i64 e.c.d,.int .i64 e.c.e,.int .i64 e.h,.int .i64 e.ed.kind,.string (S e.ed.key),.int .i64 e.ed.label,.string (S e.ed.value)],by decide,fun _=>rfl,fun _=>rfl⟩
def Ev.zero:Ev:=⟨0,0,⟨0,0,0,0,0⟩,0,⟨0,[],0,[]⟩⟩
instance:Inhabited Ev:=⟨Ev.zero⟩
instance:EqT Tryz.prog 80 Ev:=⟨6,[.i .i64,.i .i64,.i .i64,.i .i64,.i .i64,.i .i64,.i .i64,.i .i64,.i .i64,.s,.i .i64,.s],by kernel_rfl,by kernel_rfl,by kernel_rfl,by kernel_rfl,fun _=>rfl,fun a b h=>by
 obtain ⟨a1,a2,⟨a3,a4,a5,a6,a7⟩,a8,⟨a9,a10,a11,a12⟩⟩:=a
 obtain ⟨b1,b2,⟨b3,b4,b5,b6,b7⟩,b8,⟨b9,b10,b11,b12⟩⟩:=b
 simp only [Rep.cells,List.cons.injEq,Value.int.injEq,Value.string.injEq,S_inj,true_and,and_true] at h
 simp [h]⟩
instance:ZRep Tryz.prog 80 Ev:=⟨Ev.zero,by kernel_rfl,by kernel_rfl⟩
end
section
@[reducible] def Evs_ (v:Value) (l:List Ev):Assn:=RowT v 80 l
end
section
set_option maxRecDepth 20000 attribute [local irreducible] Ex ExL Fn thn inb rnd fin meet Tab Mix mxEnd Val Sats RdT Rd RowT Row Blk Sub Fac ResV RVal Evs subs subs3 Hid Capd
section
theorem clone_evs (v0:Value) (xs:List Ev) (L:List Assn) (hr:RdT L v0 xs) (hb:xs.length≤1000000000):Fn Tryz.prog 181 #[v0] L fun r L'=>r.oneCell'=true∧L'=Evs_ r xs::L:=by
 refine Fn.of_ex Tryz.func181 rfl Tryz.ntmps181 rfl ?_
 refine Ex.know hr.ca ?_
 rintro ⟨a,c,rfl,hn⟩
 cases a with
 | none =>
  obtain ⟨rfl,hb0⟩:=hn rfl
  obtain rfl:=List.eq_nil_of_length_eq_zero hb0
  (refine rn ?_;intros)
  (refine fr ?_)
  exact ⟨_,Sub.empty none _ _,rfl,rfl⟩
 | some a =>
  exact re2
end
end
section
structure Mk where
 r:Int
 n:Int
deriving DecidableEq
instance:Rep Mk:=⟨2,fun m=>[.int .i64 m.r,.int .i64 m.n],by decide,fun _=>rfl,fun _=>rfl⟩
def Ev.mk_ (e:Ev):Mk:=⟨e.r,e.n⟩
def Ev.rdy (c:Clk) (e:Ev):Prop:=0≤e.r∧e.r<5∧1≤e.n∧e.n - 1=c.get e.r.toNat∧e.c.le c=true
def Dst (l:List Ev):Prop:=l.Pairwise fun a b=>a.mk_≠b.mk_
theorem Dst.inj {l:List Ev} (h:Dst l) {i j:Nat} (hi:i<l.length) (hj:j<l.length) (e:(l[i]'hi).mk_=(l[j]'hj).mk_):i=j:=by
 rcases Nat.lt_trichotomy i j with hlt | heq | hgt
 ·exact absurd e (List.pairwise_iff_getElem.1 h i j hi hj hlt)
 ·exact heq
 ·exact absurd e.symm (List.pairwise_iff_getElem.1 h j i hj hi hgt)
theorem Dst.erase {l:List Ev} (h:Dst l) (i:Nat):Dst (l.eraseIdx i):=h.sublist (List.eraseIdx_sublist ..)
def NextI (c:Clk) (l:List Ev) (i:Nat):Prop:=∃ h:i<l.length,(l[i]'h).rdy c∧∀ j (hj:j<l.length),(l[j]'hj).rdy c→(l[i]'h).r≤(l[j]'hj).r
theorem NextI.unique {c:Clk} {l:List Ev} (hd:Dst l) {i j:Nat} (h:NextI c l i) (k:NextI c l j):i=j:=by
 obtain ⟨hi,h1,h2⟩:=h
 obtain ⟨hj,k1,k2⟩:=k
 have e:=Int.le_antisymm (h2 j hj k1) (k2 i hi h1)
 refine hd.inj hi hj ?_
 have en:(l[i]'hi).n=(l[j]'hj).n:=by
  have a:=h1.2.2.2.1
  have b:=k1.2.2.2.1
  rw [e] at a
  omega
 simp only [Ev.mk_,e,en]
open Classical in
noncomputable def drainF:Nat→Clk→List Ev→List Ev×List Ev×Clk
 | 0,c,l=>([],l,c)
 | n+1,c,l=>if h:∃ i,NextI c l i then
   let e:=l[Classical.choose h]'(Classical.choose_spec h).1
   let r:=drainF n (c.set e.r.toNat e.n) (l.eraseIdx (Classical.choose h))
   (e::r.1,r.2)
  else ([],l,c)
noncomputable def drain (c:Clk) (l:List Ev):List Ev×List Ev×Clk:=drainF l.length c l
theorem drain_step {c:Clk} {l:List Ev} {i:Nat} (hd:Dst l) (hi:i<l.length) (h:NextI c l i) :
  drain c l=((l[i]'hi)::(drain (c.set (l[i]'hi).r.toNat (l[i]'hi).n) (l.eraseIdx i)).1,(drain (c.set (l[i]'hi).r.toNat (l[i]'hi).n) (l.eraseIdx i)).2):=by
 obtain ⟨m,hm⟩:∃ m,l.length=m+1:=⟨l.length - 1,by omega⟩
 have hex:∃ i,NextI c l i:=⟨i,h⟩
 have hc:Classical.choose hex=i:=NextI.unique hd (Classical.choose_spec hex) h
 have hl:(l.eraseIdx i).length=m:=by rw [List.length_eraseIdx,if_pos hi];omega
 unfold drain
 rw [hm]
 conv=>lhs;unfold drainF
 rw [dif_pos hex]
 simp only [hc,hl]
theorem drain_stop {c:Clk} {l:List Ev} (h:∀ i,¬ NextI c l i):drain c l=([],l,c):=by
 unfold drain
 cases hl:l.length with
 | zero=>rfl
 | succ m =>
  unfold drainF
  rw [dif_neg (fun ⟨i,hi⟩=>h i hi)]
theorem drain_induct {motive:Clk→List Ev→Prop} (stop:∀ c l,(∀ i,¬ NextI c l i)→motive c l)
  (step:∀ c l i (hi:i<l.length),NextI c l i→motive (c.set (l[i]'hi).r.toNat (l[i]'hi).n) (l.eraseIdx i)→motive c l):∀ c l,motive c l:=by
 intro c l
 induction hn:l.length generalizing c l with
 | zero=>exact stop c l fun i ⟨hi,_⟩=>by omega
 | succ m ih =>
  by_cases h:∃ i,NextI c l i
  ·obtain ⟨i,hi⟩:=h
   obtain ⟨hl,_⟩:=id hi
   exact step c l i hl hi (ih _ _ (by rw [List.length_eraseIdx,if_pos hl];omega))
  ·exact stop c l fun i hi=>h ⟨i,hi⟩
theorem drain_sub (c:Clk) (l:List Ev):Dst l→(drain c l).2.1.Sublist l:=by
 refine drain_induct (motive:=fun c l=>Dst l→(drain c l).2.1.Sublist l) (fun c l h _=>?_) (fun c l i hi h ih hd=>?_) c l
 ·rw [drain_stop h]
  exact List.Sublist.refl _
 ·rw [drain_step hd hi h]
  exact (ih (hd.erase i)).trans (List.eraseIdx_sublist ..)
theorem drain_len (c:Clk) (l:List Ev):Dst l→(drain c l).1.length+(drain c l).2.1.length=l.length:=by
 refine drain_induct (motive:=fun c l=>Dst l→(drain c l).1.length+(drain c l).2.1.length=l.length) (fun c l h _=>?_) (fun c l i hi h ih hd=>?_) c l
 ·rw [drain_stop h];simp
 ·rw [drain_step hd hi h]
  have:=ih (hd.erase i)
  rw [List.length_eraseIdx,if_pos hi] at this
  simp only [List.length_cons]
  omega
theorem filter_sub {s l:List Ev} (h:s.Sublist l) (hd:Dst l):l.filter (fun e=>s.any fun x=>decide (x.mk_=e.mk_))=s:=by
 induction h with
 | slnil=>rfl
 | cons a hs ih =>
  rename_i s l
  rw [List.filter_cons_of_neg,ih (List.pairwise_cons.1 hd).2]
  intro hc
  obtain ⟨x,hx,he⟩:=List.any_eq_true.1 hc
  exact (List.pairwise_cons.1 hd).1 x (hs.subset hx) (of_decide_eq_true he).symm
 | cons_cons a hs ih =>
  rename_i s l
  rw [List.filter_cons_of_pos (by simp)]
  congr 1
  have h2:=ih (List.pairwise_cons.1 hd).2
  refine Eq.trans (List.filter_congr fun x hx=>?_) h2
  have hne:¬ a.mk_=x.mk_:=(List.pairwise_cons.1 hd).1 x hx
  simp [hne]
def freshS (c:Clk) (acc:List Ev) (e:Ev):List Ev:=if (acc.any fun x=>decide (x.mk_=e.mk_))=true∨c.has e.r e.n=true then acc else acc++[e]
def freshL (c:Clk) (l:List Ev):List Ev:=l.foldl (freshS c) []
theorem freshL_take (c:Clk) (l:List Ev) (i:Nat) (h:i<l.length):freshL c (l.take (i+1))=freshS c (freshL c (l.take i)) (l[i]'h):=by
 rw [List.take_succ_eq_append_getElem h]
 unfold freshL
 rw [List.foldl_append]
 rfl
theorem freshL_dst (c:Clk):∀ (l acc:List Ev),Dst acc→Dst (l.foldl (freshS c) acc)
 | [],acc,h=>h
 | e::l,acc,h=>by
  refine freshL_dst c l _ ?_
  unfold freshS
  split
  ·exact h
  ·rename_i hx
   refine List.pairwise_append.2 ⟨h,by simp,fun a ha b hb=>?_⟩
   simp only [List.mem_singleton] at hb
   subst hb
   intro e2
   exact hx (.inl (List.any_eq_true.2 ⟨a,ha,decide_eq_true e2⟩))
theorem freshL_len (c:Clk) (l:List Ev):(freshL c l).length≤l.length:=by
 have key:∀ (l acc:List Ev),(l.foldl (freshS c) acc).length≤acc.length+l.length:=by
  intro l
  induction l with
  | nil=>intro acc;simp
  | cons e l ih =>
   intro acc
   have:=ih (freshS c acc e)
   have h2:(freshS c acc e).length≤acc.length+1:=by unfold freshS;split <;> simp
   simp only [List.foldl_cons,List.length_cons]
   omega
 simpa [freshL] using key l []
theorem freshL_mem (c:Clk) (l:List Ev):∀ e∈freshL c l,e∈l:=by
 have key:∀ (l acc:List Ev),∀ e∈l.foldl (freshS c) acc,e∈acc∨e∈l:=by
  intro l
  induction l with
  | nil=>intro acc e he;exact .inl he
  | cons a l ih =>
   intro acc e he
   rcases ih _ e he with h | h
   ·unfold freshS at h
    split at h
    ·exact .inl h
    ·rcases List.mem_append.1 h with h | h
     ·exact .inl h
     ·right;simp at h;simp [h]
   ·exact .inr (List.mem_cons_of_mem _ h)
 intro e he
 rcases key l [] e he with h | h
 ·simp at h
 ·exact h
theorem freshL_any (c:Clk) (l:List Ev) (x:Ev) (hx:c.has x.r x.n=false):((freshL c l).any fun y=>decide (y.mk_=x.mk_))=(l.any fun y=>decide (y.mk_=x.mk_)):=by
 have key:∀ (l acc:List Ev),((l.foldl (freshS c) acc).any fun y=>decide (y.mk_=x.mk_))=((acc.any fun y=>decide (y.mk_=x.mk_)) || (l.any fun y=>decide (y.mk_=x.mk_))):=by
  intro l
  induction l with
  | nil=>intro acc;simp
  | cons a l ih =>
   intro acc
   rw [List.foldl_cons,ih]
   unfold freshS
   by_cases ha:a.mk_=x.mk_
   ·have hn:c.has a.r a.n=false:=by
     have h1:a.r=x.r:=congrArg Mk.r ha
     have h2:a.n=x.n:=congrArg Mk.n ha
     rw [h1,h2];exact hx
    simp only [ha,hn,List.any_cons,decide_true,Bool.true_or,Bool.or_true,Bool.false_eq_true,or_false]
    split
    ·rename_i h;simp [h]
    ·simp [ha]
   ·simp only [List.any_cons,ha,decide_false,Bool.false_or]
    split
    ·rfl
    ·simp [ha]
 simpa [freshL] using key l []
theorem freshL_has (c:Clk) (l:List Ev):∀ e∈freshL c l,c.has e.r e.n=false:=by
 have key:∀ (l acc:List Ev),(∀ e∈acc,c.has e.r e.n=false)→∀ e∈l.foldl (freshS c) acc,c.has e.r e.n=false:=by
  intro l
  induction l with
  | nil=>intro acc h;exact h
  | cons a l ih =>
   intro acc h
   refine ih _ ?_
   unfold freshS
   split
   ·exact h
   ·rename_i hx
    intro e he
    rcases List.mem_append.1 he with he | he
    ·exact h e he
    ·simp at he
     subst he
     cases hh:c.has e.r e.n
     ·rfl
     ·exact absurd (.inr hh) hx
 exact key l [] (by simp)
def mapL (l:List Ev):List (Mk×Ev):=l.map fun e=>(e.mk_,e)
theorem mpos_spec (k:Mk):∀ (l:List Ev) (s:Nat),(mpos k (mapL l) s=none∧∀ e∈l,e.mk_≠k)∨∃ i,∃ h:i<l.length,(l[i]'h).mk_=k∧mpos k (mapL l) s=some (s+i,l[i]'h)
 | [],s=>.inl ⟨rfl,by simp⟩
 | e::l,s=>by
  by_cases hk:k=e.mk_
  ·exact .inr ⟨0,by simp,hk.symm,if_pos hk⟩
  ·rcases mpos_spec k l (s+1) with ⟨h1,h2⟩ | ⟨i,hi,h1,h2⟩
   ·refine .inl ⟨(if_neg hk).trans h1,fun x hx=>?_⟩
    rcases List.mem_cons.1 hx with rfl | hx
    ·exact fun h=>hk h.symm
    ·exact h2 x hx
   ·refine .inr ⟨i+1,by simp;omega,by simpa using h1,(if_neg hk).trans ?_⟩
    show mpos k (mapL l) (s+1)=_
    rw [h2]
    simp;omega
theorem mpos_at {l:List Ev} (hd:Dst l) {i:Nat} (hi:i<l.length):mpos (l[i]'hi).mk_ (mapL l) 0=some (i,l[i]'hi):=by
 rcases mpos_spec (l[i]'hi).mk_ l 0 with ⟨_,h2⟩ | ⟨j,hj,h1,h2⟩
 ·exact absurd rfl (h2 _ (List.getElem_mem hi))
 ·have:=hd.inj hj hi h1
  subst this
  rw [h2,Nat.zero_add]
theorem mapL_snoc (l:List Ev) (e:Ev):mapL (l++[e])=mapL l++[(e.mk_,e)]:=by simp [mapL]
theorem mapL_erase (l:List Ev) (i:Nat):mapL (l.eraseIdx i)=(mapL l).eraseIdx i:=eraseIdx_map _ l i
theorem any_iff_mpos (k:Ev) (l:List Ev):(l.any fun x=>decide (x.mk_=k.mk_))=(mpos k.mk_ (mapL l) 0).isSome:=by
 rcases mpos_spec k.mk_ l 0 with ⟨h1,h2⟩ | ⟨i,hi,h1,h2⟩
 ·rw [h1]
  simp only [Option.isSome_none]
  rw [List.any_eq_false]
  intro x hx
  simpa using h2 x hx
 ·rw [h2]
  simp only [Option.isSome_some]
  exact List.any_eq_true.2 ⟨_,List.getElem_mem hi,decide_eq_true h1⟩
end
section
theorem Clk.getD_eq (k:Clk) (i:Nat):[k.a,k.b,k.c,k.d,k.e].getD i 0=k.get i:=by
 match i with
 | 0=>rfl
 | 1=>rfl
 | 2=>rfl
 | 3=>rfl
 | 4=>rfl
 | i+5=>simp [Clk.get]
theorem Clk.le_iff (x y:Clk):x.le y=true↔∀ j,j<5→x.get j≤y.get j:=by
 simp only [Clk.le,Bool.and_eq_true,decide_eq_true_eq]
 constructor
 ·rintro ⟨⟨⟨⟨h0,h1⟩,h2⟩,h3⟩,h4⟩ j hj
  match j,hj with
  | 0,_=>exact h0
  | 1,_=>exact h1
  | 2,_=>exact h2
  | 3,_=>exact h3
  | 4,_=>exact h4
 ·intro h
  exact ⟨⟨⟨⟨h 0 rM,h 1 rM⟩,h 2 rM⟩,h 3 rM⟩,h 4 rM⟩
theorem Clk.has_iff (x:Clk) (r n:Int):x.has r n=true↔0≤r∧r<5∧1≤n∧n≤x.get r.toNat:=by
 simp [Clk.has,and_assoc]
theorem Clk.has_f {x:Clk} {r n:Int} (h:¬ (0≤r∧r<5∧1≤n∧n≤x.get r.toNat)):x.has r n=false:=by
 cases hh:x.has r n
 ·rfl
 ·exact absurd ((Clk.has_iff x r n).1 hh) h
def Clk.I (c:Clk):Prop:=∀ i,i<5→I64 (c.get i)
theorem Clk.get_set (c:Clk) (i j:Nat) (v:Int) (hi:i<5):(c.set i v).get j=if j=i then v else c.get j:=by
 match i,hi with
 | 0,_=>match j with | 0=>rfl | 1=>rfl | 2=>rfl | 3=>rfl | 4=>rfl | j+5=>simp [Clk.set,Clk.get]
 | 1,_=>match j with | 0=>rfl | 1=>rfl | 2=>rfl | 3=>rfl | 4=>rfl | j+5=>simp [Clk.set,Clk.get]
 | 2,_=>match j with | 0=>rfl | 1=>rfl | 2=>rfl | 3=>rfl | 4=>rfl | j+5=>simp [Clk.set,Clk.get]
 | 3,_=>match j with | 0=>rfl | 1=>rfl | 2=>rfl | 3=>rfl | 4=>rfl | j+5=>simp [Clk.set,Clk.get]
 | 4,_=>match j with | 0=>rfl | 1=>rfl | 2=>rfl | 3=>rfl | 4=>rfl | j+5=>simp [Clk.set,Clk.get]
theorem Clk.I.set {c:Clk} (h:c.I) {i:Nat} (hi:i<5) {v:Int} (hv:I64 v):(c.set i v).I:=fun j hj=>by
 rw [Clk.get_set _ _ _ _ hi]
 split
 ·exact hv
 ·exact h j hj
theorem Clk.cells_set (c:Clk) (i:Nat) (hi:i<5) (v:Int):(Rep.cells c).set i (.int .i64 v)=Rep.cells (c.set i v):=by
 match i,hi with
 | 0,_=>rfl
 | 1,_=>rfl
 | 2,_=>rfl
 | 3,_=>rfl
 | 4,_=>rfl
theorem Clk.join_get (a b:Clk) (j:Nat) (h:j<5):(a.join b).get j=max (a.get j) (b.get j):=by
 match j,h with
 | 0,_=>rfl
 | 1,_=>rfl
 | 2,_=>rfl
 | 3,_=>rfl
 | 4,_=>rfl
set_option maxRecDepth 20000 attribute [local irreducible] Ex ExL Fn thn inb rnd fin meet Tab Mix mxEnd Val Sats RdT Rd RowT Row Blk Sub Fac ResV RVal Evs subs subs3 Hid Capd
section
theorem has_F (x:Clk) (r n:Int) (M:List Assn):Fn Tryz.prog 171 #[x.val,.int .i64 r,.int .i64 n] M fun v L'=>v=.bool (x.has r n)∧L'=M:=by
 refine Fn.of_ex Tryz.func171 rfl Tryz.ntmps171 rfl ?_
 by_cases h0:0≤r
 ·by_cases h1:r<5
  ·by_cases h2:1≤n
   ·have e:=Clk.getD_eq x r.toNat
    by_cases h3:n≤x.get r.toNat
    ·rw [(Clk.has_iff x r n).2 ⟨h0,h1,h2,h3⟩]
     exact re0
    ·rw [Clk.has_f (fun h=>h3 h.2.2.2)]
     exact re0
   ·rw [Clk.has_f (fun h=>h2 h.2.2.1)]
    exact re0
  ·rw [Clk.has_f (fun h=>h1 h.2.1)]
   exact re0
 ·rw [Clk.has_f (fun h=>h0 h.1)]
  exact re0
theorem le_F (x y:Clk) (M:List Assn):Fn Tryz.prog 312 #[x.val,y.val] M fun v L'=>v=.bool (x.le y)∧L'=M:=by
 refine Fn.of_ex Tryz.func312 rfl Tryz.ntmps312 rfl ?_
 (refine rn ?_;intros)
 refine Ex.loopS [6] (fun m vs=>∃ (i:Nat),i≤5∧m=5 - i∧vs=[.int .i64 i]∧∀ j,j<i→x.get j≤y.get j) 5 ⟨0,by omega,by omega,rfl,fun j hj=>by omega⟩ ?_
 rintro m vs g1 ⟨i,hi,rfl,rfl,hall⟩
 refine Ex.keep [2,3,6] rG (fun gk=>?_)
 by_cases hlt:i<5
 ·have e1:=Clk.getD_eq x (i:Int).toNat
  have e2:=Clk.getD_eq y (i:Int).toNat
  rw [show x.get (i:Int).toNat=x.get i from rfl] at e1
  rw [show y.get (i:Int).toNat=y.get i from rfl] at e2
  by_cases hc:x.get i≤y.get i
  ·have hall2:∀ j,j<i+1→x.get j≤y.get j:=fun j hj=>by
    by_cases hji:j=i
    ·subst hji;exact hc
    ·exact hall j rM
   clear hall
   (refine rn ?_;intros)
   (refine mu7 ?_;intros)
   (refine rn ?_;intros)
   exact rnd_n ⟨5 - (i+1),_,by omega,Sub.refl _,⟨i+1,by omega,by omega,lcons (vint rM) rfl,hall2⟩,rfl⟩
  ·have hf:x.le y=false:=by
    cases hh:x.le y
    ·rfl
    ·exact absurd ((Clk.le_iff x y).1 hh i hlt) hc
   clear hall
   rw [hf]
   (refine rn ?_;intros)
   (refine mu7 ?_;intros)
   exact re0
 ·rw [(Clk.le_iff x y).2 (fun j hj=>hall j rM)]
  exact re0
end
end
section
theorem le_refl_clk (c:Clk):c.le c=true:=(Clk.le_iff c c).2 fun j _=>Int.le_refl _
theorem le_trans_clk {a b c:Clk} (h:a.le b=true) (k:b.le c=true):a.le c=true :=
 (Clk.le_iff a c).2 fun j hj=>Int.le_trans ((Clk.le_iff a b).1 h j hj) ((Clk.le_iff b c).1 k j hj)
theorem has_mono {a b:Clk} (h:a.le b=true) {r n:Int} (k:a.has r n=true):b.has r n=true:=by
 obtain ⟨h0,h1,h2,h3⟩:=(Clk.has_iff a r n).1 k
 exact (Clk.has_iff b r n).2 ⟨h0,h1,h2,Int.le_trans h3 ((Clk.le_iff a b).1 h _ rM)⟩
theorem rdy_le {c:Clk} {e:Ev} (h:e.rdy c):c.le (c.set e.r.toNat e.n)=true:=by
 obtain ⟨h0,h1,h2,h3,_⟩:=h
 refine (Clk.le_iff _ _).2 fun j hj=>?_
 rw [Clk.get_set _ _ _ _ rM]
 split
 ·rename_i hje;subst hje;omega
 ·exact Int.le_refl _
theorem rdy_has {c:Clk} {e:Ev} (h:e.rdy c):(c.set e.r.toNat e.n).has e.r e.n=true:=by
 obtain ⟨h0,h1,h2,h3,_⟩:=h
 refine (Clk.has_iff _ _ _).2 ⟨h0,h1,h2,?_⟩
 rw [Clk.get_set _ _ _ _ rM,if_pos rfl]
 exact Int.le_refl _
theorem rdy_keep {c:Clk} {e x:Ev} (h:e.rdy c) (hx:c.has x.r x.n=false) (hne:x.mk_≠e.mk_):(c.set e.r.toNat e.n).has x.r x.n=false:=by
 obtain ⟨h0,h1,h2,h3,_⟩:=h
 refine Clk.has_f fun ⟨k0,k1,k2,k3⟩=>?_
 rw [Clk.get_set _ _ _ _ rM] at k3
 split at k3
 ·rename_i hre
  have hr:x.r=e.r:=by omega
  have hn:x.n≠e.n:=fun hn=>hne (by simp only [Ev.mk_,hr,hn])
  have:c.has x.r x.n=true:=(Clk.has_iff _ _ _).2 ⟨k0,k1,k2,by rw [hr];omega⟩
  rw [this] at hx
  cases hx
 ·have:c.has x.r x.n=true:=(Clk.has_iff _ _ _).2 ⟨k0,k1,k2,k3⟩
  rw [this] at hx
  cases hx
theorem mem_erase_ne {l:List Ev} (hd:Dst l) {i:Nat} (hi:i<l.length) {x:Ev} (hx:x∈l.eraseIdx i):x∈l∧x.mk_≠(l[i]'hi).mk_:=by
 obtain ⟨j,hji,hj⟩:=List.mem_eraseIdx_iff_getElem?.1 hx
 obtain ⟨hjl,rfl⟩:=List.getElem?_eq_some_iff.1 hj
 exact ⟨List.getElem_mem hjl,fun h=>hji (hd.inj hjl hi h)⟩
theorem drain_le (c:Clk) (l:List Ev):Dst l→c.le (drain c l).2.2=true:=by
 refine drain_induct (motive:=fun c l=>Dst l→c.le (drain c l).2.2=true) (fun c l h _=>?_) (fun c l i hi h ih hd=>?_) c l
 ·rw [drain_stop h];exact le_refl_clk c
 ·rw [drain_step hd hi h]
  exact le_trans_clk (rdy_le h.2.1) (ih (hd.erase i))
theorem drain_done (c:Clk) (l:List Ev):Dst l→∀ e∈(drain c l).1,(drain c l).2.2.has e.r e.n=true:=by
 refine drain_induct (motive:=fun c l=>Dst l→∀ e∈(drain c l).1,(drain c l).2.2.has e.r e.n=true) (fun c l h _=>?_) (fun c l i hi h ih hd=>?_) c l
 ·rw [drain_stop h];intro e he;simp at he
 ·rw [drain_step hd hi h]
  intro e he
  rcases List.mem_cons.1 he with rfl | he
  ·exact has_mono (drain_le _ _ (hd.erase i)) (rdy_has h.2.1)
  ·exact ih (hd.erase i) e he
theorem drain_left (c:Clk) (l:List Ev):Dst l→(∀ e∈l,c.has e.r e.n=false)→∀ e∈(drain c l).2.1,(drain c l).2.2.has e.r e.n=false:=by
 refine drain_induct (motive:=fun c l=>Dst l→(∀ e∈l,c.has e.r e.n=false)→∀ e∈(drain c l).2.1,(drain c l).2.2.has e.r e.n=false) (fun c l h _ hn=>?_) (fun c l i hi h ih hd hn=>?_) c l
 ·rw [drain_stop h];exact hn
 ·rw [drain_step hd hi h]
  refine ih (hd.erase i) fun e he=>?_
  obtain ⟨h1,h2⟩:=mem_erase_ne hd hi he
  exact rdy_keep h.2.1 (hn e h1) h2
theorem drain_end (c:Clk) (l:List Ev):Dst l→∀ i,¬ NextI (drain c l).2.2 (drain c l).2.1 i:=by
 refine drain_induct (motive:=fun c l=>Dst l→∀ i,¬ NextI (drain c l).2.2 (drain c l).2.1 i) (fun c l h _=>?_) (fun c l i hi h ih hd=>?_) c l
 ·rw [drain_stop h];exact h
 ·rw [drain_step hd hi h];exact ih (hd.erase i)
def cnt (k:Mk) (l:List Ev):Nat:=l.countP fun e=>decide (e.mk_=k)
theorem cnt_erase (k:Mk) (l:List Ev) (i:Nat) (h:i<l.length):cnt k l=(if (l[i]'h).mk_=k then 1 else 0)+cnt k (l.eraseIdx i):=by
 unfold cnt
 have e:l=l.take i++l[i]'h::l.drop (i+1):=by rw [List.getElem_cons_drop,List.take_append_drop]
 rw [List.eraseIdx_eq_take_drop_succ]
 conv=>lhs;rw [e]
 rw [List.countP_append,List.countP_append,List.countP_cons]
 simp only [decide_eq_true_eq]
 omega
theorem drain_cnt (k:Mk) (c:Clk) (l:List Ev):Dst l→cnt k (drain c l).1+cnt k (drain c l).2.1=cnt k l:=by
 refine drain_induct (motive:=fun c l=>Dst l→cnt k (drain c l).1+cnt k (drain c l).2.1=cnt k l) (fun c l h _=>?_) (fun c l i hi h ih hd=>?_) c l
 ·rw [drain_stop h];simp [cnt]
 ·rw [drain_step hd hi h,cnt_erase k l i hi]
  have:=ih (hd.erase i)
  have e:∀ (a:Ev) (t:List Ev),cnt k (a::t)=(if a.mk_=k then 1 else 0)+cnt k t:=fun a t=>by
   unfold cnt
   rw [List.countP_cons]
   simp only [decide_eq_true_eq]
   omega
  show cnt k ((l[i]'hi)::(drain (c.set (l[i]'hi).r.toNat (l[i]'hi).n) (l.eraseIdx i)).1)+cnt k (drain (c.set (l[i]'hi).r.toNat (l[i]'hi).n) (l.eraseIdx i)).2.1=_
  rw [e]
  omega
theorem freshL_id {c:Clk} {l:List Ev} (hd:Dst l) (h:∀ e∈l,c.has e.r e.n=false):freshL c l=l:=by
 have key:∀ (l acc:List Ev),Dst (acc++l)→(∀ e∈l,c.has e.r e.n=false)→l.foldl (freshS c) acc=acc++l:=by
  intro l
  induction l with
  | nil=>intro acc _ _;simp
  | cons a l ih =>
   intro acc hd h
   have hs:freshS c acc a=acc++[a]:=by
    unfold freshS
    rw [if_neg]
    rintro (hx | hx)
    ·obtain ⟨y,hy,hya⟩:=List.any_eq_true.1 hx
     exact (List.pairwise_append.1 hd).2.2 y hy a (by simp) (of_decide_eq_true hya)
    ·rw [h a (by simp)] at hx;cases hx
   rw [List.foldl_cons,hs,ih (acc++[a]) (by simpa using hd) (fun e he=>h e (List.mem_cons_of_mem _ he))]
   simp
 exact key l [] hd h
end
section
def letter (c:UInt8):Bool:=97≤c.toNat && c.toNat≤122
def keyErr (s:ByteArray):Int:=if 1≤s.size∧s.size≤8∧s.data.toList.all letter=true then 0 else 10
def labelErr (n:Int):Int:=if 0≤n∧n<2 then 0 else 11
def valueErr (s:ByteArray):Int:=if 1≤s.size∧s.size≤12 then 0 else 12
theorem decode_high (s:ByteArray) (i:Nat) (h:i<s.size) (hb:128≤(s[i]'h).toNat):128≤(Utf8.decode s i).1:=by
 have e:s.get! (i+0)=s[i]'h:=by
  show s.get! i=_
  simp [ByteArray.get!,getElem!_pos,h]
  rfl
 simp only [Utf8.decode,e]
 rw [if_neg rM]
 split
 ·split <;> simp_all [Utf8.runeError]
 ·split
  ·split <;> simp_all [Utf8.runeError];omega
  ·split
   ·split <;> simp_all [Utf8.runeError];omega
   ·simp [Utf8.runeError]
theorem run_next_any {P:Program} (w:World) (s:ByteArray) (pos:Nat) (ty:TypeId) (h:pos<s.size) :
  (Instr.next (.pointer (some ⟨w.heap.size,0,none⟩)) true ty).run P (w.iter s pos) =
   .ok (.tuple #[.bool true,.int .i64 pos,.int .i32 (Utf8.decode s pos).1]) (w.iter s (pos+(Utf8.decode s pos).2)):=by
 simp only [Instr.next,getObj,setObj,Sem.run_bind,Sem.run,World.iter_heap,Result.andThen,h,if_true,World.iter_set]
 simp [goInt,Sem.run,World.iter_heap,World.iter_set]
theorem all_take_succ (l:List UInt8) (k:Nat) (h:k<l.length) (p:UInt8→Bool) (hp:(l.take k).all p=true) (hk:p l[k]=true):(l.take (k+1)).all p=true:=by
 rw [List.take_succ_eq_append_getElem h,List.all_append,hp]
 simp [hk]
theorem mem_byte (s:ByteArray) (k:Nat) (h:k<s.size):s[k]'h∈s.data.toList:=by
 show s.data[k]'h∈_
 simp
theorem letter_at (s:ByteArray) (k c:Nat) (h:k<s.size) (hc:c=(s[k]'h).toNat) (hl:97≤c∧c≤122):letter (s.data.toList[k]'(by simpa using h))=true:=by
 have e:(s.data.toList[k]'(by simpa using h))=s[k]'h:=by simp;rfl
 rw [e]
 simp [letter]
 omega
def iterAtPos (w:World) (b:Nat):Nat:=match w.heap[b]? with | some (.stringIter _ p)=>p | _=>0
theorem iterAtPos_iter (w:World) (s:ByteArray) (k:Nat):iterAtPos (w.iter s k) w.heap.size=k:=by
 unfold iterAtPos;rw [World.iter_heap]
theorem Kp.iter {a w:World} (h:Kp a w) (s:ByteArray) (k:Nat):Kp a (w.iter s k):=Kp.alloc h _
theorem text_Key (s:ByteArray) (w:World) (hs:s.size≤9223372036854775807) :
  Calls Tryz.prog 222 #[.string s] w fun e w'=>e=.returned (.int .i64 (keyErr s))∧Kp w w':=by
 by_cases hz:1≤s.size∧s.size≤8
 ·obtain ⟨hz1,hz8⟩:=hz
  have HK:=Lib.hid (show s.data.toList.all letter=true→keyErr s=0 from fun h=>by unfold keyErr;rw [if_pos ⟨hz1,hz8,h⟩])
  have HN:=Lib.hid (show s.data.toList.all letter=false→keyErr s=10 from fun h=>by unfold keyErr;rw [if_neg (fun k=>by rw [h] at k;exact absurd k.2.2 (by decide))])
  go_enter Tryz.func222,Tryz.ntmps222
  go_wp2_with fail
  go_loopw [4] (fun _ wr=>∃ k:Nat,k≤s.size∧wr=w.iter s k∧RowKit.Hid ((s.data.toList.take k).all letter=true)) (fun _ wr=>s.size - iterAtPos wr w.heap.size)
  case atStart=>exact ⟨0,Nat.zero_le _,rfl,Lib.hid (by simp)⟩
  case round =>
   obtain ⟨k,hk,rfl,H⟩:=hrel
   by_cases hlt:k<s.size
   ·by_cases ha:(s[k]'hlt).toNat<128
    ·have hn:=fun ty=>run_next_ascii (P:=Tryz.prog) w s k ty hlt ha
     obtain ⟨c,hc⟩:∃ c:Nat,c=(s[k]'hlt).toNat:=⟨_,rfl⟩
     rw [← hc] at ha hn
     have HC:=Lib.hid hc
     clear hc
     by_cases hl:97≤c∧c≤122
     ·obtain ⟨h1,h2⟩:=hl
      go_wp2_with fail
      go_roundw
      case rel=>exact ⟨k+1,by omega,rfl,Lib.hid (all_take_succ _ _ (by simpa using hlt) _ H.out (letter_at s k c hlt HC.out ⟨h1,h2⟩))⟩
      case measure=>rw [iterAtPos_iter,iterAtPos_iter];omega
     ·have hl':c<97∨122<c:=by omega
      clear hl
      have e:keyErr s=10:=HN.out (by
       cases e:s.data.toList.all letter with
       | false=>rfl
       | true =>
        have:=List.all_eq_true.1 e (s[k]'hlt) (mem_byte s k hlt)
        have:=HC.out
        simp [letter] at *;omega)
      have E:=Lib.hid e
      clear e
      rcases hl' with hl' | hl'
      all_goals
       go_wp2_with fail
       go_returns
       rw [E.out]
       exact ⟨rfl,by (repeat' (first | (with_reducible exact Kp.refl _) | (with_reducible refine Kp.iter ?_ _ _)))⟩
    ·have hn:=fun ty=>run_next_any (P:=Tryz.prog) w s k ty hlt
     have hd:=decode_high s k hlt rM
     obtain ⟨d,hd'⟩:∃ d,d=Utf8.decode s k:=⟨_,rfl⟩
     rw [← hd'] at hd hn
     have e:keyErr s=10:=HN.out (by
      cases e:s.data.toList.all letter with
      | false=>rfl
      | true =>
       have:=List.all_eq_true.1 e (s[k]'hlt) (mem_byte s k hlt)
       simp [letter] at *;omega)
     have E:=Lib.hid e
     clear e hd' ha
     go_wp2_with fail
     all_goals
      go_returns
      rw [E.out]
      exact ⟨rfl,by (repeat' (first | (with_reducible exact Kp.refl _) | (with_reducible refine Kp.iter ?_ _ _)))⟩
   ·have hn:=fun ty=>run_next_end (P:=Tryz.prog) w s k ty hlt
    have E:=Lib.hid (HK.out (by have:=H.out;rwa [List.take_of_length_le (by simp;omega)] at this))
    go_wp2_with fail
    go_returns
    rw [E.out]
    exact ⟨rfl,by (repeat' (first | (with_reducible exact Kp.refl _) | (with_reducible refine Kp.iter ?_ _ _)))⟩
 ·have e:keyErr s=10:=by unfold keyErr;rw [if_neg (fun h=>hz ⟨h.1,h.2.1⟩)]
  rw [e]
  have hz':s.size<1∨8<s.size:=by omega
  clear hz e
  rcases hz' with hz | hz
  all_goals
   go_enter Tryz.func222,Tryz.ntmps222
   go_wp2_with fail
   go_returns
   exact ⟨rfl,by (repeat' (first | (with_reducible exact Kp.refl _) | (with_reducible assumption) | (with_reducible refine Kp.alloc ?_ _) | (with_reducible refine Kp.ext ?_ _) | (with_reducible refine Kp.put ?_ _ _ _ ?_) | (with_reducible refine Kp.drew ?_) | (with_reducible refine Kp.drewN ?_ _) | (with_reducible refine Kp.setCell ?_ ?_ _) | (with_reducible refine Kp.trans ?_ (by assumption)) | (with_reducible exact Nat.le_refl _) | omega | (simp only [World.size_alloc,World.size_setCell,World.size_drew,size_drewN];omega) | (simp;omega) | (simp;done)))⟩
theorem labelErr_0:labelErr 0=0:=rfl
theorem labelErr_1:labelErr 1=0:=rfl
theorem labelErr_no (n:Int) (h:n<0∨2≤n):labelErr n=11:=by unfold labelErr;rw [if_neg rM]
theorem valueErr_ok (s:ByteArray) (h:1≤s.size) (h':s.size≤12):valueErr s=0:=by unfold valueErr;rw [if_pos ⟨h,h'⟩]
theorem valueErr_no (s:ByteArray) (h:s.size<1∨12<s.size):valueErr s=12:=by unfold valueErr;rw [if_neg rM]
theorem text_Label (n:Int) (w:World) :
  Calls Tryz.prog 223 #[.int .i64 n] w fun e w'=>e=.returned (.int .i64 (labelErr n))∧Kp w w':=by
 have hn:n=0∨n=1∨n<0∨2≤n:=by omega
 rcases hn with rfl | rfl | h | h
 ·rw [labelErr_0]
  (go_enter Tryz.func223,Tryz.ntmps223;go_wp2_with fail;go_returns;exact ⟨rfl,by (repeat' (first | (with_reducible exact Kp.refl _) | (with_reducible assumption) | (with_reducible refine Kp.alloc ?_ _) | (with_reducible refine Kp.ext ?_ _) | (with_reducible refine Kp.put ?_ _ _ _ ?_) | (with_reducible refine Kp.drew ?_) | (with_reducible refine Kp.drewN ?_ _) | (with_reducible refine Kp.setCell ?_ ?_ _) | (with_reducible refine Kp.trans ?_ (by assumption)) | (with_reducible exact Nat.le_refl _) | omega | (simp only [World.size_alloc,World.size_setCell,World.size_drew,size_drewN];omega) | (simp;omega) | (simp;done)))⟩)
 ·rw [labelErr_1]
  (go_enter Tryz.func223,Tryz.ntmps223;go_wp2_with fail;go_returns;exact ⟨rfl,by (repeat' (first | (with_reducible exact Kp.refl _) | (with_reducible assumption) | (with_reducible refine Kp.alloc ?_ _) | (with_reducible refine Kp.ext ?_ _) | (with_reducible refine Kp.put ?_ _ _ _ ?_) | (with_reducible refine Kp.drew ?_) | (with_reducible refine Kp.drewN ?_ _) | (with_reducible refine Kp.setCell ?_ ?_ _) | (with_reducible refine Kp.trans ?_ (by assumption)) | (with_reducible exact Nat.le_refl _) | omega | (simp only [World.size_alloc,World.size_setCell,World.size_drew,size_drewN];omega) | (simp;omega) | (simp;done)))⟩)
 ·rw [labelErr_no n (.inl h)]
  have h1:(n == 0)=false:=by simp;omega
  have h2:(n == 1)=false:=by simp;omega
  (go_enter Tryz.func223,Tryz.ntmps223;go_wp2_with fail;go_returns;exact ⟨rfl,by (repeat' (first | (with_reducible exact Kp.refl _) | (with_reducible assumption) | (with_reducible refine Kp.alloc ?_ _) | (with_reducible refine Kp.ext ?_ _) | (with_reducible refine Kp.put ?_ _ _ _ ?_) | (with_reducible refine Kp.drew ?_) | (with_reducible refine Kp.drewN ?_ _) | (with_reducible refine Kp.setCell ?_ ?_ _) | (with_reducible refine Kp.trans ?_ (by assumption)) | (with_reducible exact Nat.le_refl _) | omega | (simp only [World.size_alloc,World.size_setCell,World.size_drew,size_drewN];omega) | (simp;omega) | (simp;done)))⟩)
 ·rw [labelErr_no n (.inr h)]
  have h1:(n == 0)=false:=by simp;omega
  have h2:(n == 1)=false:=by simp;omega
  (go_enter Tryz.func223,Tryz.ntmps223;go_wp2_with fail;go_returns;exact ⟨rfl,by (repeat' (first | (with_reducible exact Kp.refl _) | (with_reducible assumption) | (with_reducible refine Kp.alloc ?_ _) | (with_reducible refine Kp.ext ?_ _) | (with_reducible refine Kp.put ?_ _ _ _ ?_) | (with_reducible refine Kp.drew ?_) | (with_reducible refine Kp.drewN ?_ _) | (with_reducible refine Kp.setCell ?_ ?_ _) | (with_reducible refine Kp.trans ?_ (by assumption)) | (with_reducible exact Nat.le_refl _) | omega | (simp only [World.size_alloc,World.size_setCell,World.size_drew,size_drewN];omega) | (simp;omega) | (simp;done)))⟩)
theorem text_Value (s:ByteArray) (w:World) (hs:s.size≤9223372036854775807) :
  Calls Tryz.prog 224 #[.string s] w fun e w'=>e=.returned (.int .i64 (valueErr s))∧Kp w w':=by
 have hn:(1≤s.size∧s.size≤12)∨s.size<1∨12<s.size:=by omega
 rcases hn with ⟨h1,h2⟩ | h | h
 ·rw [valueErr_ok s h1 h2]
  (go_enter Tryz.func224,Tryz.ntmps224;go_wp2_with fail;go_returns;exact ⟨rfl,by (repeat' (first | (with_reducible exact Kp.refl _) | (with_reducible assumption) | (with_reducible refine Kp.alloc ?_ _) | (with_reducible refine Kp.ext ?_ _) | (with_reducible refine Kp.put ?_ _ _ _ ?_) | (with_reducible refine Kp.drew ?_) | (with_reducible refine Kp.drewN ?_ _) | (with_reducible refine Kp.setCell ?_ ?_ _) | (with_reducible refine Kp.trans ?_ (by assumption)) | (with_reducible exact Nat.le_refl _) | omega | (simp only [World.size_alloc,World.size_setCell,World.size_drew,size_drewN];omega) | (simp;omega) | (simp;done)))⟩)
 ·rw [valueErr_no s (.inl h)]
  (go_enter Tryz.func224,Tryz.ntmps224;go_wp2_with fail;go_returns;exact ⟨rfl,by (repeat' (first | (with_reducible exact Kp.refl _) | (with_reducible assumption) | (with_reducible refine Kp.alloc ?_ _) | (with_reducible refine Kp.ext ?_ _) | (with_reducible refine Kp.put ?_ _ _ _ ?_) | (with_reducible refine Kp.drew ?_) | (with_reducible refine Kp.drewN ?_ _) | (with_reducible refine Kp.setCell ?_ ?_ _) | (with_reducible refine Kp.trans ?_ (by assumption)) | (with_reducible exact Nat.le_refl _) | omega | (simp only [World.size_alloc,World.size_setCell,World.size_drew,size_drewN];omega) | (simp;omega) | (simp;done)))⟩)
 ·rw [valueErr_no s (.inr h)]
  (go_enter Tryz.func224,Tryz.ntmps224;go_wp2_with fail;go_returns;exact ⟨rfl,by (repeat' (first | (with_reducible exact Kp.refl _) | (with_reducible assumption) | (with_reducible refine Kp.alloc ?_ _) | (with_reducible refine Kp.ext ?_ _) | (with_reducible refine Kp.put ?_ _ _ _ ?_) | (with_reducible refine Kp.drew ?_) | (with_reducible refine Kp.drewN ?_ _) | (with_reducible refine Kp.setCell ?_ ?_ _) | (with_reducible refine Kp.trans ?_ (by assumption)) | (with_reducible exact Nat.le_refl _) | omega | (simp only [World.size_alloc,World.size_setCell,World.size_drew,size_drewN];omega) | (simp;omega) | (simp;done)))⟩)
end
section
def keyE (l:List UInt8):Int:=if 1≤l.length∧l.length≤8∧l.all letter=true then 0 else 10
def labelE (n:Int):Int:=if 0≤n∧n<2 then 0 else 11
def valueE (l:List UInt8):Int:=if 1≤l.length∧l.length≤12 then 0 else 12
def Ed.err (e:Ed):Int :=
 if e.kind<1∨5<e.kind then 1 else if keyE e.key≠0 then keyE e.key
 else if e.kind=1∨e.kind=2 then (if e.label≠0 then 11 else if e.value≠[] then 12 else 0)
 else if labelE e.label≠0 then labelE e.label else valueE e.value
theorem keyErr_S (l:List UInt8):keyErr (S l)=keyE l:=by simp [keyErr,keyE,S_size]
theorem valueErr_S (l:List UInt8):valueErr (S l)=valueE l:=by simp [valueErr,valueE,S_size]
theorem key_fnE (s:List UInt8) (L:List Assn) (hs:s.length≤9223372036854775807):Fn Tryz.prog 222 #[.string (S s)] L fun v L'=>v=.int .i64 (keyE s)∧L'=L:=by
 rw [← keyErr_S];exact Fn.of_kp fun w=>text_Key _ w (by rw [S_size];exact hs)
theorem label_fnE (n:Int) (L:List Assn):Fn Tryz.prog 223 #[.int .i64 n] L fun v L'=>v=.int .i64 (labelE n)∧L'=L:=Fn.of_kp fun w=>text_Label n w
theorem value_fnE (s:List UInt8) (L:List Assn) (hs:s.length≤9223372036854775807):Fn Tryz.prog 224 #[.string (S s)] L fun v L'=>v=.int .i64 (valueE s)∧L'=L:=by
 rw [← valueErr_S];exact Fn.of_kp fun w=>text_Value _ w (by rw [S_size];exact hs)
set_option maxRecDepth 20000 attribute [local irreducible] Ex ExL Fn thn inb rnd fin meet Tab Mix mxEnd Val Sats RdT Rd RowT Row Blk Sub Fac ResV RVal Evs subs subs3 Hid Capd
section
theorem textEdit_fn (e:Ed) (L:List Assn) (hk:e.key.length≤9223372036854775807) (hv:e.value.length≤9223372036854775807):Fn Tryz.prog 163 #[.agg (Rep.cells e).toArray] L fun v L'=>v=.int .i64 e.err∧L'=L:=by
 have h10:keyE e.key=0∨keyE e.key=10:=by unfold keyE;split <;> simp
 have h11:labelE e.label=0∨labelE e.label=11:=by unfold labelE;split <;> simp
 refine Fn.of_ex Tryz.func163 rfl Tryz.ntmps163 rfl ?_
 (repeat' (first | (refine r1 ?_;intros) | (refine Ex.cond_d rJ (fun h=>?_) (fun h=>?_) <;> try (exfalso;omega)) | (apply exlGuard;refine ExL.gsplit rJ rJ rJ (fun h=>?_) (fun h=>?_) <;> try (exfalso;omega))))
 ·(refine fr ?_)
  exact ⟨_,rB,vint (by unfold Ed.err;rw [if_pos rM]),rfl⟩
 ·(refine fr ?_)
  exact ⟨_,rB,vint (by unfold Ed.err;rw [if_pos rM]),rfl⟩
 (refine st_callIs [] rJ Tryz.call222 rJ rJ (key_fnE _ _ hk) ?_;rintro _ _ ⟨rfl,rfl⟩)
 (repeat' (first | (refine r1 ?_;intros) | (refine Ex.cond_d rJ (fun h=>?_) (fun h=>?_) <;> try (exfalso;omega)) | (apply exlGuard;refine ExL.gsplit rJ rJ rJ (fun h=>?_) (fun h=>?_) <;> try (exfalso;omega))))
 all_goals first
  | ((refine st_callIs [] rJ Tryz.call223 rJ rJ (label_fnE _ _) ?_;rintro _ _ ⟨rfl,rfl⟩);(repeat' (first | (refine r1 ?_;intros) | (refine Ex.cond_d rJ (fun h=>?_) (fun h=>?_) <;> try (exfalso;omega)) | (apply exlGuard;refine ExL.gsplit rJ rJ rJ (fun h=>?_) (fun h=>?_) <;> try (exfalso;omega)))))
  | skip
 all_goals first
  | ((refine st_callIs [] rJ Tryz.call224 rJ rJ (value_fnE _ _ hv) ?_;rintro _ _ ⟨rfl,rfl⟩);(refine rn ?_;intros))
  | skip
 all_goals
  (refine fr ?_)
  refine ⟨_,rB,vint ?_,rfl⟩
  unfold Ed.err
  repeat (first | rw [if_pos (by first | omega | assumption)] | rw [if_neg (by first | omega | assumption)])
end
section
theorem fit_spec (e:Ed) (L:List Assn) (hk:e.key.length≤140737488355328) (hv:e.value.length≤140737488355328):Fn Tryz.prog 26 #[e.val] L fun v L'=>v=e.fit.val∧L'=L:=by
 obtain ⟨kind,key,label,value⟩:=e
 have ht:=tmod5 kind
 simp only [Ed.val,Ed.cells] at *
 refine Fn.of_ex Tryz.func26 rfl Tryz.ntmps26 rfl ?_
 (refine rn ?_;intros)
 refine Ex.loopS [5,6] (fun m vs=>∃ k:Nat,k≤key.length∧m=key.length - k∧vs=[.int .i64 (sumB (key.take k)),.int .i64 k]) key.length ?_ ?_
 ·exact ⟨0,by omega,by omega,rfl⟩
 rintro m vs g1 ⟨k,hk,rfl,rfl⟩
 have hb:=sumB_bd (key.take k)
 simp only [List.length_take] at hb
 by_cases hlt:k<key.length
 ·have:=key[k].toNat_lt
  (refine rn ?_;intros)
  exact rnd_n ⟨key.length - (k+1),_,by omega,Sub.refl _,⟨k+1,by omega,rfl,lcons (vint (sumB_succ key k hlt).symm) (lcons (vint rM) rfl)⟩,rfl⟩
 (refine rn ?_;intros)
 obtain rfl:k=key.length:=by omega
 rw [List.take_length] at *
 refine Ex.loopS [7,8] (fun m vs=>∃ k:Nat,k≤value.length∧m=value.length - k∧vs=[.int .i64 (sumB (value.take k)),.int .i64 k]) value.length ?_ ?_
 ·exact ⟨0,by omega,by omega,rfl⟩
 rintro m vs g1 ⟨k,hk,rfl,rfl⟩
 have hb2:=sumB_bd (value.take k)
 simp only [List.length_take] at hb2
 by_cases hlt:k<value.length
 ·have:=value[k].toNat_lt
  (refine rn ?_;intros)
  exact rnd_n ⟨value.length - (k+1),_,by omega,Sub.refl _,⟨k+1,by omega,rfl,lcons (vint (sumB_succ value k hlt).symm) (lcons (vint rM) rfl)⟩,rfl⟩
 (refine rn ?_;intros)
 obtain rfl:k=value.length:=by omega
 rw [List.take_length] at *
 have hm3:sumB key % 3=0∨sumB key % 3=1∨sumB key % 3=2:=by omega
 have hm4:sumB value % 4=0∨sumB value % 4=1∨sumB value % 4=2∨sumB value % 4=3:=by omega
 have hk2:2<1+(kind.tmod 5+5) % 5∨¬ 2<1+(kind.tmod 5+5) % 5:=by omega
 rcases hm3 with hm3 | hm3 | hm3
 all_goals
  (refine mu12 ?_;intros)
  (repeat' (first | (refine r1 ?_;intros) | (refine Ex.cond_d rJ (fun h=>?_) (fun h=>?_) <;> try (exfalso;omega)) | (apply exlGuard;refine ExL.gsplit rJ rJ rJ (fun h=>?_) (fun h=>?_) <;> try (exfalso;omega))))
 all_goals by_cases hq:2<1+(kind.tmod 5+5) % 5
 all_goals first | (exfalso;omega) | skip
 all_goals first | ((refine fr ?_);exact ⟨_,rB,by simp only [Ed.fit,Ed.val,Ed.cells,hm3,if_neg hq];rfl,rfl⟩) | skip
 all_goals
  rcases hm4 with hm4 | hm4 | hm4 | hm4 <;> rw [hm4]
  all_goals
   (refine rn ?_;intros)
   skip
   (refine fr ?_)
   exact ⟨_,rB,by simp only [Ed.fit,Ed.val,Ed.cells,hm3,hm4,if_pos hq,ExtLaws.i64_and1];rfl,rfl⟩
end
end
section
theorem fit_key (e:Ed):e.fit.key=[97,110,110]∨e.fit.key=[98,111,98]∨e.fit.key=[99,121]:=by
 show fitKey _=_∨fitKey _=_∨fitKey _=_
 unfold fitKey
 split
 ·simp
 ·split <;> simp
theorem fit_value (e:Ed):e.fit.value=[]∨e.fit.value=[49]∨e.fit.value=[116,119,111]∨e.fit.value=[0,255]∨e.fit.value=[116,119,101,108,118,101,32,98,121,116,101,115]:=by
 simp only [Ed.fit]
 split
 ·unfold fitValue
  split
  ·simp
  ·split
   ·simp
   ·split <;> simp
 ·simp
theorem fit_err (e:Ed):e.fit.err=0:=by
 have hk:=fit_key e
 have hke:keyE e.fit.key=0:=by rcases hk with h | h | h <;> rw [h] <;> decide
 have h1:=tmod5 e.kind
 have h2:0≤(e.kind.tmod 5+5) % 5∧(e.kind.tmod 5+5) % 5<5:=by omega
 have hkd:e.fit.kind=1+(e.kind.tmod 5+5) % 5:=rfl
 unfold Ed.err
 rw [if_neg rM,hke,if_neg rM]
 by_cases h3:2<1+(e.kind.tmod 5+5) % 5
 ·rw [if_neg rM]
  have hl:e.fit.label=e.label % 2:=by simp only [Ed.fit];rw [if_pos h3]
  have hv:e.fit.value=fitValue (sumB e.value % 4):=by simp only [Ed.fit];rw [if_pos h3]
  have hle:labelE e.fit.label=0:=by rw [hl];unfold labelE;rw [if_pos rM]
  rw [hle,if_neg rM,hv]
  unfold fitValue
  split
  ·decide
  ·split
   ·decide
   ·split <;> decide
 ·rw [if_pos rM]
  have hl:e.fit.label=0:=by simp only [Ed.fit];rw [if_neg h3]
  have hv:e.fit.value=[]:=by simp only [Ed.fit];rw [if_neg h3]
  rw [hl,if_neg rM,hv,if_neg (by simp)]
end
section
structure Ch where
 r:Int
 from_:Int
 sync:Bool
 ed:Ed
instance:Rep Ch:=⟨7,fun c=>[.int .u8 c.r,.int .u8 c.from_,.bool c.sync,.int .i64 c.ed.kind,.string (S c.ed.key),.int .i64 c.ed.label,.string (S c.ed.value)],by decide,fun _=>rfl,fun _=>rfl⟩
structure Ch.Ok (c:Ch):Prop where
 r:0≤c.r∧c.r≤255
 f:0≤c.from_∧c.from_≤255
 k:c.ed.key.length≤140737488355328
 v:c.ed.value.length≤140737488355328
def heightS (c:Clk) (s:Int×Bool) (e:Ev):Int×Bool:=if c.has e.r e.n=true∧(s.2=false∨s.1<e.h) then (e.h,true) else s
def heightP (out:List Ev) (c:Clk):Int:=(out.foldl (heightS c) (0,false)).1+1
structure MkOk (m:Int) (s:List Ev×List Clk):Prop where
 five:s.2.length=5
 clk:∀ c∈s.2,∀ j,0≤c.get j∧c.get j≤m
 len:(s.1.length:Int)≤m
 n:∀ e∈s.1,1≤e.n∧e.n≤m
 r:∀ e∈s.1,0≤e.r∧e.r<5
 h:∀ e∈s.1,1≤e.h∧e.h≤m
theorem height_bd {out:List Ev} {c:Clk} {m:Int} (h:∀ e∈out,1≤e.h∧e.h≤m) (hm:0≤m):0≤(out.foldl (heightS c) (0,false)).1∧(out.foldl (heightS c) (0,false)).1≤m:=by
 have key:∀ (l:List Ev) (s:Int×Bool),(∀ e∈l,1≤e.h∧e.h≤m)→0≤s.1∧s.1≤m→0≤(l.foldl (heightS c) s).1∧(l.foldl (heightS c) s).1≤m:=by
  intro l
  induction l with
  | nil=>intro s _ h;exact h
  | cons a l ih =>
   intro s hl hs
   refine ih _ (fun e he=>hl e (List.mem_cons_of_mem _ he)) ?_
   have:=hl a (List.mem_cons_self ..)
   unfold heightS
   split
   ·exact ⟨by show 0≤a.h;omega,this.2⟩
   ·exact hs
 exact key out (0,false) h ⟨Int.le_refl _,hm⟩
end
section
def marks (l:List Ev):List Mk:=l.map Ev.mk_
theorem zero_get (i:Nat):Clk.zero.get i=0:=by
 match i with
 | 0=>rfl
 | 1=>rfl
 | 2=>rfl
 | 3=>rfl
 | 4=>rfl
 | i+5=>simp [Clk.get]
structure Ev.May (e:Ev):Prop where
 r:0≤e.r∧e.r<5
 n:1≤e.n∧e.n≤1048576
 h:1≤e.h∧e.h≤16777216
 c:∀ i,i<5→0≤e.c.get i∧e.c.get i≤1048576
 own:e.c.get e.r.toNat=e.n - 1
 ed:e.ed.err=0
def HighIs (l:List Ev) (c:Clk) (h:Int):Prop:=(∀ a∈l,c.has a.r a.n=true→a.h<h)∧((h=1∧∀ a∈l,c.has a.r a.n=false)∨∃ a∈l,c.has a.r a.n=true∧a.h+1=h)
structure RightQ (l:List Ev):Prop where
 may:∀ e∈l,e.May
 dst:Dst l
 all:∀ e∈l,∀ r n,e.c.has r n=true→∃ a∈l,a.mk_=⟨r,n⟩∧a.c.le e.c=true
 high:∀ e∈l,HighIs l e.c e.h
def OrdQ (l:List Ev):Prop:=∀ l1 e l2,l=l1++e::l2→∀ r n,e.c.has r n=true→(⟨r,n⟩:Mk)∈marks l1
structure Dlv (w log:List Ev):Prop where
 sub:∀ e∈log,e∈w
 dst:Dst log
 ord:OrdQ log
end
section
section
variable {P:Program} {f:Nat→Value} {L:List Assn} {d:Nat} {ty:TypeId} {pos:String} {af:Array Edge} {gd:Option (Nat×Bool)}
theorem extract_toArray (cs:List Value) (o m:Nat):cs.toArray.extract o (o+m)=((cs.drop o).take m).toArray:=by
 simp [List.take_drop]
theorem vl_fieldV {s:TypeId} {x:Operand} {fi m:Nat} {fs:Array Field} {fd:Field} {cs ws:List Value} (hx:evalF f x=.agg cs.toArray) (hu:P.underlying s=some (.struct fs)) (hf:fs[fi]?=some fd) (hA:aggB P fd.type=some true) (hm:P.cellsOf fd.type=m)
  (hp:Nat.blt 0 m=true) (hl:seqL ((cs.drop fd.offset).take m)=some ws):Val P ⟨some d,.field s x fi,ty,pos,af,gd⟩ f L (.agg ws.toArray):=fun F w h=>by
 rw [← seqL_eq hl,← extract_toArray]
 simp [execOp,hx,Instr.field,run_underlying hu,hf,asAgg,part,run_isAgg w hA,run_sizeOf' w hm (Nat.le_of_ble_eq_true hp)]
theorem vl_field1V {s:TypeId} {x:Operand} {fi:Nat} {fs:Array Field} {fd:Field} {cs:List Value} {v:Value} (hx:evalF f x=.agg cs.toArray) (hu:P.underlying s=some (.struct fs)) (hf:fs[fi]?=some fd) (hA:aggB P fd.type=some false)
  (hl:cs[fd.offset]?=some v):Val P ⟨some d,.field s x fi,ty,pos,af,gd⟩ f L v:=fun F w h=>by
 simp [execOp,hx,Instr.field,run_underlying hu,hf,asAgg,part,run_isAgg w hA,hl]
theorem vl_indexC {t e:TypeId} {x y:Operand} {k:IntKind} {j:Int} {a b c d' e':Int} (hx:evalF f x=.agg [.int .i64 a,.int .i64 b,.int .i64 c,.int .i64 d',.int .i64 e'].toArray) (hy:evalF f y=.int k j) (hu:P.underlying t=some (.array 5 e)) (hA:aggB P e=some false) (hs:P.cellsOf e=1) (h0:0≤j) (h1:j<5) :
  Val P ⟨some d,.index t x y,ty,pos,af,gd⟩ f L (.int .i64 ((⟨a,b,c,d',e'⟩:Clk).get j.toNat)):=fun F w h=>by
 obtain ⟨i,rfl⟩:=Int.eq_ofNat_of_zero_le h0
 have hi:i<5:=by omega
 have hl:[Value.int .i64 a,.int .i64 b,.int .i64 c,.int .i64 d',.int .i64 e'][i]?=some (.int .i64 ((⟨a,b,c,d',e'⟩:Clk).get i)):=by
  match i,hi with
  | 0,_=>rfl
  | 1,_=>rfl
  | 2,_=>rfl
  | 3,_=>rfl
  | 4,_=>rfl
 simp [execOp,hx,hy,Instr.index,run_underlying hu,asIntOf,part,run_isAgg w hA,run_sizeOf' w hs (Nat.succ_pos 0),hi]
 exact (List.getElem?_eq_some_iff.1 hl).2
end
end
section
theorem getD7 (k:Clk) (x y:Int) {i:Nat} (h:i<5):[k.a,k.b,k.c,k.d,k.e,x,y].getD i 0=k.get i:=by
 match i,h with
 | 0,_=>rfl
 | 1,_=>rfl
 | 2,_=>rfl
 | 3,_=>rfl
 | 4,_=>rfl
set_option maxRecDepth 20000 attribute [local irreducible] Ex ExL Fn thn inb rnd fin meet Tab Mix mxEnd Val Sats RdT Rd RowT Row Blk Sub Fac ResV RVal Evs subs subs3 Hid Capd
section
theorem within_F (n a b:Int) (M:List Assn):Fn Tryz.prog 274 #[.int .i64 n,.int .i64 a,.int .i64 b] M fun v L'=>v=.bool (decide (a≤n∧n≤b))∧L'=M:=by
 refine Fn.of_ex Tryz.func274 rfl Tryz.ntmps274 rfl ?_
 by_cases h1:a≤n
 ·by_cases h2:n≤b
  ·rw [decide_eq_true (⟨h1,h2⟩:a≤n∧n≤b)]
   exact re0
  ·rw [decide_eq_false (fun h:a≤n∧n≤b=>h2 h.2)]
   exact re0
 ·rw [decide_eq_false (fun h:a≤n∧n≤b=>h1 h.1)]
  exact re0
theorem below_F (a e:Ev) (M:List Assn):Fn Tryz.prog 308 #[.agg (Rep.cells a).toArray,.agg (Rep.cells e).toArray] M fun v L'=>v=.bool (e.c.has a.r a.n)∧L'=M:=by
 refine Fn.of_ex Tryz.func308 rfl Tryz.ntmps308 rfl ?_
 (refine rn ?_;intros)
 refine st_callIs [] rJ Tryz.call171 rJ rJ (has_F e.c a.r a.n _) ?_
 rintro _ _ ⟨rfl,rfl⟩
 exact re0
theorem evMay_F (e:Ev) (M:List Assn) (hk:e.ed.key.length≤9223372036854775807) (hv:e.ed.value.length≤9223372036854775807):Fn Tryz.prog 236 #[.agg (Rep.cells e).toArray] M fun v L'=>(∃ x:Int,(x=0↔e.May)∧v=.int .i64 x)∧L'=M:=by
 have hno:¬ e.May→∃ x:Int,(x=0↔e.May)∧Value.int .i64 1=.int .i64 x:=fun h=>⟨1,⟨fun x=>absurd x (by decide),fun k=>(h k).elim⟩,rfl⟩
 refine Fn.of_ex Tryz.func236 rfl Tryz.ntmps236 rfl ?_
 (refine rn ?_;(repeat (first | intro (g:Nat) | intro h)))
 refine st_callIs [] rJ Tryz.call274 rJ rJ (within_F e.r 0 4 _) ?_
 rintro _ _ ⟨rfl,rfl⟩
 by_cases hr:0≤e.r∧e.r≤4
 ·rw [decide_eq_true hr]
  (refine rn ?_;(repeat (first | intro (g:Nat) | intro h)))
  refine st_callIs [] rJ Tryz.call274 rJ rJ (within_F e.n 1 1048576 _) ?_
  rintro _ _ ⟨rfl,rfl⟩
  by_cases hn:1≤e.n∧e.n≤1048576
  ·rw [decide_eq_true hn]
   (refine rn ?_;(repeat (first | intro (g:Nat) | intro h)))
   refine st_callIs [] rJ Tryz.call274 rJ rJ (within_F e.h 1 16777216 _) ?_
   rintro _ _ ⟨rfl,rfl⟩
   by_cases hh:1≤e.h∧e.h≤16777216
   ·rw [decide_eq_true hh]
    (refine rn ?_;(repeat (first | intro (g:Nat) | intro h)))
    revert g
    intro g1
    refine Ex.loopS [23] (fun m vs=>∃ (i:Nat),i≤5∧m=5 - i∧vs=[.int .i64 i]∧∀ j,j<i→0≤e.c.get j∧e.c.get j≤1048576) 5 ⟨0,by omega,by omega,rfl,fun j hj=>by omega⟩ ?_
    rintro m vs g2 ⟨i,hi,rfl,rfl,hall⟩
    refine Ex.keep [1,22,23] rG (fun gk=>?_)
    by_cases hlt:i<5
    ·have hno2:¬ (0≤e.c.get i∧e.c.get i≤1048576)→¬ e.May:=fun h k=>h (k.c i hlt)
     (refine rn ?_;intros)
     refine ExL.val rJ rJ rJ (vl_indexC rJ rJ rJ rJ rJ rM rM) ?_
     rw [show (⟨e.c.a,e.c.b,e.c.c,e.c.d,e.c.e⟩:Clk).get (i:Int).toNat=e.c.get i from rfl]
     (refine rn ?_;intros)
     refine st_callIs [] rJ Tryz.call274 rJ rJ (within_F (e.c.get i) 0 1048576 _) ?_
     rintro _ _ ⟨rfl,rfl⟩
     by_cases hci:0≤e.c.get i∧e.c.get i≤1048576
     ·have hall2:∀ j,j<i+1→0≤e.c.get j∧e.c.get j≤1048576:=fun j hj=>by
       by_cases hji:j=i
       ·subst hji;exact hci
       ·exact hall j rM
      clear hall
      rw [decide_eq_true hci]
      (refine rn ?_;intros)
      exact rnd_n ⟨5 - (i+1),_,by omega,rB,⟨i+1,by omega,by omega,lcons (vint rM) rfl,hall2⟩,rfl⟩
     ·rw [decide_eq_false hci]
      clear hall
      (refine rn ?_;intros)
      (refine fr ?_)
      exact ⟨_,rB,hno (hno2 hci),rfl⟩
    ·have hr5:e.r.toNat<5:=by omega
     have e1:[e.c.a,e.c.b,e.c.c,e.c.d,e.c.e,e.h,e.ed.kind].getD e.r.toNat 0=e.c.get e.r.toNat:=getD7 e.c _ _ hr5
     by_cases ho:e.c.get e.r.toNat=e.n - 1
     ·(refine rn ?_;intros)
      (refine mu9 ?_;intros)
      (refine rn ?_;intros)
      refine st_callIs [] rJ Tryz.call163 rJ rJ (textEdit_fn e.ed _ hk hv) ?_
      rintro _ _ ⟨rfl,rfl⟩
      (refine rn ?_;intros)
      (refine fr ?_)
      exact ⟨_,rB,⟨e.ed.err,⟨fun h=>⟨⟨hr.1,by omega⟩,hn,hh,fun j hj=>hall j rM,ho,h⟩,fun k=>k.ed⟩,rfl⟩,rfl⟩
     ·have hm:¬ e.May:=fun k=>ho k.own
      (refine rn ?_;intros)
      (refine mu9 ?_;intros)
      (refine rn ?_;intros)
      (refine fr ?_)
      exact ⟨_,rB,hno hm,rfl⟩
   ·rw [decide_eq_false hh]
    (refine rn ?_;intros)
    (refine fr ?_)
    exact ⟨_,rB,hno fun k=>hh k.h,rfl⟩
  ·rw [decide_eq_false hn]
   (refine rn ?_;intros)
   (refine fr ?_)
   exact ⟨_,rB,hno fun k=>hn k.n,rfl⟩
 ·rw [decide_eq_false hr]
  (refine rn ?_;intros)
  (refine fr ?_)
  exact ⟨_,rB,hno fun k=>hr ⟨k.r.1,by have:=k.r.2;omega⟩,rfl⟩
end
section
def sB (s:List UInt8):List UInt8:=UInt8.ofNat s.length::s
theorem eput1_F (n g0:Nat) (v0:Value) (l:List UInt8) (M:List Assn) (o0:v0.oneCell'=true) (hn:n<2 ^ 63) (hl:l.length≤1000000):Fn Tryz.prog 242 #[.int .i64 n,.pointer (some ⟨g0,0,none⟩)] (Bys v0 l::Blk g0 45 [v0]::M) fun _ L'=>∃ v,v.oneCell'=true∧L'=Bys v (l++vB n)::Blk g0 45 [v]::M:=by
 have hvl:=vB_len 9 n (by simpa using hn) rM
 refine Fn.of_ex Tryz.func242 rfl Tryz.ntmps242 rfl ?_
 (refine Ex.mixA 5 (Blk g0 45 [v0]::M) rfl rQ rF ?_;(refine mn ?_;(repeat (first | intro (v:Value) | intro h))))
 (refine mx_act rJ rJ rJ ?_;refine st_callIs [] rJ Tryz.call179 rE rJ (vput_F n _ hn) ?_)
 rintro v1 _ ⟨o1,rfl⟩
 (refine ExL.nil ?_;refine mxEnd_n rF ?_;(refine mn ?_;(repeat (first | intro (v:Value) | intro h))))
 (refine rn ?_;(repeat (first | intro (v:Value) | intro h)))
 (refine fr ?_)
 exact ⟨_,rB,v,by assumption,rfl⟩
theorem eput2_F (s:List UInt8) (g0:Nat) (v0:Value) (l:List UInt8) (M:List Assn) (o0:v0.oneCell'=true) (hs:s.length≤12) (hl:l.length≤1000000):Fn Tryz.prog 243 #[.string (S s),.pointer (some ⟨g0,0,none⟩)] (Bys v0 l::Blk g0 45 [v0]::M) fun _ L'=>∃ v,v.oneCell'=true∧L'=Bys v (l++sB s)::Blk g0 45 [v]::M:=by
 refine Fn.of_ex Tryz.func243 rfl Tryz.ntmps243 rfl ?_
 (refine rn ?_;(repeat (first | intro (v:Value) | intro (o:O1 _) | intro h)))
 refine st_appS 1 (s:=s) rJ rJ rJ rJ (by simp) rJ rJ rJ rJ rJ rJ (by simp;omega) (fun v o=>?_)
 (refine rn ?_;(repeat (first | intro (v:Value) | intro h)))
 (refine fr ?_)
 rw [show l++sB s=l++[UInt8.ofNat (s.length:Int).toNat]++s by simp [sB]]
 exact ⟨_,rB,v,by assumption,rfl⟩
theorem elong_F (k:Int) (M:List Assn):Fn Tryz.prog 244 #[.int .i64 k] M fun v L'=>v=.bool (decide (k≠1∧k≠2))∧L'=M:=by
 refine Fn.of_ex Tryz.func244 rfl Tryz.ntmps244 rfl ?_
 by_cases h1:k=1
 ·subst h1
  exact re0
 ·by_cases h2:k=2
  ·subst h2
   exact re0
  ·(refine rn ?_;intros)
   (refine fr ?_)
   exact ⟨_,rB,by rw [decide_eq_true ⟨h1,h2⟩],rfl⟩
def clkB (c:Clk) (r:Int) (m:Nat):List UInt8:=(List.range m).flatMap fun (i:Nat)=>if (i:Int)=r then [] else vB (c.get i).toNat
def edB (e:Ed):List UInt8:=sB e.key++if e.kind=1∨e.kind=2 then [] else UInt8.ofNat e.label.toNat::sB e.value
def Ev.bytes (e:Ev):List UInt8:=[UInt8.ofNat e.ed.kind.toNat,UInt8.ofNat e.r.toNat]++vB e.n.toNat++clkB e.c e.r 5++vB e.h.toNat++edB e.ed
theorem clkB_succ (c:Clk) (r:Int) (m:Nat):clkB c r (m+1)=clkB c r m++if (m:Int)=r then [] else vB (c.get m).toNat:=by
 unfold clkB
 rw [List.range_succ,List.flatMap_append]
 simp
theorem vB_len3 {n:Nat} (h:n≤16777216):(vB n).length≤4:=vB_len 4 n (by simp;omega) rM
theorem clkB_len (c:Clk) (r:Int) (hc:∀ i,i<5→0≤c.get i∧c.get i≤1048576):∀ m,m≤5→(clkB c r m).length≤4 * m
 | 0,_=>by simp [clkB]
 | m+1,hm=>by
  have ih:=clkB_len c r hc m rM
  have hcm:=hc m rM
  have:=vB_len3 (n:=(c.get m).toNat) rM
  rw [clkB_succ,List.length_append]
  split
  ·simp;omega
  ·omega
end
section
theorem Ed.err_len {e:Ed} (h:e.err=0):(1≤e.kind∧e.kind≤5)∧(1≤e.key.length∧e.key.length≤8)∧(e.label=0∨e.label=1)∧e.value.length≤12∧(e.kind=1∨e.kind=2→e.label=0∧e.value=[])∧(¬ (e.kind=1∨e.kind=2)→1≤e.value.length):=by
 unfold Ed.err at h
 by_cases hk:e.kind<1∨5<e.kind
 ·rw [if_pos hk] at h;omega
 ·rw [if_neg hk] at h
  by_cases h2:keyE e.key≠0
  ·rw [if_pos h2] at h;exact absurd h h2
  ·rw [if_neg h2] at h
   have h2':1≤e.key.length∧e.key.length≤8:=by
    unfold keyE at h2
    split at h2
    ·rename_i hh;exact ⟨hh.1,hh.2.1⟩
    ·exact absurd (by decide) h2
   by_cases h3:e.kind=1∨e.kind=2
   ·rw [if_pos h3] at h
    by_cases h4:e.label≠0
    ·rw [if_pos h4] at h;omega
    ·rw [if_neg h4] at h
     by_cases h5:e.value≠[]
     ·rw [if_pos h5] at h;omega
     ·have h5':e.value=[]:=Classical.not_not.1 h5
      exact ⟨by omega,h2',.inl rM,by rw [h5'];simp,fun _=>⟨by omega,h5'⟩,fun k=>absurd h3 k⟩
   ·rw [if_neg h3] at h
    by_cases h4:labelE e.label≠0
    ·rw [if_pos h4] at h;exact absurd h h4
    ·rw [if_neg h4] at h
     have h5:1≤e.value.length∧e.value.length≤12:=by
      unfold valueE at h
      split at h
      ·assumption
      ·omega
     have h6:0≤e.label∧e.label<2:=by
      unfold labelE at h4
      split at h4
      ·assumption
      ·exact absurd (by decide) h4
     exact ⟨by omega,h2',by omega,h5.2,fun k=>absurd k h3,fun _=>h5.1⟩
theorem eput1_I (n:Int) (g0:Nat) (v0:Value) (l:List UInt8) (M:List Assn) (o0:v0.oneCell'=true) (hn:0≤n∧n≤16777216) (hl:l.length≤1000000):Fn Tryz.prog 242 #[.int .i64 n,.pointer (some ⟨g0,0,none⟩)] (Bys v0 l::Blk g0 45 [v0]::M) fun _ L'=>∃ v,v.oneCell'=true∧L'=Bys v (l++vB n.toNat)::Blk g0 45 [v]::M:=by
 obtain ⟨k,rfl⟩:=Int.eq_ofNat_of_zero_le hn.1
 rw [Int.toNat_natCast]
 exact eput1_F k g0 v0 l M o0 rM hl
theorem eput_F (e:Ev) (M:List Assn) (hk:e.ed.key.length≤9223372036854775807) (hv:e.ed.value.length≤9223372036854775807):Fn Tryz.prog 178 #[.agg (Rep.cells e).toArray] M fun r L'=>(¬ e.May∧(∃ x:Int,x≠0∧r=.tuple #[.slice none 0 0,.int .i64 x])∧L'=M)∨(e.May∧∃ v,v.oneCell'=true∧r=.tuple #[v,.int .i64 0]∧L'=Bys v e.bytes::M):=by
 refine Fn.of_ex Tryz.func178 rfl Tryz.ntmps178 rfl ?_
 (refine rn ?_;(repeat (first | intro (g:Nat) | intro (v:Value) | intro (o:O1 _) | intro (cs:List Value) | intro (hcs:_=List.set _ _ _) | intro (zs:List _) | intro h)))
 refine st_callIs [] rJ Tryz.call236 rJ rJ (evMay_F e _ hk hv) ?_
 rintro _ _ ⟨⟨x,hx,rfl⟩,rfl⟩
 by_cases hm:e.May
 ·have hx0:=hx.2 hm
  subst hx0
  have hl:=Ed.err_len hm.ed
  have hr:=hm.r
  have hn:=hm.n
  have hh:=hm.h
  (refine rn ?_;(repeat (first | intro (g:Nat) | intro (v:Value) | intro (o:O1 _) | intro (cs:List Value) | intro (hcs:_=List.set _ _ _) | intro (zs:List _) | intro h)))
  rename_i gE gR
  revert g
  intro gL
  refine st_callC [1] (xs:=[.tmp 26]) (fs:=[]) (us:=[.pointer (some ⟨gL,0,none⟩)]) (vs:=[.int .i64 e.n]) rJ rJ Tryz.call242 rE rJ (eput1_I e.n gL _ _ _ rfl rM (by simp)) ?_
  rintro _ _ ⟨v1,o1,rfl⟩
  have hn3:=vB_len3 (n:=e.n.toNat) rM
  generalize hP:[UInt8.ofNat e.ed.kind.toNat,UInt8.ofNat e.r.toNat]++vB e.n.toNat=P1
  have hPl:P1.length≤6:=by rw [← hP];simp;omega
  (refine rn ?_;(repeat (first | intro (v:Value) | intro (o:O1 _) | intro (hcs:_=List.set _ _ _) | intro h)))
  refine Ex.loop [30] (fun q vs L'=>∃ (i:Nat) (v:Value),i≤5∧q=5 - i∧v.oneCell'=true∧vs=[.int .i64 i]∧L'=Bys v (P1++clkB e.c e.r i)::Blk gL 45 [v]::Blk gE 80 (Rep.cells e)::M) 5 ⟨0,v1,by omega,rfl,o1,rfl,by simp [clkB];rfl⟩ ?_
  rintro q vs g1 L1 ⟨i,v2,hi,rfl,o2,rfl,rfl⟩
  refine Ex.keep [1,5,6,7,29,30] rG (fun gk=>?_)
  have hcl:=clkB_len e.c e.r hm.c i hi
  by_cases hlt:i<5
  ·have hci:=hm.c i hlt
   have hcs:=clkB_succ e.c e.r i
   have hc3:=vB_len3 (n:=(e.c.get i).toNat) rM
   (refine rn ?_;(repeat (first | intro (v:Value) | intro (o:O1 _) | intro (hcs:_=List.set _ _ _) | intro h)))
   refine ExL.val rJ rJ rJ (vl_indexC rJ rJ rJ rJ rJ rM rM) ?_
   rw [show (⟨e.c.a,e.c.b,e.c.c,e.c.d,e.c.e⟩:Clk).get (i:Int).toNat=e.c.get i from rfl]
   by_cases hir:(i:Int)=e.r
   ·rw [if_pos hir,List.append_nil] at hcs
    rw [← hcs]
    (refine rn ?_;(repeat (first | intro (v:Value) | intro (o:O1 _) | intro (hcs:_=List.set _ _ _) | intro h)))
    exact rnd_n ⟨5 - (i+1),_,by omega,rB,i+1,v2,by omega,rfl,o2,lcons (vint rM) rfl,rfl⟩
   ·rw [if_neg hir] at hcs
    (refine rn ?_;(repeat (first | intro (v:Value) | intro (o:O1 _) | intro (hcs:_=List.set _ _ _) | intro h)))
    refine st_callC [] (xs:=[.tmp 39]) (fs:=[]) (us:=[.pointer (some ⟨gL,0,none⟩)]) (vs:=[.int .i64 (e.c.get i)]) rJ rJ Tryz.call242 rE rJ (eput1_I (e.c.get i) gL _ _ _ o2 rM (by rw [List.length_append];omega)) ?_
    rintro _ _ ⟨v3,o3,rfl⟩
    rw [List.append_assoc,← hcs]
    (refine rn ?_;(repeat (first | intro (v:Value) | intro (o:O1 _) | intro h)))
    exact rnd_n ⟨5 - (i+1),_,by omega,rB,i+1,v3,by omega,rfl,o3,lcons (vint rM) rfl,rfl⟩
  ·have h5:i=5:=by omega
   subst h5
   have hh4:=vB_len3 (n:=e.h.toNat) rM
   (refine rn ?_;(repeat (first | intro (v:Value) | intro (o:O1 _) | intro h)))
   refine st_callC [] (xs:=[.tmp 44]) (fs:=[]) (us:=[.pointer (some ⟨gL,0,none⟩)]) (vs:=[.int .i64 e.h]) rJ rJ Tryz.call242 rE rJ (eput1_I e.h gL _ _ _ o2 rM (by rw [List.length_append];omega)) ?_
   rintro _ _ ⟨v3,o3,rfl⟩
   generalize hP2:P1++clkB e.c e.r 5++vB e.h.toNat=P2
   have hP2l:P2.length≤50:=by rw [← hP2,List.length_append,List.length_append];omega
   (refine rn ?_;(repeat (first | intro (v:Value) | intro (o:O1 _) | intro h)))
   refine st_callC [] (xs:=[.tmp 48]) (fs:=[]) (us:=[.pointer (some ⟨gL,0,none⟩)]) (vs:=[.string (S e.ed.key)]) rJ rJ Tryz.call243 rE rJ (eput2_F e.ed.key gL _ _ _ o3 rM rM) ?_
   rintro _ _ ⟨v4,o4,rfl⟩
   (refine rn ?_;(repeat (first | intro (v:Value) | intro (o:O1 _) | intro h)))
   refine st_callIs [] rJ Tryz.call244 rJ rJ (elong_F e.ed.kind _) ?_
   rintro _ _ ⟨rfl,rfl⟩
   by_cases hs:e.ed.kind=1∨e.ed.kind=2
   ·rw [show decide (e.ed.kind≠1∧e.ed.kind≠2)=false from decide_eq_false rM]
    have hby:e.bytes=P2++sB e.ed.key:=by
     rw [← hP2,← hP];simp [Ev.bytes,edB,if_pos hs]
    rw [hby]
    (refine rn ?_;(repeat (first | intro (v:Value) | intro (o:O1 _) | intro h)))
    (refine fr ?_)
    exact ⟨_,rB,.inr ⟨hm,_,o4,rfl,rfl⟩⟩
   ·rw [show decide (e.ed.kind≠1∧e.ed.kind≠2)=true from decide_eq_true rM]
    have hby:e.bytes=P2++sB e.ed.key++[UInt8.ofNat e.ed.label.toNat]++sB e.ed.value:=by
     rw [← hP2,← hP];simp [Ev.bytes,edB,if_neg hs]
    rw [hby]
    have hkl:(P2++sB e.ed.key).length≤60:=by simp [sB];omega
    generalize P2++sB e.ed.key=P3 at hkl ⊢
    (refine rn ?_;(repeat (first | intro (v:Value) | intro (o:O1 _) | intro h)))
    refine st_callC [2,2] (xs:=[.tmp 61]) (fs:=[]) (us:=[.pointer (some ⟨gL,0,none⟩)]) (vs:=[.string (S e.ed.value)]) rJ rJ Tryz.call243 rE rJ (eput2_F e.ed.value gL v (P3++[UInt8.ofNat e.ed.label.toNat]) _ o rM (by simp;omega)) ?_
    rintro _ _ ⟨v5,o5,rfl⟩
    (refine rn ?_;intros)
    (refine fr ?_)
    exact ⟨_,rB,.inr ⟨hm,_,o5,rfl,rfl⟩⟩
 ·have hx0:x≠0:=fun h=>hm (hx.1 h)
  (refine rn ?_;intros)
  (refine fr ?_)
  exact ⟨_,rB,.inl ⟨hm,⟨x,hx0,rfl⟩,rfl⟩⟩
end
section
abbrev Rs:=Int×Nat
def tByte (b:List UInt8) (s:Rs) (lo hi:Int):Int×Rs :=
 if s.1≠0 then (0,s) else match b[s.2]? with
  | none=>(0,(2,s.2))
  | some c=>if lo≤(c.toNat:Int)∧(c.toNat:Int)≤hi then (c.toNat,(0,s.2+1)) else (0,(3,s.2+1))
def tNum (b:List UInt8) (s:Rs) (lo hi:Int):Int×Rs :=
 if s.1≠0 then (0,s) else match vTake (b.drop s.2) with
  | .error x=>(0,(x,s.2))
  | .ok (n,k)=>if (n:Int)<lo∨hi<(n:Int) then (0,(3,s.2)) else (n,(0,s.2+k))
def tStr (b:List UInt8) (s:Rs) (n:Int) (ok:List UInt8→Int):List UInt8×Rs :=
 if s.1≠0 then ([],s) else if (b.length:Int) - s.2<n then ([],(2,s.2)) else
  ((b.drop s.2).take n.toNat,(if ok ((b.drop s.2).take n.toNat)=0 then 0 else 3,s.2+n.toNat))
@[reducible] def Rst (g4 g3 g1:Nat) (s:Rs) (v:Value) (M:List Assn):List Assn:=Blk g4 57 [.int .i64 s.1]::Blk g3 3 [.int .i64 s.2]::Blk g1 45 [v]::M
theorem etake1_F (lo hi:Int) (g4 g3 g1:Nat) (s:Rs) (v0:Value) (b:List UInt8) (M:List Assn) (o0:v0.oneCell'=true) (hr:RdT M v0 b) (hb:b.length≤1000000000) (hs:s.2≤b.length) :
  Fn Tryz.prog 319 #[.int .i64 lo,.int .i64 hi,.pointer (some ⟨g4,0,none⟩),.pointer (some ⟨g3,0,none⟩),.pointer (some ⟨g1,0,none⟩)] (Rst g4 g3 g1 s v0 M) fun r L'=>r=.int .i64 (tByte b s lo hi).1∧L'=Rst g4 g3 g1 (tByte b s lo hi).2 v0 M:=by
 obtain ⟨er,ps⟩:=s
 simp only at hs
 unfold Rst
 simp only
 refine Fn.of_ex Tryz.func319 rfl Tryz.ntmps319 rfl ?_
 by_cases he:er=0
 ·subst he
  by_cases hp:ps<b.length
  ·obtain ⟨c,hc⟩:∃ c,c=b[ps]'hp:=⟨_,rfl⟩
   have hcb:=c.toNat_lt
   have hT:tByte b (0,ps) lo hi=if lo≤(c.toNat:Int)∧(c.toNat:Int)≤hi then ((c.toNat:Int),(0,ps+1)) else (0,(3,ps+1)):=by
    unfold tByte
    simp [List.getElem?_eq_getElem hp,hc]
   rw [hT]
   (refine rn ?_;intros)
   rw [← hc]
   refine st_callIs [] rJ Tryz.call274 rJ rJ (within_F (c.toNat:Int) lo hi _) ?_
   rintro _ _ ⟨rfl,rfl⟩
   by_cases hw:lo≤(c.toNat:Int)∧(c.toNat:Int)≤hi
   ·rw [if_pos hw,decide_eq_true hw]
    exact re0
   ·rw [if_neg hw,decide_eq_false hw]
    exact re0
  ·have hT:tByte b (0,ps) lo hi=(0,(2,ps)):=by
    unfold tByte
    simp [List.getElem?_eq_none (show b.length≤ps by omega)]
   rw [hT]
   exact re0
 ·have hT:tByte b (er,ps) lo hi=(0,(er,ps)):=by
   unfold tByte
   rw [if_pos he]
  rw [hT]
  exact re0
theorem vT_spec:∀ (l:List UInt8) (i acc:Nat),match vT i acc l with
  | .error x=>x=2∨x=3
  | .ok (n,k)=>i<k∧k≤i+l.length
 | [],i,acc=>by
  unfold vT
  split
  ·rename_i h;split at h <;> simp_all
  ·rename_i h;split at h <;> simp_all
 | c::l,i,acc=>by
  have ih:=vT_spec l (i+1) (acc+((c.toNat - 128) * 2 ^ (7 * i)) % 2 ^ 64)
  unfold vT
  by_cases h1:i=10
  ·rw [if_pos h1];simp
  ·rw [if_neg h1]
   by_cases h2:128≤c.toNat
   ·rw [if_pos h2]
    revert ih
    generalize vT (i+1) (acc+((c.toNat - 128) * 2 ^ (7 * i)) % 2 ^ 64) l=q
    rcases q with x | ⟨n,k⟩
    ·exact id
    ·intro ih
     simp only [List.length_cons] at ih ⊢
     omega
   ·rw [if_neg h2]
    split
    ·rename_i h;split at h <;> simp_all
    ·rename_i n k h
     split at h
     ·cases h
     ·simp only [Except.ok.injEq,Prod.mk.injEq] at h
      simp only [List.length_cons]
      omega
theorem etake2_F (lo hi:Int) (g4 g3 g1:Nat) (s:Rs) (v0:Value) (b:List UInt8) (M:List Assn) (o0:v0.oneCell'=true) (hr:RdT M v0 b) (hb:b.length≤1000000000) (hs:s.2≤b.length) (hlo:0≤lo∧lo≤100) (hhi:0≤hi∧hi≤100000000) :
  Fn Tryz.prog 320 #[.int .i64 lo,.int .i64 hi,.pointer (some ⟨g4,0,none⟩),.pointer (some ⟨g1,0,none⟩),.pointer (some ⟨g3,0,none⟩)] (Rst g4 g3 g1 s v0 M) fun r L'=>r=.int .i64 (tNum b s lo hi).1∧L'=Rst g4 g3 g1 (tNum b s lo hi).2 v0 M:=by
 obtain ⟨er,ps⟩:=s
 simp only at hs
 unfold Rst
 simp only
 refine Fn.of_ex Tryz.func320 rfl Tryz.ntmps320 rfl ?_
 by_cases he:er=0
 ·subst he
  (refine rn ?_;intros)
  refine st_callIs [] rJ Tryz.call247 rJ rJ (vtake_F _ (b.drop ps) _ rD (by rw [List.length_drop];omega)) ?_
  rintro _ _ ⟨rfl,rfl⟩
  have hsp:=vT_spec (b.drop ps) 0 0
  rw [List.length_drop] at hsp
  rcases hv:vTake (b.drop ps) with x | ⟨n,k⟩
  ·have hv':vT 0 0 (b.drop ps)=.error x:=hv
   rw [hv'] at hsp
   have hT:tNum b (0,ps) lo hi=(0,(x,ps)):=by
    unfold tNum
    simp [hv]
   rw [hT]
   have hx:x=2∨x=3:=hsp
   clear hsp
   unfold vtV
   exact re0
  ·have hv':vT 0 0 (b.drop ps)=.ok (n,k):=hv
   rw [hv'] at hsp
   have hk:0<k∧k≤0+(b.length - ps):=hsp
   clear hsp
   have hT:tNum b (0,ps) lo hi=if (n:Int)<lo∨hi<(n:Int) then (0,(3,ps)) else ((n:Int),(0,ps+k)):=by
    unfold tNum
    simp [hv]
   rw [hT]
   unfold vtV
   by_cases h1:(n:Int)<lo
   ·rw [if_pos (.inl h1)]
    exact re0
   ·by_cases h2:hi<(n:Int)
    ·rw [if_pos (.inr h2)]
     exact re0
    ·rw [if_neg rM]
     exact re0
 ·have hT:tNum b (er,ps) lo hi=(0,(er,ps)):=by
   unfold tNum
   rw [if_pos he]
  rw [hT]
  exact re0
theorem etake3_F (n:Int) (fn:FuncId) (ok:List UInt8→Int) (hrun:∀ (xs:Array Value) (w:World),(callFunc fn xs).run Tryz.prog w=.ok (.enter fn xs) w) (hF:∀ (s:List UInt8) (L:List Assn),s.length≤100→Fn Tryz.prog fn #[.string (S s)] L fun v L'=>v=.int .i64 (ok s)∧L'=L)
  (g4 g3 g1:Nat) (s:Rs) (v0:Value) (b:List UInt8) (M:List Assn) (o0:v0.oneCell'=true) (hr:RdT M v0 b) (hb:b.length≤1000000000) (hs:s.2≤b.length) (hn:0≤n∧n≤12) :
  Fn Tryz.prog 321 #[.int .i64 n,.func (.func fn) #[] #[],.pointer (some ⟨g4,0,none⟩),.pointer (some ⟨g1,0,none⟩),.pointer (some ⟨g3,0,none⟩)] (Rst g4 g3 g1 s v0 M) fun r L'=>r=.string (S (tStr b s n ok).1)∧L'=Rst g4 g3 g1 (tStr b s n ok).2 v0 M:=by
 obtain ⟨er,ps⟩:=s
 simp only at hs
 unfold Rst
 simp only
 refine Fn.of_ex Tryz.func321 rfl Tryz.ntmps321 rfl ?_
 by_cases he:er=0
 ·subst he
  by_cases hl:(b.length:Int) - ps<n
  ·have hT:tStr b (0,ps) n ok=([],(2,ps)):=by
    unfold tStr
    simp [hl]
   rw [hT]
   exact re0
  ·obtain ⟨m,rfl⟩:=Int.eq_ofNat_of_zero_le hn.1
   have hT:tStr b (0,ps) m ok=((b.drop ps).take m,(if ok ((b.drop ps).take m)=0 then 0 else 3,ps+m)):=by
    unfold tStr
    simp [hl]
   rw [hT]
   (refine rn ?_;intros)
   rw [show ((ps:Int)+m).toNat - (ps:Int).toNat=m by omega,Int.toNat_natCast]
   generalize hq:(b.drop ps).take m=q
   have hql:q.length≤100:=by rw [← hq,List.length_take];omega
   refine st_callC [] (xs:=[.tmp 32]) (fs:=[]) (us:=[]) (vs:=[.string (S q)]) rJ rJ hrun rE rJ (hF q _ hql) ?_
   rintro _ _ ⟨rfl,rfl⟩
   by_cases hok:ok q=0
   ·rw [if_pos hok]
    exact re0
   ·rw [if_neg hok]
    exact re0
 ·have hT:tStr b (er,ps) n ok=([],(er,ps)):=by
   unfold tStr
   rw [if_pos he]
  rw [hT]
  exact re0
end
end
end Go.Proofs.YtogcfijlhpaeeaaGreat
