/- Texts. No condition. -/
import Derived.Control
import Derived.Laws.Entries
import Derived.Laws.Sem
import Derived.Laws.World
import Derived.MapKept
import GoSem.Core.Value
import Derived.BigQuiet
import Derived.Deep.QuietTactic
import Derived.Deep.Slices
import Derived.Handy
import Derived.IntWalk
import Derived.Laws.BytesArg
import Derived.Lib.ConvBytes
import Derived.Lib.Hide
import Derived.StillTailTactics
import Derived.WalkKit
import Derived.WalkSmall
open Go.RowKit
set_option linter.all false
set_option maxHeartbeats 32000000
namespace Go.Proofs.YtogcfijlhpaeeaaGreat
def tD:=@Array.getElem?_append_left
def oM:=@Array.getElem?_eq_none
def xk:=@Array.ext_getElem?
def qG:=@Array.getElem?_modify
def wC:=@Array.getElem?_append_right
def ai:=@if_neg
def ur:=@Ne.symm
def F5:=@BitVec.toNat_and
def vL:=@BitVec.toNat_ofInt
def qX:=@Nat.pow_add
def vY:=@Nat.pow_le_pow_right
def sY:=@Int.emod_nonneg
def yT:=@Int.ofNat.inj
def uD:=@Int.toNat_of_nonneg
def yL:=@Int.emod_lt_of_pos
def CK:=@Array.getElem?_setIfInBounds
def bj:=@Nat.le_refl
def eM:=@Nat.zero_le
def nE:=@List.map_map
def xe:=@List.map_congr_left
def dZ:=@List.eq_nil_of_length_eq_zero
def wI:=@List.length_pos_iff
def jn:=@if_true
def gR:=@Array.getElem?_eq_some_iff
def mj:=@Nat.eq_of_beq_eq_true
def uV:=@Array.getD_eq_getD_getElem?
def Ay:=@Array.getElem?_setIfInBounds_ne
def jo:=@Go.wp_mono
def lk:=@List.mem_append_left
def mT:=@List.mem_append_right
def an:=@if_pos
def rU:=@of_decide_eq_true
def mY:=@Nat.lt_or_ge
def BS:=@dif_pos
def E3:=@Classical.choose_spec
def eR:=@List.any_eq_true
def Ea:=@Nat.lt_of_le_of_lt
def cT:=@Nat.le_of_ble_eq_true
def eu:=@List.mem_cons_of_mem
def Fg:=@Option.bind_some
def oX:=@Array.getElem?_eq_getElem
def bf:=@decide_eq_true
def bd:=@decide_eq_false
def cu:=@List.getD_eq_getElem?_getD
def ua:=@Array.getElem?_toList
def Ax:=@Array.getElem?_replicate
def iA:=@List.getElem?_eq_some_iff
def cX:=@Go.run_underlying
def mz:=@List.getElem?_take
def tg:=@List.getElem?_drop
def gV:=@List.getElem?_eq_getElem
def ck:=@List.append_nil
def jx:=@List.length_nil
def tn:=@Nat.add_zero
def mi:=@List.take_append_drop
def ux:=@List.ext_getElem?
def yS:=@List.getElem?_set
def pG:=@List.getElem?_eq_none
def fP:=@List.mem_cons_self
def pD:=@List.set_set
def uT:=@List.flatMap_cons
def bo:=@List.length_append
def dL:=@List.length_cons
def jr:=@Nat.add_mul
def Db:=@List.mem_flatMap
def kW:=@List.all_eq_true
def FQ:=@List.drop_append
def pk:=@List.drop_eq_nil_of_le
def lG:=@List.nil_append
def DZ:=@List.take_append
def ic:=@List.take_of_length_le
def vV:=@List.drop_eq_getElem_cons
def qH:=@List.getElem?_append_left
def iW:=@Nat.mul_le_mul_right
def EM:=@Array.size_append
def Gn:=@List.size_toArray
def Fs:=@Array.toList_append
def jL:=@List.take_left
def cn:=@congrArg
def sL:=@Array.mem_toList_iff
def dT:=@Bool.and_eq_true
def iE:=@Option.some.injEq
def vF:=@Bool.or_eq_true
def tJ:=@List.pairwise_append
def km:=@List.pairwise_cons
def ct:=@List.mem_append
def gA:=@List.mem_cons
def EB:=@Nat.lt_trichotomy
def qR:=@Nat.add_assoc
def Ez:=@Nat.add_comm
def xf:=@List.append_of_mem
def oI:=@List.mem_range
def sm:=@Bool.not_eq_true'
def CP:=@Array.all_toList
def ER:=@Array.mem_of_getElem?
def py:=@List.mem_of_mem_drop
def FE:=@Int.ediv_nonneg
def Dm:=@Int.tdiv_eq_ediv_of_nonneg
def fe:=@Go.Sem.run_bind
def fE:=@Go.Result.andThen_ok
def fT:=@Go.Sem.run_pure
def jF:=@Int.eq_ofNat_of_zero_le
def qa:=@List.foldl_cons
def kq:=@List.map_cons
def BI:=@List.take_zero
def BP:=@List.drop_zero
def mL:=@Nat.zero_add
def dy:=@List.length_take
def uS:=@Nat.zero_mul
def pc:=@List.set_cons_zero
def DT:=@List.set_append_left
def pL:=@List.set_cons_succ
def BV:=@List.set_append_right
def iw:=@List.length_set
def D0:=@List.take_take
def qf:=@Nat.min_eq_left
def tM:=@List.getElem?_set_self
def yA:=@Nat.div_lt_of_lt_mul
def pE:=@Nat.mul_comm
def zk:=@Nat.mod_lt
def yw:=@List.getElem_replicate
def ju:=@List.length_replicate
def yY:=@Nat.mul_pos
def uB:=@Nat.mod_eq_of_lt
def AU:=@List.getElem?_append_right
def Fp:=@Option.bind_eq_some_iff
def mO:=@List.drop_drop
def ui:=@Bool.not_false
def yv:=@Bool.not_true
def od:=@Bool.false_eq_true
def oz:=@if_false
def CT:=@List.replicate_succ
def Dj:=@List.take_succ_cons
def kz:=@List.getElem?_map
def qh:=@Nat.mul_one
def eH:=@Int.le_refl
def dc:=@Int.toNat_natCast
def tA:=@Nat.ble_eq_true_of_le
def DQ:=@Nat.one_mul
def qW:=@Bool.and_true
def dI:=@List.take_length
def ew:=@List.length_drop
def bC:=@List.length_map
def zd:=@List.length_range
def vo:=@List.all_cons
def pK:=@Bool.true_and
def jH:=@List.cons.injEq
def kR:=@Prod.mk.injEq
def nZ:=@Go.MapKept.run_getObj_map
def rW:=@Go.MapKept.run_setObj_map
def ta:=@List.all_append
def kZ:=@decide_eq_true_eq
def fA:=@List.mem_map
def bT:=@List.getElem_mem
def yg:=@List.getElem_append_left
def yR:=@List.getElem_append_right
def pY:=@List.cons_append
def vS:=@Nat.xor_lt_two_pow
def rA:=@List.drop_left
def D1:=@BitVec.toNat_xor
def Gt:=@Int.fdiv_eq_ediv_of_nonneg
def da:=@List.take_succ_eq_append_getElem
def js:=@List.foldl_append
def zb:=@UInt8.toNat_inj
def dA:=@List.map_append
def zO:=@Int.lt_tmod_of_pos
def yX:=@Int.tmod_lt_of_pos
def uh:=@Go.Value.int.injEq
def qy:=@true_and
def nV:=@and_true
def Cp:=@List.pairwise_iff_getElem
def xh:=@List.eraseIdx_sublist
def uZ:=@List.length_eraseIdx
def Gr:=@List.Sublist.refl
def tX:=@List.filter_congr
def mJ:=@List.mem_singleton
def uH:=@decide_true
def Dx:=@Bool.false_or
def ra:=@List.any_eq_false
def BH:=@and_assoc
def kh:=@Go.World.size_alloc
def kV:=@Go.World.size_setCell
def kU:=@Go.World.size_drew
def wx:=@List.range_succ
def C3:=@List.flatMap_append
def Bs:=@Classical.not_not
def dB:=@List.append_assoc
def za:=@Nat.le_trans
def nW:=@Classical.byContradiction
def la:=@List.getElem_of_mem
def mM:=@List.mem_of_mem_take
def Cm:=@Bool.eq_iff_iff
def uo:=@Nat.succ_mul
def Bj:=@List.take_append_of_le_length
def Am:=@List.drop_append_of_le_length
def oV:=@List.length_singleton
def rj:=@List.mem_map_of_mem
def oF:=@Option.map_some
def sZ:=@Go.World.cell?_setCell_other
def jJ:=@List.length_filter_le
def lD:=@List.filter_append
def ot:=@List.filter_cons
def uI:=@List.filter_nil
def uE:=@Bool.and_false
def sb:=@Bool.false_and
def Bw:=@List.getElem_cons_succ
def gT:=@List.getElem_map
def oC:=@List.map_set
def zY:=@List.Perm.refl
def AE:=@List.map_take
def yi:=@List.getElem_drop
def xn:=@List.getElem_set_self
def GD:=@List.findIdx_getElem
def Bf:=@decide_eq_decide
def qB:=@List.set_getElem_self
def BE:=@List.getElem_set
def sV:=@List.ext_getElem
def Cl:=@decide_eq_false_iff_not
def Bz:=@List.getElem_cons_zero
def va:=@List.prefix_refl
def DA:=@List.prefix_append
def Ac:=@List.getElem?_set_ne
def tZ:=@List.mem_or_eq_of_mem_set
def vc:=@List.eq_of_mem_replicate
def fW:=@List.mem_filter
def AH:=@Option.getD_some
def zI:=@Nat.testBit_xor
def BQ:=@Bool.xor_false
def zg:=@BitVec.toNat_ofNat
def xS:=@Nat.mod_two_eq_zero_or_one
def oa:=@Nat.xor_assoc
def zc:=@Nat.xor_comm
def yp:=@Nat.xor_self
def xM:=@Nat.pow_succ
def FI:=@Nat.zero_xor
def GN:=@List.map_drop
def xX:=@List.getElem?_range
def zD:=@List.getElem_range
def EF:=@List.map_nil
def sd:=@List.nodup_cons
def EU:=@List.nodup_nil
def yn:=@Nat.sub_self
def CS:=@List.replicate_zero
def Gd:=@List.any_append
def zV:=@List.mem_iff_getElem
def sg:=@List.filter_filter
def EJ:=@Nat.div_div_eq_div_mul
def Bx:=@Option.some.inj
def CZ:=@List.eq_nil_or_concat
def vq:=@List.append_inj'
def Ad:=@Iff.rfl
variable{G' p:Prop}
theorem U(h:p:=by omega):p:=h
theorem J(h:p:=by rfl):p:=h
section
theorem kH(w:World)(n:Nat):(w.drewN n).heap.size=w.heap.size:=rfl
def Kp(w w':World):Prop:=Below w.heap.size w w'
theorem Kp.refl(w:World):Kp w w:=Below.refl _ _
theorem Kp.trans{a b c:World}(h:Kp a b)(k:Kp b c):Kp a c:=Below.trans h (Below.mono k (Below.size h))
theorem Kp.alloc{a w:World}(h:Kp a w)(o:Obj):Kp a (w.alloc o):=Below.alloc h (Below.size h) o
theorem Kp.drew{a w:World}(h:Kp a w):Kp a w.drew:=Below.drew h
theorem Kp.drewN{a w:World}(h:Kp a w)(n:Nat):Kp a (w.drewN n):=below_drewN h n
theorem Kp.setCell{a w:World}(h:Kp a w){p:Addr}(b:a.heap.size<=p.block)(u:Value):Kp a (w.setCell p u):=Below.setCell h b u
theorem Kp.cell{w w':World}(h:Kp w w'){p:Addr}(a:p.block<w.heap.size):w'.cell? p=w.cell? p:=Below.cell h a
theorem Kp.frozen{w w':World}(h:Kp w w'){p:Addr}(a:p.block<w.heap.size):w'.frozen? p=w.frozen? p:=Below.frozen h a
theorem Kp.block{w w':World}(h:Kp w w')(k:Nat)(a:k<w.heap.size):w'.heap[k]?=w.heap[k]?:=Below.block h k a
def zq(w:World)(e:Ending)(w':World):Prop:=e=.returned (.bool true)/\Kp w w'
def cD(n:Int):Prop:=-9223372036854775808<=n/\n<=9223372036854775807
end
end Go.Proofs.YtogcfijlhpaeeaaGreat
namespace Go
open Go.Proofs.YtogcfijlhpaeeaaGreat
structure lO where
 blocks:Array Obj
 drawn:Nat
instance lO.inh:Nonempty lO:=⟨⟨#[],0⟩⟩
def World.ext(w:World)(x:lO):World:={w with heap:=w.heap++x.blocks,drawn:=x.drawn}
def lO.grow(x:lO):Nat:=x.blocks.size
theorem Dn(w:World)(x:lO):Kp w (w.ext x):=by show RowKit.Below _ _ _;refine⟨rfl,rfl,rfl,by simp[World.ext],λk a=>?_⟩;simp only[World.ext];rw[tD a]
def lO.cellAt(x:lO)(w:World)(a:Addr):Option Value:=(w.ext x).cell? a
def lO.frozenAt(x:lO)(w:World)(a:Addr):Bool:=(w.ext x).frozen? a
def World.Lr(w:World)(p:Addr)(v:Value):World:=w.setCell p v
def yP:Bool:=false
namespace uL
@[go_sem] theorem aam {α:Type} (a b:α):(if yP=true then a else b)=b:=rfl
@[go_sem] theorem aal (w:World) (x:lO):(w.ext x).heap.size=w.heap.size+x.grow:=by
 simp[World.ext,lO.grow]
@[go_sem high] theorem aac (w:World) (x:lO) (b o:Nat) (s:Option Nat):(w.ext x).cell? ⟨b,o,s⟩=if b<w.heap.size then w.cell? ⟨b,o,s⟩else x.cellAt w ⟨b,o,s⟩:=by
 split
 ·exact Kp.cell (Dn w x) ‹_›
 ·rfl
@[go_sem high] theorem aai (w:World) (x:lO) (b o:Nat) (s:Option Nat):(w.ext x).frozen? ⟨b,o,s⟩=if b<w.heap.size then w.frozen? ⟨b,o,s⟩else x.frozenAt w ⟨b,o,s⟩:=by
 split
 ·exact Kp.frozen (Dn w x) ‹_›
 ·rfl
@[go_sem high] theorem aah (w:World) (c:Array Value) (t:TypeId) (n i:Nat):(w.alloc (.cells c t)).cell? ⟨n,i,none⟩=if n<w.heap.size then w.cell? ⟨n,i,none⟩else if n=w.heap.size then c[i]? else none:=by
 split
 ·exact World.cell?_alloc_lt w _ ⟨n,i,none⟩ ‹_›
 ·split
  ·(subst n;exact World.cell?_alloc_new w c t i)
  ·rw[World.cell?_alloc_old _ _ _ ‹_›]
   simp[World.cell?,oM (show w.heap.size<=n by omega)]
@[go_sem high] theorem aaj (w:World) (c:Array Value) (t:TypeId) (n i:Nat):(w.alloc (.cells c t)).frozen? ⟨n,i,none⟩=if n<w.heap.size then w.frozen? ⟨n,i,none⟩else yP:=by
 unfold yP
 split
 ·exact World.frozen?_alloc_old w _ ⟨n,i,none⟩ (Nat.ne_of_lt ‹_›)
 ·by_cases h:n=w.heap.size
  ·(subst n;exact World.frozen?_alloc_new w c t i)
  ·rw[World.frozen?_alloc_old _ _ _ h]
   simp[World.frozen?,oM (show w.heap.size<=n by omega)]
@[go_sem high] theorem aad (w:World) (x:lO) (b o:Nat) (s:Option Nat) (v:Value):(w.ext x).setCell ⟨b,o,s⟩ v=if b<w.heap.size then(w.setCell ⟨b,o,s⟩ v).ext x else(w.ext x).Lr ⟨b,o,s⟩ v:=by
 split
 ·rename_i hb
  unfold World.setCell World.ext
  congr 1
  apply xk
  intro k
  simp only[qG]
  by_cases hk:k<w.heap.size
  ·rw[tD hk,tD (by simpa using hk),qG]
  ·rw[wC U,wC (by simp;omega)]
   rw[ai U]
   simp
 ·rfl
@[go_sem high] theorem Z9 (w:World) (c:Array Value) (t:TypeId) (fr:Nat×Nat) (n i:Nat) (v:Value):(w.alloc (.cells c t fr)).setCell ⟨n,i,none⟩ v=
  if n<w.heap.size then(w.setCell ⟨n,i,none⟩ v).alloc (.cells c t fr)else if n=w.heap.size then w.alloc (.cells (c.setIfInBounds i v) t fr)else(w.alloc (.cells c t fr)).Lr ⟨n,i,none⟩ v:=by
 split
 ·rename_i hn
  unfold World.setCell World.alloc
  congr 1
  apply xk
  intro k
  simp only[qG,Array.getElem?_push,Array.size_modify]
  by_cases hk:k=w.heap.size
  ·subst hk
   simp[Nat.ne_of_lt hn]
  ·simp[hk]
 ·split
  ·subst n
   unfold World.setCell World.alloc
   congr 1
   apply xk
   intro k
   simp only[qG,Array.getElem?_push]
   by_cases hk:k=w.heap.size
   ·subst hk;simp
   ·simp[hk,ur hk]
  ·rfl
theorem yI(k:Nat)(h:k<63)(m:Int)(d:(BitVec.ofInt 64 m).toNat=2^k-1)(n:Int):bits .and .i64 n m=n%(2^k:Nat):=by
 have f:(BitVec.ofInt 64 n&&& BitVec.ofInt 64 m).toNat=(n%((2^64:Nat):Int)).toNat%2^k:=by rw[F5,vL,d,Nat.and_two_pow_sub_one_eq_mod]
 have e:((2:Nat)^64:Nat)=2^k*2^(64-k):=by rw[<-qX];congr 1;omega
 have j:0<2^k:=Nat.two_pow_pos k;have i:2^k<=2^62:=vY U U;have c:((n%((2^64:Nat):Int)).toNat%2^k:Nat)=(n%((2^k:Nat):Int)).toNat:=by have b:0<=n%((2^64:Nat):Int):=sY _ (by decide);have a:0<=n%((2^k:Nat):Int):=sY _ U;apply yT;show(((n%((2^64:Nat):Int)).toNat%2^k:Nat):Int)=((n%((2^k:Nat):Int)).toNat:Int);rw[Int.natCast_emod,uD b,uD a,e,Int.natCast_mul,Int.emod_emod_of_dvd];exact Int.dvd_mul_right _ _
 show IntKind.i64.wrap ((BitVec.ofInt 64 n&&& BitVec.ofInt 64 m).toNat:Nat)=_;have a:0<=n%((2^k:Nat):Int):=sY _ U;have g:n%((2^k:Nat):Int)<((2^k:Nat):Int):=yL _ U;rw[f,c,uD a,IntKind.wrap_i64];have:(2:Nat)^62=4611686018427387904:=by decide
 omega
@[go_sem] theorem Z7 (n:Int):bits .and .i64 n 1023=n%1024:=yI 10 (by decide) 1023 (by decide) n
@[go_sem] theorem aaa (n:Int):bits .and .i64 n 511=n%512:=yI 9 (by decide) 511 (by decide) n
@[go_sem] theorem Yd (n:Int):bits .and .i64 n 1=n%2:=yI 1 (by decide) 1 (by decide) n
@[go_sem] theorem aab (n:Int):bits .and .i64 n 3=n%4:=yI 2 (by decide) 3 (by decide) n
@[go_sem] theorem Z4 (n:Int):bits .and .i64 n 1048575=n%1048576:=yI 20 (by decide) 1048575 (by decide) n
end uL
end Go
namespace Go.Proofs.YtogcfijlhpaeeaaGreat
theorem Kp.ext{a w:World}(h:Kp a w)(x:lO):Kp a (w.ext x):=Kp.trans h (Dn w x)
end Go.Proofs.YtogcfijlhpaeeaaGreat
namespace Go.Proofs.YtogcfijlhpaeeaaGreat
end Go.Proofs.YtogcfijlhpaeeaaGreat
namespace Go
open Go.Proofs.YtogcfijlhpaeeaaGreat
def World.put(w:World)(g:Nat)(cs:Array Value)(t:TypeId):World:={w with heap:=w.heap.setIfInBounds g (.cells cs t)}
namespace uL
@[go_sem] theorem size_put (w:World) (g:Nat) (cs:Array Value) (t:TypeId):(w.put g cs t).heap.size=w.heap.size:=by simp[World.put]
theorem DP(w:World)(g:Nat)(cs:Array Value)(t:TypeId)(k:Nat):(w.put g cs t).heap[k]?=if k=g then(if g<w.heap.size then some (.cells cs t)else none)else w.heap[k]?:=by
 simp only[World.put,CK];by_cases h:k=g
 ·subst h;simp
 ·simp[h,ur h]
@[go_sem high] theorem aag (w:World) (g:Nat) (cs:Array Value) (t:TypeId) (b o:Nat):(w.put g cs t).cell? ⟨b,o,none⟩=if b=g then(if g<w.heap.size then cs[o]? else none)else w.cell? ⟨b,o,none⟩:=by
 simp only[World.cell?,DP]
 by_cases h:b=g
 ·subst h
  by_cases h2:b<w.heap.size<;>simp[h2]
 ·simp[h]
@[go_sem high] theorem aae (w:World) (g:Nat) (cs:Array Value) (t:TypeId) (b o:Nat) (s:Option Nat):(w.put g cs t).frozen? ⟨b,o,s⟩=if b=g then yP else w.frozen? ⟨b,o,s⟩:=by
 unfold yP
 simp only[World.frozen?,DP]
 by_cases h:b=g
 ·subst h
  by_cases h2:b<w.heap.size<;>simp[h2]
 ·simp[h]
@[go_sem high] theorem Z8 (w:World) (g:Nat) (cs:Array Value) (t:TypeId) (b o:Nat) (v:Value):(w.put g cs t).setCell ⟨b,o,none⟩ v=if b=g then w.put g (cs.setIfInBounds o v) t else(w.setCell ⟨b,o,none⟩ v).put g cs t:=by
 have hh:∀(a c:World),a.heap=c.heap->a.tape=c.tape->a.drawn=c.drawn->a.os=c.os->a.output=c.output->a=c:=by
  intro a c h1 h2 h3 h4 h5;cases a;cases c;simp_all
 split
 ·subst b
  refine hh _ _ ?_ rfl rfl rfl rfl
  apply xk
  intro k
  simp only[World.setCell,World.put,qG,CK]
  by_cases hk:g=k
  ·subst hk
   by_cases hg:g<w.heap.size<;>simp[hg]
  ·simp[hk]
 ·rename_i hb
  refine hh _ _ ?_ rfl rfl rfl rfl
  apply xk
  intro k
  simp only[World.setCell,World.put,qG,CK,Array.size_modify]
  by_cases hk:g=k
  ·subst hk
   simp[hb]
  ·simp[hk]
end uL
end Go
namespace Go.Proofs.YtogcfijlhpaeeaaGreat
theorem Kp.put{a w:World}(h:Kp a w)(g:Nat)(cs:Array Value)(t:TypeId)(c:a.heap.size<=g):Kp a (w.put g cs t):=by have h':RowKit.Below a.heap.size a w:=h;show RowKit.Below _ _ _;refine⟨h'.os,h'.tape,h'.output,by rw[uL.size_put];exact h'.size,λk b=>?_⟩;rw[uL.DP,ai U];exact h'.block k b
end Go.Proofs.YtogcfijlhpaeeaaGreat
namespace Go.Proofs.YtogcfijlhpaeeaaGreat
section
def Sl(w:World)(v:Value)(n k:Nat)(cs:List Value):Prop:=
 cs.length=k*n/\∃a b,v=.slice a k b/\k<=b/\b<=maxLen/\(a=none->b=0)/\∀c,a=some c->∀j u,cs[j]?=some u->w.cell? (c.add j)=some u
theorem Sl.nil(w:World)(n:Nat):Sl w (.slice none 0 0) n 0 []:=⟨by simp,none,0,rfl,bj _,eM _,λ_=>rfl,λa h=>by cases h⟩
theorem Sl.Sm{w:World}{base e a:Nat}{v:Value}{k:Nat}{cs:List Value}(h:w.ownsRow base e a v k cs):Sl w v a k cs:=by
 refine⟨h.1,?_⟩;rcases h.2 with⟨rfl,rfl⟩|⟨g,c,m,rfl,_,_,i,f,_,_⟩
 ·exact⟨none,0,rfl,bj _,eM _,λ_=>rfl,λb h=>by cases h⟩
 ·refine⟨some ⟨g,0,none⟩,c,rfl,i,f,(λh=>by cases h),λb d j u l=>?_⟩;cases d;exact h.cells (g:=g) rfl j u l
def uj(l:List UInt8):List Value:=l.map λb=>.int .u8 b.toNat
theorem Yu(l:List UInt8):(uj l).length=l.length:=by simp[uj]
theorem Ht(l:List UInt8)(i:Nat)(h:i<l.length):(uj l)[i]?=some (.int .u8 (l[i]'h).toNat):=by simp[uj,h]
theorem Wb(l:List UInt8):strOfNums (l.map λb=>(b.toNat:Int))=⟨l.toArray⟩:=by
 have h:=strOfNums_data (l.map λb=>(b.toNat:Int));rw[nE]at h;have e:(l.map ((λn:Int=>UInt8.ofNat n.toNat)∘λb:UInt8=>(b.toNat:Int)))=l:=by
  conv=>rhs;rw[<-List.map_id l]
  apply xe;intro b _;simp
 rw[e]at h;cases hs:strOfNums (l.map λb=>(b.toNat:Int))with
 |mk d=>rw[hs]at h;simp only at h;rw[<-h]
theorem Sl.str{P:Program}{w:World}{v:Value}{k:Nat}{l:List UInt8}(h:Sl w v 1 k (uj l)){src e dst:TypeId}(c:P.underlying src=some (.slice e))(f:P.underlying e=some (.int .u8))
  (hd:P.underlying dst=some .string):(convert src dst v).run P w=.ok (.string ⟨l.toArray⟩) w:=by
 obtain⟨g,a,d,rfl,r,t,p,j⟩:=h;rw[Yu]at g;cases a with
 |none=>
  have:l=[]:=dZ (by have:=p rfl;omega);subst this;rw[run_convert_bytes_nil w src e c f k d dst hd];rfl
 |some ad=>
  by_cases n:l=[]
  ·subst n;obtain rfl:k=0:=by simpa using g.symm
   rw[run_convert_bytes_string w src dst e _ 0 d c f hd];simp[Conv.bytesToString,loadCells,loadCellsFrom];rfl
  ·have q:0<l.length:=wI.2 n;have m:ad.spot=none:=by
    have:=j ad rfl 0 _ (Ht l 0 q);simp only[Addr.add,jn]at this;cases c:ad.spot with
    |none=>rfl
    |some s=>exfalso;simp only[World.cell?,c]at this;split at this<;>simp at this
   obtain⟨b,off,u⟩:=ad;simp only at m;subst m;rw[run_convert_bytes_arg w src e c f b off k d (l.map λb=>(b.toNat:Int)) (by simp;omega) (λi hi=>by
    have:=j ⟨b,off,none⟩ rfl i _ (Ht l i U);have o:(⟨b,off,none⟩:Addr).add i=⟨b,off+i,none⟩:=by unfold Addr.add;split<;>simp_all
    rw[o]at this;rw[this];simp[List.getD,show i<l.length by omega]) dst hd,Wb]
end
section
def Own(w:World)(base:Nat)(e:TypeId)(n:Nat)(v:Value)(k:Nat)(cs:List Value):Prop:=
 cs.length=k*n/\((k=0/\∃b,v=.slice b 0 0)\/
  ∃g a c,v=.slice (some ⟨g,0,none⟩) k a/\base<=g/\w.heap[g]?=some (.cells c e (0,0))/\k<=a/\a<=maxLen/\c.size=a*n/\c.toList.take (k*n)=cs)
theorem Own.sl{w:World}{base:Nat}{e:TypeId}{n:Nat}{v:Value}{k:Nat}{cs:List Value}(h:Own w base e n v k cs):Sl w v n k cs:=by
 refine⟨h.1,?_⟩;rcases h.2 with⟨rfl,b,rfl⟩|⟨g,a,c,rfl,d,i,l,f,m,o⟩
 ·have:cs=[]:=dZ (by simpa using h.1);subst this;exact⟨b,0,rfl,bj _,eM _,λ_=>rfl,λq _ j u p=>by simp at p⟩
 ·exact(Sl.Sm (w:=w) (base:=base) (e:=e) ⟨h.1,.inr ⟨g,a,c,rfl,d,i,l,f,m,o⟩⟩).2
end
end Go.Proofs.YtogcfijlhpaeeaaGreat
namespace Go.Proofs.YtogcfijlhpaeeaaGreat
def aU:=Nat->Option Obj
namespace aU
def add(h k:aU):aU:=λn=>match h n with|some o=>some o|none=>k n
def iN(h k:aU):Prop:=∀n,h n=none\/k n=none
def one(g:Nat)(o:Obj):aU:=λn=>if n=g then some o else none
theorem qO{h k:aU}(d:h.iN k):k.iN h:=λn=>(d n).symm
theorem lL{a b c:aU}:(a.iN (b.add c))↔a.iN b/\a.iN c:=by
 constructor
 ·intro d;refine⟨λn=>?_,λn=>?_⟩
  ·rcases d n with h|h
   ·exact .inl h
   ·right;unfold add at h;cases hb:b n with
    |none=>rfl
    |some o=>rw[hb]at h;cases h
  ·rcases d n with h|h
   ·exact .inl h
   ·right;unfold add at h;cases hb:b n with
    |none=>rw[hb]at h;exact h
    |some o=>rw[hb]at h;cases h
 ·rintro⟨e,f⟩ n;rcases e n with h|h
  ·exact .inl h
  ·rcases f n with h'|h'
   ·exact .inl h'
   ·right;simp only[add,h,h']
theorem add_left_comm{a b c:aU}(d:a.iN b):a.add (b.add c)=b.add (a.add c):=by
 funext n;unfold add;rcases d n with h|h
 ·rw[h]
 ·rw[h]
theorem ld(g:Nat)(o:Obj):one g o g=some o:=by simp[one]
variable{g:Nat}
theorem qM{n:Nat}(o:Obj)(h:n≠g):one g o n=none:=by simp[one,h]
end aU
def aa:=aU->Prop
def aN(w:World):List aa->aU->Prop
 |[],F=>∀n o,F n=some o->w.heap[n]?=some o
 |A::L,F=>∃h:aU,A h/\h.iN F/\aN w L (h.add F)
namespace aN
theorem frame{w:World}:∀{L:List aa} {F:aU},aN w L F->∀n o,F n=some o->w.heap[n]?=some o
 |[],_,h,n,o,e=>h n o e
 |A::L,F,⟨h,_,d,s⟩,n,o,e=>by
  refine frame s n o ?_;unfold aU.add;rcases d n with h'|h'
  ·rw[h'];exact e
  ·rw[h']at e;cases e
theorem qP{w:World}{L:List aa}{h F:aU}(s:aN w L (h.add F)):∀n o,h n=some o->w.heap[n]?=some o:=λn o e=>
 frame s n o (by unfold aU.add;rw[e])
theorem pick{w:World}{A:aa}:∀{L:List aa} {F:aU} {i:Nat},L[i]?=some A->aN w L F->∃h:aU,A h/\h.iN F/\aN w (L.eraseIdx i) (h.add F)
 |[],_,_,e,_=>by simp at e
 |B::L,F,0,e,⟨h,a,d,s⟩=>by
  simp at e;subst e;exact⟨h,a,d,s⟩
 |B::L,F,i+1,e,⟨h,a,d,s⟩=>by
  simp at e;obtain⟨k,c,b,f⟩:=pick e s;rw[aU.lL]at b;refine⟨k,c,b.2,h,a,?_,?_⟩
  ·rw[aU.lL];exact⟨aU.qO b.1,d⟩
  ·show aN w (L.eraseIdx i) _;rw[aU.add_left_comm (aU.qO b.1)];exact f
theorem put{w:World}{A:aa}:∀{L:List aa} {F:aU} {i:Nat},i<L.length->∀{h:aU},A h->h.iN F->aN w (L.eraseIdx i) (h.add F)->aN w (L.set i A) F
 |[],_,_,e,_,_,_,_=>by simp at e
 |B::L,F,0,e,h,a,d,s=>⟨h,a,d,s⟩
 |B::L,F,i+1,e,h,a,d,s=>by
  obtain⟨k,c,b,f⟩:=s;rw[aU.lL]at b;refine⟨k,c,b.2,?_⟩;refine put (by simpa using e) a ?_ ?_
  ·rw[aU.lL];exact⟨aU.qO b.1,d⟩
  ·rw[aU.add_left_comm (aU.qO b.1)];exact f
theorem world{w w':World}(b:∀(n:Nat) (o:Obj),w.heap[n]?=some o->w'.heap[n]?=some o):∀{L:List aa} {F:aU},aN w L F->aN w' L F
 |[],_,s=>λn o e=>b n o (s n o e)
 |_::_,_,⟨h,a,d,s⟩=>⟨h,a,d,world b s⟩
theorem less{w:World}:∀{L:List aa} {h F:aU},aN w L (h.add F)->h.iN F->aN w L F
 |[],h,F,s,d=>λn o e=>s n o (by
   unfold aU.add;rcases d n with h'|h'
   ·rw[h'];exact e
   ·rw[h']at e;cases e)
 |A::L,h,F,⟨k,a,dk,s⟩,d=>by rw[aU.lL]at dk;refine⟨k,a,dk.2,?_⟩;rw[aU.add_left_comm dk.1]at s;exact less s (by rw[aU.lL];exact⟨aU.qO dk.1,d⟩)
theorem swap{w w':World}{h h':aU}(hd:∀n,h n=none->h' n=none)(f:∀(n:Nat) (o:Obj),h n=none->w.heap[n]?=some o->w'.heap[n]?=some o)(b:∀n o,h' n=some o->w'.heap[n]?=some o):
  ∀{L:List aa} {F:aU},h.iN F->aN w L (h.add F)->aN w' L (h'.add F)
 |[],F,d,s=>λn o e=>by
  unfold aU.add at e;cases hn:h' n with
  |some o'=>rw[hn]at e;simp at e;subst e;exact b n _ hn
  |none=>
   rw[hn]at e;simp at e;rcases d n with c|g
   ·exact f n o c (s n o (by unfold aU.add;rw[c];exact e))
   ·rw[g]at e;cases e
 |A::L,F,d,⟨k,a,dk,s⟩=>by
  rw[aU.lL]at dk;refine⟨k,a,?_,?_⟩
  ·rw[aU.lL];refine⟨λn=>?_,dk.2⟩;rcases dk.1 n with x|x
   ·exact .inl x
   ·exact .inr (hd n x)
  ·rw[aU.add_left_comm dk.1]at s;have:=swap hd f b (F:=k.add F) (by rw[aU.lL];exact⟨aU.qO dk.1,d⟩) s;rwa[aU.add_left_comm]at this;intro n;rcases dk.1 n with x|x
   ·exact .inr x
   ·exact .inl (hd n x)
theorem zz{w:World}{L:List aa}{F:aU}(s:aN w L F)(o:Obj):(aU.one w.heap.size o).iN F:=by
 intro n;by_cases a:n=w.heap.size
 ·right;cases hf:F n with
  |none=>rfl
  |some x=>have:=frame s n x hf;rw[oM U]at this;cases this
 ·exact .inl (aU.qM o a)
theorem BB{w:World}(o:Obj):∀{L:List aa} {F:aU},aN w L F->aN (w.alloc o) L ((aU.one w.heap.size o).add F)
 |[],F,s=>λn x e=>by
  unfold aU.add at e;by_cases b:n=w.heap.size
  ·subst b;rw[aU.ld]at e;simp at e;subst e;exact heap_alloc_new w o
  ·rw[aU.qM o b]at e;simp at e;have:=s n x e;have c:n<w.heap.size:=(gR.1 this).1;rw[Below.heap_alloc w o n c];exact this
 |A::L,F,⟨h,a,d,s⟩=>by
  have b:=zz s o;rw[aU.lL]at b;refine⟨h,a,?_,?_⟩
  ·rw[aU.lL];exact⟨aU.qO b.1,d⟩
  ·rw[aU.add_left_comm (aU.qO b.1)];exact BB o s
theorem alloc{w:World}{L:List aa}{F:aU}{A:aa}(o:Obj)(s:aN w L F)(a:A (aU.one w.heap.size o)):aN (w.alloc o) (A::L) F:=
 ⟨_,a,zz s o,BB o s⟩
theorem OG{w:World}{L:List aa}{F:aU}(o:Obj)(s:aN w L F):aN (w.alloc o) L F:=less (BB o s) (zz s o)
theorem drew{w:World}{L:List aa}{F:aU}(s:aN w L F):aN w.drew L F:=world (w:=w) (w':=w.drew) (λ_ _ h=>h) s
theorem front{w:World}{A:aa}{L:List aa}{F:aU}{i:Nat}(e:L[i]?=some A)(s:aN w L F):aN w (A::L.eraseIdx i) F:=pick e s
end aN
def Sub(L' L:List aa):Prop:=∀w F,aN w L F->aN w L' F
theorem Sub.refl(L:List aa):Sub L L:=λ_ _ s=>s
variable{M L' L1 As:List aa}
theorem Sub.drop{L:List aa}(A:aa)(h:Sub L' L):Sub L' (A::L):=λw F ⟨k,_,d,s⟩=>h w F (aN.less s d)
theorem Sub.cons{L:List aa}(A:aa)(h:Sub L' L):Sub (A::L') (A::L):=λw F ⟨k,a,d,s⟩=>⟨k,a,d,h w _ s⟩
theorem Sub.N2{L:List aa}{A B:aa}(b:∀x,A x->B x)(h:Sub L' L):Sub (B::L') (A::L):=λw F ⟨k,a,d,s⟩=>⟨k,b k a,d,h w _ s⟩
theorem Sub.trans{A B C:List aa}(h:Sub A B)(k:Sub B C):Sub A C:=λw F s=>h w F (k w F s)
theorem Sub.front{L:List aa}{A:aa}(i:Nat)(e:L[i]?=some A):Sub (A::L.eraseIdx i) L:=λ_ _ s=>aN.front e s
def Rest(w w':World):Prop:=w'.os=w.os/\w'.tape=w.tape/\w'.output=w.output
theorem Rest.refl(w:World):Rest w w:=⟨rfl,rfl,rfl⟩
theorem Rest.trans{a b c:World}(h:Rest a b)(k:Rest b c):Rest a c:=⟨k.1.trans h.1,k.2.1.trans h.2.1,k.2.2.trans h.2.2⟩
theorem Rest.drew{a b:World}(h:Rest a b):Rest a b.drew:=h
theorem Rest.alloc{a b:World}(h:Rest a b)(o:Obj):Rest a (b.alloc o):=h
theorem Rest.setCell{a b:World}(h:Rest a b)(p:Addr)(v:Value):Rest a (b.setCell p v):=h
def gz(D:List Deferred)(n:Nat)(a:Act)(f:Nat->Value):Prop:=a.defers=D/\a.tmps.size=n/\∀t,a.tmps.getD t undef=f t
@[reducible] def aZ(f:Nat->Value)(d:Nat)(v:Value):Nat->Value:=λt=>match Nat.beq t d with|true=>v|false=>f t
@[reducible] def aH(f:Nat->Value):Operand->Value
 | .tmp t=>f t
 | .const v=>v
 | .global g=>.pointer (some ⟨g,0,none⟩)
 | .func g=>.func (.func g) #[] #[]
theorem qc(f:Nat->Value)(d:Nat)(v:Value):aZ f d v d=v:=by simp[aZ]
theorem nC(f:Nat->Value){d t:Nat}(v:Value)(h:t≠d):aZ f d v t=f t:=by
 unfold aZ;cases hb:Nat.beq t d with
 |true=>exact absurd (mj hb) h
 |false=>simp only[hb]
theorem gz.eval{D:List Deferred}{n:Nat}{a:Act}{f:Nat->Value}(h:gz D n a f):a.eval=aH f:=by
 funext x;cases x with
 |tmp t=>exact h.2.2 t
 |_=>rfl
theorem gz.put{D:List Deferred}{n:Nat}{a:Act}{f:Nat->Value}(h:gz D n a f){d:Nat}(hd:d<n)(v:Value):gz D n (a.put (some d) v) (aZ f d v):=by
 obtain⟨e,c,g⟩:=h;refine⟨e,by simpa[Act.put]using c,λt=>?_⟩;simp only[Act.put];by_cases b:t=d
 ·subst b;rw[qc];simp[Array.getD,c,hd]
 ·rw[nC _ _ b,<-g t];simp only[uV,Ay (ur b)]
def bx:=Exit->(Nat->Value)->List aa->Prop
def gB(D:List Deferred)(n:Nat)(F:aU)(w0:World)(f0:Nat->Value)(ws:Nat->Bool)(a:Act)(w:World)(f:Nat->Value)(L:List aa):Prop:=
 Rest w0 w/\gz D n a f/\aN w L F/\∀t,ws t=false->f t=f0 t
def eN(D:List Deferred)(n:Nat)(F:aU)(w0:World)(f0:Nat->Value)(ws:Nat->Bool)(Q:bx):Exit->Act->World->Prop:=
 λe a w=>∃f L,gB D n F w0 f0 ws a w f L/\Q e f L
def jc:List Oper->List Nat
 |[]=>[]
 |o::l=>match o.dst with|some d=>d::jc l|none=>jc l
def writes:Code->List Nat
 | .region _ ops _=>jc ops.toList
 | .seq a b=>writes a++writes b
 | .cond _ a b=>writes a++writes b
 | .block _ c=>writes c
 | .loop c=>writes c
 | .scope c=>writes c
 | .rangeFunc _ _ a b=>writes a++writes b
 |_=>[]
def Cn(c:Code)(ws:Nat->Bool):Prop:=∀d,d∈writes c->ws d=true
def Ex(P:Program)(n:Nat)(c:Code)(Q:bx)(f:Nat->Value)(L:List aa):Prop:=
 ∀D F w0 f0 ws a w,gB D n F w0 f0 ws a w f L->Cn c ws->c.wp P (eN D n F w0 f0 ws Q) a w
def bI(P:Program)(n:Nat)(c:Code)(Q:bx):bx
 | .normal,f,L=>Ex P n c Q f L
 |e,f,L=>Q e f L
def bJ(a:Nat)(Q:bx):bx
 | .exit k,f,L=>match Nat.beq k a with|true=>Q .normal f L|false=>Q (.exit k) f L
 |e,f,L=>Q e f L
section
variable{P:Program}{n:Nat}{Q:bx}{f:Nat->Value}{L:List aa}
theorem Ex.mono{c:Code}{Q':bx}(h:Ex P n c Q' f L)(d:∀e f L,Q' e f L->Q e f L):Ex P n c Q f L:=λD F w0 f0 ws a w H b=>
 jo (h D F w0 f0 ws a w H b) λe a w ⟨f,L,H,q⟩=>⟨f,L,H,d e f L q⟩
theorem Ex.sub{c:Code}(h:Ex P n c Q f L')(d:Sub L' L):Ex P n c Q f L:=λD F w0 f0 ws a w ⟨r,b,s,k⟩ hc=>h D F w0 f0 ws a w ⟨r,b,d w F s,k⟩ hc
theorem Ex.seq{x y:Code}(h:Ex P n x (bI P n y Q) f L):Ex P n (.seq x y) Q f L:=λD F w0 f0 ws a w H b=>
 wp_seq (jo (h D F w0 f0 ws a w H λd hd=>b d (lk _ hd)) λe a w ⟨f,L,H,q⟩=>by
  cases e with
  |normal=>exact q D F w0 f0 ws a w H λd hd=>b d (mT _ hd)
  |_=>exact⟨f,L,H,q⟩)
theorem Ex.skip(h:Q .normal f L):Ex P n .skip Q f L:=λD F w0 f0 ws a w H b=>wp_skip ⟨f,L,H,h⟩
theorem Ex.label{l:Nat}(h:Q .normal f L):Ex P n (.label l) Q f L:=λD F w0 f0 ws a w H b=>wp_label ⟨f,L,H,h⟩
theorem Ex.exit{b:Nat}(h:Q (.exit b) f L):Ex P n (.exit b) Q f L:=λD F w0 f0 ws a w H c=>wp_exit ⟨f,L,H,h⟩
theorem Ex.ret(h:Q .ret f L):Ex P n .ret Q f L:=λD F w0 f0 ws a w H b=>wp_ret ⟨f,L,H,h⟩
theorem Ex.block{d:Nat}{c:Code}(h:Ex P n c (bJ d Q) f L):Ex P n (.block d c) Q f L:=λD F w0 f0 ws a w H g=>
 wp_block (jo (h D F w0 f0 ws a w H g) λe a w ⟨f,L,H,q⟩=>by
  cases e with
  |exit k=>
   simp only[Exit.inBlock];by_cases b:k=d
   ·rw[an b];subst b;refine⟨f,L,H,?_⟩;simp only[bJ]at q;rw[show Nat.beq k k=true by simp]at q;exact q
   ·rw[ai b];refine⟨f,L,H,?_⟩;simp only[bJ]at q;cases hb:Nat.beq k d with
    |true=>exact absurd (mj hb) b
    |false=>rw[hb]at q;exact q
  |_=>exact⟨f,L,H,q⟩)
theorem Ex.wa{c:Operand}{x y:Code}(b:aH f c=.bool true)(h:Ex P n x Q f L):Ex P n (.cond c x y) Q f L:=λD F w0 f0 ws a w H e=>
 wp_cond_true (by rw[H.2.1.eval];exact b) (h D F w0 f0 ws a w H λd hd=>e d (lk _ hd))
theorem Ex.te{c:Operand}{x y:Code}(b:aH f c=.bool false)(h:Ex P n y Q f L):Ex P n (.cond c x y) Q f L:=λD F w0 f0 ws a w H e=>
 wp_cond_false (by rw[H.2.1.eval];exact b) (h D F w0 f0 ws a w H λd hd=>e d (mT _ hd))
theorem Ex.Wt{c:Operand}{x y:Code}{b:Bool}(a:aH f c=.bool b)(e:b=true->Ex P n x Q f L)(d:b=false->Ex P n y Q f L):Ex P n (.cond c x y) Q f L:=by
 cases b with
 |true=>exact Ex.wa a (e rfl)
 |false=>exact Ex.te a (d rfl)
variable{G' p:Prop}
theorem Ex.UQ{c:Operand}{x y:Code}[i:Decidable p](a:aH f c=.bool (decide p))(d:p->Ex P n x Q f L)(b:¬p->Ex P n y Q f L):Ex P n (.cond c x y) Q f L:=
 Ex.Wt a (λh=>d (rU h)) (λh=>b (of_decide_eq_false h))
end
def lA(f:Nat->Value):List Nat->List Value->Nat->Value
 |d::ds,v::vs=>aZ (lA f ds vs) d v
 |_,_=>f
theorem oW(f:Nat->Value):∀(ds:List Nat),lA f ds (ds.map f)=f
 |[]=>rfl
 |d::ds=>by
  show aZ (lA f ds (ds.map f)) d (f d)=f;rw[oW f ds];funext t;by_cases h:t=d
  ·subst h;rw[qc]
  ·rw[nC _ _ h]
def nv(f g:Nat->Value)(ws:List Nat):Nat->Value:=λt=>match ws.any (Nat.beq t)with|true=>g t|false=>f t
theorem Og(p:Nat->Prop)(h:∃m,p m):∃m,p m/\∀k,p k->m<=k:=by
 obtain⟨m,c⟩:=h
 induction m using Nat.strongRecOn with
 |_ m ih=>
  by_cases a:∃k,k<m/\p k
  ·obtain⟨k,a,b⟩:=a;exact ih k a b
  ·refine⟨m,c,λk b=>?_⟩;rcases mY k m with h|h
   ·exact absurd ⟨k,h,b⟩ a
   ·exact h
open Classical in
noncomputable def leastOf(p:Nat->Prop):Nat:=if h:∃m,p m then Classical.choose (Og p h)else 0
theorem leastOf_spec{p:Nat->Prop}{m:Nat}(h:p m):p (leastOf p)/\leastOf p<=m:=by have hx:∃m,p m:=⟨m,h⟩;unfold leastOf;rw[BS hx];have:=E3 (Og p hx);exact⟨this.1,this.2 m h⟩
def bV(I:Nat->List Value->List aa->Prop)(m:Nat)(ss:List Nat)(Q:bx):bx
 | .normal,f,L=>∃a L',a<m/\Sub L' L/\I a (ss.map f) L'
 |e,f,L=>Q e f L
section
variable{P:Program}{n:Nat}{Q:bx}{f:Nat->Value}{L:List aa}
theorem Ex.loop{c:Code}(ss:List Nat)(I:Nat->List Value->List aa->Prop)(v:Nat)(y:I v (ss.map f) L)
  (round:∀(m:Nat) (vs:List Value) (g:Nat->Value) (L':List aa),I m vs L'->Ex P n c (bV I m ss Q) (lA (nv f g (writes c)) ss vs) L'):Ex P n (.loop c) Q f L:=λD F w0 f0 ws a w H M=>by
 let h:Act->World->Nat->Prop:=λa w m=>∃f' L',gB D n F w0 f (λt=>(writes c).any (Nat.beq t)) a w f' L'/\I m (ss.map f') L';obtain⟨r,j,s,V⟩:=H;refine jo (Q:=eN D n F w0 f (λt=>(writes c).any (Nat.beq t)) Q) ?_ ?_
 ·refine wp_loop (λa w=>∃m,h a w m) (λa w=>leastOf (h a w)) ⟨v,f,L,⟨r,j,s,λ_ _=>rfl⟩,y⟩ ?_;rintro a w ⟨m,C⟩;have W:=(leastOf_spec C).1;obtain⟨f',L',H,z⟩:=W;have S:=H.2.2.2;have e:f'=lA (nv f f' (writes c)) ss (ss.map f'):=by
   have:nv f f' (writes c)=f':=by
    funext t;unfold nv;cases hb:(writes c).any (Nat.beq t)with
    |true=>simp only[hb]
    |false=>simp only[hb];exact(S t hb).symm
   rw[this,oW]
  have o:=round _ _ f' L' z;rw[<-e]at o;refine jo (o D F w0 f _ a w H (λd hd=>by simp only[eR];exact⟨d,hd,by simp⟩)) ?_;rintro e a w ⟨b,i,H,q⟩;cases e with
  |normal=>
   obtain⟨u,x,c7,c8,A⟩:=q;have p:h a w u:=⟨b,x,⟨H.1,H.2.1,c8 w F H.2.2.1,H.2.2.2⟩,A⟩;exact⟨⟨u,p⟩,Ea (leastOf_spec p).2 c7⟩
  |_=>exact⟨b,i,H,q⟩
 ·rintro e a w ⟨b,i,⟨r,j,s,k⟩,q⟩;refine⟨b,i,⟨r,j,s,λt l=>?_⟩,q⟩;rw[<-V t l];refine k t ?_;cases hb:(writes c).any (Nat.beq t)with
  |false=>exact hb
  |true=>simp only[eR]at hb;obtain⟨d,hd,R⟩:=hb;have:=mj R;subst this;rw[M t hd]at l;cases l
theorem Ex.SE{c:Code}(ss:List Nat)(I:Nat->List Value->Prop)(a:Nat)(b:I a (ss.map f))
  (round:∀(m:Nat) (vs:List Value) (g:Nat->Value),I m vs->Ex P n c (bV (λm vs L'=>I m vs/\L'=L) m ss Q) (lA (nv f g (writes c)) ss vs) L):Ex P n (.loop c) Q f L:=
 Ex.loop ss (λm vs L'=>I m vs/\L'=L) a ⟨b,rfl⟩ λm vs g L' ⟨h,e⟩=>by subst e;exact round m vs g h
end
end Go.Proofs.YtogcfijlhpaeeaaGreat
namespace Go.Proofs.YtogcfijlhpaeeaaGreat
section
def aM(P:Program)(n:Nat)(ops:Array Oper)(l:List Oper)(Q:bx)(f:Nat->Value)(L:List aa):Prop:=
 ∀D F w0 f0 ws a w,gB D n F w0 f0 ws a w f L->(∀d,d∈jc l->ws d=true)->wpList P ops (eN D n F w0 f0 ws Q) l a w
def aP(P:Program)(o:Oper)(f:Nat->Value)(L:List aa)(v:Value):Prop:=
 ∀F w,aN w L F->(execOp (aH f) o).run P w=.ok (.value v) w
def Oy(P:Program)(o:Oper)(f:Nat->Value)(L:List aa)(R:Value->List aa->Prop):Prop:=
 ∀F w,aN w L F->∃v w' L',((execOp (aH f) o).run P w=.ok (.value v) w'\/((execOp (aH f) o).run P w=.ok .skip w'/\v=undef))/\Rest w w'/\aN w' L' F/\R v L'
def Fn(P:Program)(k:FuncId)(args:Array Value)(L:List aa)(R:Value->List aa->Prop):Prop:=
 ∀F w0 w,Rest w0 w->aN w L F->Calls P k args w λe w'=>∃v L',e=.returned v/\Rest w0 w'/\aN w' L' F/\R v L'
def cg(f:Nat->Value):Option Nat->Value->Nat->Value
 |some d,v=>aZ f d v
 |none,_=>f
def fv(n:Nat):Option Nat->Bool
 |some d=>Nat.blt d n
 |none=>true
theorem gz.mW{D:List Deferred}{n:Nat}{a:Act}{f:Nat->Value}(h:gz D n a f){d:Option Nat}(hd:fv n d=true)(v:Value):gz D n (a.put d v) (cg f d v):=by
 cases d with
 |none=>exact h
 |some d=>exact h.put (cT hd) v
section
variable{P:Program}{n:Nat}{ops:Array Oper}{Q:bx}{f:Nat->Value}{L:List aa}{o:Oper}{rest:List Oper}
theorem gB.mW{D:List Deferred}{F:aU}{w0:World}{f0:Nat->Value}{ws:Nat->Bool}{a:Act}{w w':World}{L':List aa}(h:gB D n F w0 f0 ws a w f L)(c:Rest w w')(e:aN w' L' F)
  {d:Option Nat}(hd:fv n d=true)(g:∀t,d=some t->ws t=true)(v:Value):gB D n F w0 f0 ws (a.put d v) w' (cg f d v) L':=by
 refine⟨h.1.trans c,h.2.1.mW hd v,e,λt b=>?_⟩;cases d with
 |none=>exact h.2.2.2 t b
 |some d=>
  have:t≠d:=by rintro rfl;rw[g t rfl]at b;cases b
  show aZ f d v t=_;rw[nC _ _ this];exact h.2.2.2 t b
theorem rh{d t:Nat}(hd:o.dst=some d):d∈jc (o::rest):=by simp[jc,hd]
theorem qN{t:Nat}(h:t∈jc rest):t∈jc (o::rest):=by
 unfold jc;split
 ·exact eu _ h
 ·exact h
theorem aM.nil(h:Q .normal f L):aM P n ops [] Q f L:=λD F w0 f0 ws a w H _=>wpList_nil ⟨f,L,H,h⟩
theorem Ex.region{c:Nat}(h:aM P n ops ops.toList Q f L):Ex P n (.region c ops false) Q f L:=λD F w0 f0 ws a w H b=>
 wp_region_list (h D F w0 f0 ws a w H b)
variable{ws:Nat->Bool}
variable{f0 f' mk:Nat->Value}
variable{w' w0 W:World}
theorem GV{D:List Deferred}{F:aU}{a:Act}{w:World}(H:gB D n F w0 f0 ws a w f L){j s:Nat}{b:Bool}(e:(ops[j]?).bind (·.dst)=some s)(g:Nat.blt s n=true)(d:f s=.bool b):
  yielded ops a.tmps j=some b:=by
 have h:=H.2.1.2.2 s;have c:s<a.tmps.size:=by rw[H.2.1.2.1];exact cT g
 rw[d]at h;unfold yielded;rw[e];simp only[Fg];have:a.tmps[s]?=some (.bool b):=by rw[oX c];simp[Array.getD,c]at h;rw[h]
 rw[this]
theorem oY{y:Nat->Option Bool}(a:o.guard=none):Region.wanted o y=true:=by simp[Region.wanted,a]
variable{R R':Value->List aa->Prop}
theorem aM.nQ(k:o.guard=none)(hd:fv n o.dst=true)(j:Oy P o f L R)(h:∀v L',R v L'->aM P n ops rest Q (cg f o.dst v) L'):aM P n ops (o::rest) Q f L:=by
 intro D F w0 f0 ws a w H c;refine wpList_plain k λq e=>?_;obtain⟨v,w',L',b,l,m,g⟩:=j F w H.2.2.1;have i:=H.mW l m hd (λt p=>c t (rh (t:=0) p)) v;unfold Oper.wp;rw[H.2.1.eval];rcases b with b|⟨b,rfl⟩
 ·rw[b];exact e _ _ (h v L' g D F w0 f0 ws _ _ i λd hd=>c d (qN hd))
 ·rw[b];exact e _ _ (h _ L' g D F w0 f0 ws _ _ i λd hd=>c d (qN hd))
theorem aM.val{v:Value}{d:Nat}(b:o.guard=none)(a:o.dst=some d)(hd:Nat.blt d n=true)(c:aP P o f L v)(h:aM P n ops rest Q (aZ f d v) L):aM P n ops (o::rest) Q f L:=by refine aM.nQ b (by rw[a];exact hd) (R:=λu L'=>u=v/\L'=L) (λF w s=>⟨v,w,L,.inl (c F w s),Rest.refl w,s,rfl,rfl⟩) ?_;rintro u L' ⟨rfl,rfl⟩;rw[a];exact h
theorem aM.call{fn:FuncId}{args:Array Operand}{ts:Array TypeId}(j:o.guard=none)(hd:fv n o.dst=true)(k:o.op=.call {callee:=.value (.func fn),args:=args,argTypes:=ts})
  (p:∀(xs:Array Value) (w:World),(callFunc fn xs).run P w=.ok (.enter fn xs) w){R:Value->List aa->Prop}(i:Fn P fn (args.map (aH f)) L R)(h:∀v L',R v L'->aM P n ops rest Q (cg f o.dst v) L'):aM P n ops (o::rest) Q f L:=by
 intro D F w0 f0 ws a w H b;refine wpList_plain j λs c=>?_;have hx:(execOp a.eval o).run P w=.ok (.enter fn (args.map (aH f))) w:=by rw[H.2.1.eval];unfold execOp;rw[k];simp[resolve,Deferred.ofValue,aH,invoke,p]
 unfold Oper.wp;rw[hx];show Calls P fn _ w _;refine(i F w0 w H.1 H.2.2.1).mono ?_;rintro e w' ⟨v,L',rfl,m,q,g⟩;have l:gB D n F w0 f0 ws (a.put o.dst v) w' (cg f o.dst v) L':=by have:=gB.mW (w':=w) H (Rest.refl w) H.2.2.1 hd (λt r=>b t (rh (t:=0) r)) v;exact⟨m,this.2.1,q,this.2.2.2⟩
 exact c _ _ (h v L' g D F w0 f0 ws _ _ l λd hd=>b d (qN hd))
variable{up:Bool}
theorem aM.GI{j s:Nat}{b:Bool}(i:o.guard=some (j,up))(l:(ops[j]?).bind (·.dst)=some s)(m:Nat.blt s n=true)(g:f s=.bool b)(u:(b==up)=false)(hd:fv n o.dst=true)
  (h:aM P n ops rest Q (cg f o.dst undef) L):aM P n ops (o::rest) Q f L:=by
 intro D F w0 f0 ws a w H c;have hy:=GV (ops:=ops) H l m g;refine wpList_step λr e=>?_;have q:Region.wanted o (yielded ops a.tmps)=false:=by simp only[Region.wanted,i,hy];cases b<;>cases up<;>simp_all
 rw[q];have k:=H.mW (Rest.refl w) H.2.2.1 hd (λt p=>c t (rh (t:=0) p)) undef;exact e _ _ (h D F w0 f0 ws _ _ k λd hd=>c d (qN hd))
theorem aM.tj{j s:Nat}(e:o.guard=some (j,up))(g:(ops[j]?).bind (·.dst)=some s)(i:Nat.blt s n=true)(c:f s=.bool up)
  (h:aM P n ops ({o with guard:=none}::rest) Q f L):aM P n ops (o::rest) Q f L:=by
 intro D F w0 f0 ws a w H d;have hy:=GV (ops:=ops) H g i c;have k:Region.wanted o (yielded ops a.tmps)=true:=by simp only[Region.wanted,e,hy];simp
 have b:=h D F w0 f0 ws a w H (by simpa[jc]using d);unfold wpList at b⊢
 rw[an (oY rfl)]at b;rw[an k];exact b
theorem aM.eqv(a:f=f')(h:aM P n ops rest Q f' L):aM P n ops rest Q f L:=a▸h
theorem Bk{f:Nat->Value}{s:Nat}{v:Value}(h:f s=v):f=aZ f s v:=by
 funext t;by_cases a:t=s
 ·subst a;rw[qc,h]
 ·rw[nC _ _ a]
variable{G' p:Prop}
theorem aM.Ri{j s:Nat}[i:Decidable p](d:o.guard=some (j,up))(e:(ops[j]?).bind (·.dst)=some s)(a:f s=.bool (decide p))
  (c:p->aM P n ops (o::rest) Q (aZ f s (.bool true)) L)(b:¬p->aM P n ops (o::rest) Q (aZ f s (.bool false)) L):aM P n ops (o::rest) Q f L:=by
 by_cases h:p
 ·exact aM.eqv (Bk (by rw[a,bf h])) (c h)
 ·exact aM.eqv (Bk (by rw[a,bd h])) (b h)
end
def bP(P:Program)(fn:Func)(f:Nat->Value)(L:List aa)(v:Value):Prop:=∀F w (tmps:Array Value),(∀t,tmps.getD t undef=f t)->aN w L F->(results fn tmps).run P w=.ok v w
def fin(P:Program)(fn:Func)(R:Value->List aa->Prop):bx
 | .normal,f,L| .ret,f,L=>∃v L',bP P fn f L v/\Sub L' L/\R v L'
 |_,_,_=>False
def jP(args:Array Value):Nat->Value:=λt=>args.toList.getD t undef
variable{R R':Value->List aa->Prop}
theorem Fn.FG{P:Program}{k:FuncId}{fn:Func}{c:Code}{args:Array Value}{L:List aa}{n:Nat}(p:P.funcs[k]?=some fn)(o:fn.body=some c)(u:fn.ntmps=n)(m:Nat.ble args.size n=true)
  (h:Ex P n c (fin P fn R) (jP args) L):Fn P k args L R:=by
 subst u;have m:=cT m;intro F w0 w r s;refine calls_of_wp p o ?_;have b:gz [] fn.ntmps {tmps:=args++Array.replicate (fn.ntmps-args.size) undef,defers:=[]} (jP args):=by
  refine⟨rfl,by simp;omega,λt=>?_⟩;simp only[jP,uV,cu,ua];by_cases j:t<args.size
  ·rw[tD j]
  ·rw[wC U,Ax,oM (show args.size<=t by omega)];split<;>rfl
 refine jo (h [] F w0 (jP args) (λ_=>true) _ w ⟨r,b,s,λt j=>by cases j⟩ (λ_ _=>rfl)) ?_;rintro e a w ⟨f,L',⟨r,b,s,_⟩,q⟩;cases e with
 |normal=>obtain⟨v,d,l,i,g⟩:=q;exact⟨b.1,v,l F w a.tmps b.2.2 s,v,d,rfl,r,i w F s,g⟩
 |ret=>obtain⟨v,d,l,i,g⟩:=q;exact⟨b.1,v,l F w a.tmps b.2.2 s,v,d,rfl,r,i w F s,g⟩
 |_=>exact q.elim
theorem Fn.mono{P:Program}{k:FuncId}{args:Array Value}{L:List aa}{R R':Value->List aa->Prop}(h:Fn P k args L R)(c:∀v L',R v L'->R' v L'):Fn P k args L R':=λF w0 w r s=>
 (h F w0 w r s).mono λe w' ⟨v,L',b,d,f,a⟩=>⟨v,L',b,d,f,c v L' a⟩
variable{M L' L1 As:List aa}
theorem Fn.sub{P:Program}{k:FuncId}{args:Array Value}{L:List aa}(h:Fn P k args L' R)(a:Sub L' L):Fn P k args L R:=λF w0 w r s=>h F w0 w r (a w F s)
variable{w' w0 W:World}
theorem Ps{w:World}(a:Kp w w'){L:List aa}{F:aU}(s:aN w L F):aN w' L F:=
 aN.world (λn o h=>by rw[Kp.block a n (gR.1 h).1];exact h) s
theorem SO{w:World}(a:Kp w w'):Rest w w':=⟨Below.os a,Below.tape a,Below.output a⟩
theorem Fn.ZR{P:Program}{k:FuncId}{args:Array Value}{L:List aa}{v:Value}(h:∀w,Calls P k args w λe w'=>e=.returned v/\Kp w w'):Fn P k args L λu L'=>u=v/\L'=L:=λF w0 w r s=>
 (h w).mono λe w' ⟨b,a⟩=>⟨v,L,b,r.trans (SO a),Ps a s,rfl,rfl⟩
def ng(W:World):aa:=λh=>∀n,h n=W.heap[n]?
theorem UX(W:World):aN W [ng W] (λ_=>none):=
 ⟨λn=>W.heap[n]?,λ_=>rfl,λ_=>.inr rfl,λn o e=>by unfold aU.add at e;cases hn:W.heap[n]? with|some x=>simp only[hn]at e;exact e|none=>simp only[hn]at e;cases e⟩
theorem JN{w:World}{F:aU}(s:aN w [ng W] F):∀k,k<W.heap.size->w.heap[k]?=W.heap[k]?:=by obtain⟨h,a,d,s⟩:=s;intro k b;have:=s k (W.heap[k]) (by unfold aU.add;rw[a k,oX b]);rw[this,oX b]
theorem IB{P:Program}{k:FuncId}{args:Array Value}(h:Fn P k args [ng W] λv L'=>v=.bool true/\L'=[ng W]):Calls P k args W (zq W):=
 (h (λ_=>none) W W (Rest.refl W) (UX W)).mono λe w' ⟨v,L',d,a,b,f,c⟩=>by
  subst f;subst c;refine⟨d,?_⟩;show RowKit.Below _ _ _;refine⟨a.1,a.2.1,a.2.2,?_,JN b⟩;by_cases g:W.heap.size=0
  ·omega
  ·have:=JN b (W.heap.size-1) U;rw[oX (show W.heap.size-1<W.heap.size by omega)]at this;have:=(gR.1 this).1;omega
end
section
section
variable{P:Program}{n:Nat}{ops:Array Oper}{Q:bx}{f:Nat->Value}{L:List aa}{rest:List Oper}{d:Nat}{ty:TypeId}{pos:String}{af:Array Edge}
end
section
variable{P:Program}{n:Nat}{Q:bx}{f:Nat->Value}{L:List aa}{c:Code}
theorem Ei(h:Ex P n c Q f L):bI P n c Q .normal f L:=h
theorem FK(h:Q .ret f L):bI P n c Q .ret f L:=h
theorem Gj{k:Nat}(h:Q (.exit k) f L):bI P n c Q (.exit k) f L:=h
variable{g:Nat}
theorem uG(h:Q .normal f L):bJ g Q .normal f L:=h
theorem An(h:Q .ret f L):bJ g Q .ret f L:=h
theorem B1{k:Nat}(a:Nat.beq k g=true)(h:Q .normal f L):bJ g Q (.exit k) f L:=by simp only[bJ,a];exact h
theorem DI{k:Nat}(a:Nat.beq k g=false)(h:Q (.exit k) f L):bJ g Q (.exit k) f L:=by simp only[bJ,a];exact h
variable{au:Nat->List Value->List aa->Prop}
theorem aS{m:Nat}{ss:List Nat}(h:∃a L',a<m/\Sub L' L/\au a (ss.map f) L'):bV au m ss Q .normal f L:=h
theorem BY{m:Nat}{ss:List Nat}(h:Q .ret f L):bV au m ss Q .ret f L:=h
theorem Br{m k:Nat}{ss:List Nat}(h:Q (.exit k) f L):bV au m ss Q (.exit k) f L:=h
end
end
section
def Hb(fr:Nat×Nat)(m:Nat):Prop:=∀o,o<m->¬(fr.1<=o/\o<fr.2)
def ao(g:Nat)(t:TypeId)(cs:List Value):aa:=λh=>∃fr,Hb fr cs.length/\h=aU.one g (.cells cs.toArray t fr)
def Row(v:Value)(t:TypeId)(sz k:Nat)(cs:List Value):aa:=λh=>cs.length=k*sz/\
 ((k=0/\(∃b,v=.slice b 0 0)/\h=λ_=>none)\/
  ∃g a c,v=.slice (some ⟨g,0,none⟩) k a/\h=aU.one g (.cells c t (0,0))/\k<=a/\a<=maxLen/\c.size=a*sz/\c.toList.take (k*sz)=cs)
variable{g:Nat}
theorem xm{w:World}{o:Nat}{c:Array Value}{t:TypeId}{fr:Nat×Nat}(h:w.heap[g]?=some (.cells c t fr)):w.cell? ⟨g,o,none⟩=c[o]?:=by simp[World.cell?,h]
theorem Eh{w:World}{o:Nat}{c:Array Value}{t:TypeId}{fr:Nat×Nat}(h:w.heap[g]?=some (.cells c t fr)):w.frozen? ⟨g,o,none⟩=(decide (fr.1<=o)&&decide (o<fr.2)):=by simp[World.frozen?,h]
theorem iY(g o m:Nat):(⟨g,o,none⟩:Addr).add m=⟨g,o+m,none⟩:=by unfold Addr.add;split<;>simp_all
theorem we(a:Addr)(m k:Nat):(a.add m).add k=a.add (m+k):=by unfold Addr.add;by_cases b:m=0<;>by_cases c:k=0<;>simp[b,c]<;>omega
section
variable{P:Program}{L:List aa}{F:aU}{w:World}
theorem KX{i:Nat}{t:TypeId}{cs:List Value}(hi:L[i]?=some (ao g t cs))(s:aN w L F):∃fr,Hb fr cs.length/\w.heap[g]?=some (.cells cs.toArray t fr):=by obtain⟨h,⟨fr,a,rfl⟩,d,b⟩:=aN.pick hi s;exact⟨fr,a,aN.qP b g _ (aU.ld g _)⟩
theorem jz{i o:Nat}{t:TypeId}{cs:List Value}{v:Value}(hi:L[i]?=some (ao g t cs))(a:cs[o]?=some v)(s:aN w L F):w.cell? ⟨g,o,none⟩=some v:=by obtain⟨fr,_,h⟩:=KX hi s;rw[xm h];simpa using a
theorem wQ(w:World)(a:Addr)(v:Value)(k:Nat):(w.setCell a v).heap[k]?=if k=a.block then(w.heap[k]?).map (λo=>match o with| .cells c elem fr=>.cells (if a.spot.isSome then c else c.setIfInBounds a.off v) elem fr|o=>o)else w.heap[k]?:=by
 simp only[World.setCell,qG];by_cases h:a.block=k
 ·subst h;simp;rfl
 ·rw[ai h,ai (λe=>h e.symm)]
theorem tU{i o:Nat}{t:TypeId}{cs:List Value}(v:Value)(hi:L[i]?=some (ao g t cs))(k:o<cs.length)(s:aN w L F):aN (w.setCell ⟨g,o,none⟩ v) (L.set i (ao g t (cs.set o v))) F:=by
 obtain⟨h,⟨fr,c,rfl⟩,d,b⟩:=aN.pick hi s;have f:=aN.qP b g _ (aU.ld g _);have j:i<L.length:=(iA.1 hi).1;have hd:(aU.one g (.cells (cs.set o v).toArray t fr)).iN F:=by
  intro n;by_cases a:n=g
  ·subst a;rcases d n with x|x
   ·rw[aU.ld]at x;cases x
   ·exact .inr x
  ·exact .inl (aU.qM _ a)
 refine aN.put j ⟨fr,by simpa using c,rfl⟩ hd ?_;refine aN.swap (w:=w) (h:=aU.one g (.cells cs.toArray t fr)) ?_ ?_ ?_ d b
 ·intro n a;by_cases e:n=g
  ·subst e;rw[aU.ld]at a;cases a
  ·exact aU.qM _ e
 ·intro n x a hx;have e:n≠g:=by rintro rfl;rw[aU.ld]at a;cases a
  rw[wQ,ai e];exact hx
 ·intro n x hx;by_cases e:n=g
  ·subst e;rw[aU.ld]at hx;cases hx;rw[wQ,an rfl,f];simp
  ·rw[aU.qM _ e]at hx;cases hx
theorem wN{i o:Nat}{t:TypeId}{cs:List Value}(hi:L[i]?=some (ao g t cs))(b:o<cs.length)(s:aN w L F):w.frozen? ⟨g,o,none⟩=false:=by obtain⟨fr,a,h⟩:=KX hi s;rw[Eh h];have:=a o b;simp;omega
theorem rp{i:Nat}{v:Value}{t:TypeId}{sz k:Nat}{cs:List Value}(hi:L[i]?=some (Row v t sz k cs))(s:aN w L F):cs.length=k*sz/\
  ((k=0/\∃b,v=.slice b 0 0)\/∃g a c,v=.slice (some ⟨g,0,none⟩) k a/\w.heap[g]?=some (.cells c t (0,0))/\k<=a/\a<=maxLen/\c.size=a*sz/\c.toList.take (k*sz)=cs):=by
 obtain⟨h,⟨m,l⟩,d,n⟩:=aN.pick hi s;refine⟨m,?_⟩;rcases l with⟨e,f,_⟩|⟨g,a,c,e,rfl,j⟩
 ·exact .inl ⟨e,f⟩
 ·exact .inr ⟨g,a,c,e,aN.qP n g _ (aU.ld g _),j⟩
theorem RR{i:Nat}{v:Value}{t:TypeId}{sz k:Nat}{cs:List Value}(hi:L[i]?=some (Row v t sz k cs))(s:aN w L F):Sl w v sz k cs:=by
 obtain⟨j,h⟩:=rp hi s;exact Own.sl (base:=0) (e:=t) ⟨j,by
  rcases h with h|⟨g,a,b,c,d,f⟩
  ·exact .inl h
  ·exact .inr ⟨g,a,b,c,eM _,d,f⟩⟩
end
def Rd(L:List aa)(v:Value)(sz k:Nat)(cs:List Value):Prop:=∀w F,aN w L F->Sl w v sz k cs
section
variable{L:List aa}{v:Value}{sz k:Nat}{cs:List Value}
theorem Vh{t:TypeId}(i:Nat)(hi:L[i]?=some (Row v t sz k cs)):Rd L v sz k cs:=λw F s=>RR hi s
variable{M L' L1 As:List aa}
theorem ZJ(h:Rd L' v sz k cs)(a:Sub L' L):Rd L v sz k cs:=λw F s=>h w F (a w F s)
variable{w' w0 W:World}
theorem RN{w:World}(h:Sl w v sz k cs)(o:∀n,n<w.heap.size->w'.heap[n]?=w.heap[n]?):Sl w' v sz k cs:=by obtain⟨d,a,c,e,f,g,i,l⟩:=h;refine⟨d,a,c,e,f,g,i,λb m j u p=>?_⟩;have:=l b m j u p;rw[<-this];exact World.cell?_of_block (w:=w) (o _ (World.block_lt_of_cell? w _ this))
theorem QN(i:Nat)(hi:L[i]?=some (ng W))(h:Sl W v sz k cs):Rd L v sz k cs:=λw F s=>by obtain⟨x,a,d,c⟩:=aN.pick hi s;refine RN h λn b=>?_;have:=aN.qP c n (W.heap[n]) (by rw[a n,oX b]);rw[this,oX b]
theorem XH(L:List aa)(sz:Nat):Rd L (.slice none 0 0) sz 0 []:=λw F s=>Sl.nil w sz
end
end
section
def cR(P:Program)(t:TypeId):Option Bool:=match P.underlying t with
 |some (.struct _)|some (.array _ _)=>some true
 |some _=>some false
 |none=>none
def fI(P:Program)(t:TypeId):Option (List Value):=((P.info? t).bind (·.zero)).map (·.cells.toList)
def vj(P:Program)(s:TypeId)(i:Nat):Option Nat:=match P.underlying s with
 |some (.struct fs)=>match fs[i]? with
  |some fd=>if P.cellsOf fd.type=0 then none else some fd.offset
  |none=>none
 |_=>none
section
variable{P:Program}(w:World)
theorem sM{t:TypeId}{b:Bool}(h:cR P t=some b):(isAgg t).run P w=.ok b w:=by
 unfold cR at h;cases hu:P.underlying t with
 |none=>rw[hu]at h;cases h
 |some d=>rw[hu]at h;cases d<;>simp at h<;>subst h<;>simp[isAgg,cX hu]
theorem gQ{t:TypeId}{s:Nat}(h:P.cellsOf t=s)(a:0<s):(sizeOf t).run P w=.ok s w:=by
 unfold Program.cellsOf at h;cases hi:P.info? t with
 |none=>rw[hi]at h;simp at h;omega
 |some i=>rw[hi]at h;simp at h;simp[sizeOf,typeInfo,hi,h]
variable{zs us fs:List Value}
theorem vZ{t:TypeId}(h:fI P t=some zs):∃z,(zeroValue t).run P w=.ok z w/\z.cells=zs.toArray:=by
 unfold fI at h;cases hi:P.info? t with
 |none=>rw[hi]at h;simp at h
 |some i=>rw[hi]at h;simp at h;obtain⟨z,a,rfl⟩:=h;exact⟨z,by simp[zeroValue,typeInfo,hi,a],by simp⟩
theorem zl(t:TypeId)(v:Value):(newVar t v).run P w=.ok ⟨w.heap.size,0,none⟩ (w.alloc (.cells v.cells t)):=by simp[newVar,newRow]
theorem ug{t:TypeId}{a:Addr}{v:Value}(b:cR P t=some false)(c:w.cell? a=some v):(loadVar t a).run P w=.ok v w:=by simp[loadVar,sM w b,c]
theorem vC{t:TypeId}{a:Addr}{cs:List Value}(b:cR P t=some true)(e:P.cellsOf t=cs.length)(d:0<cs.length)(c:∀j v,cs[j]?=some v->w.cell? (a.add j)=some v):(loadVar t a).run P w=.ok (.agg cs.toArray) w:=by simp[loadVar,sM w b,gQ w e d,run_loadCells_list w a cs c]
theorem Jf{s:TypeId}{i off:Nat}{a:Addr}(h:vj P s i=some off):(Instr.fieldAt s (.pointer (some a)) i).run P w=.ok (.pointer (some (a.add off))) w:=by
 unfold vj at h;cases hu:P.underlying s with
 |none=>rw[hu]at h;cases h
 |some d=>
  rw[hu]at h;cases d with
  |struct fs=>
   simp only at h;cases hf:fs[i]? with
   |none=>rw[hf]at h;cases h
   |some fd=>
    rw[hf]at h;simp only at h;by_cases b:P.cellsOf fd.type=0
    ·rw[an b]at h;cases h
    ·rw[ai b]at h;cases h;have:=gQ (P:=P) w (t:=fd.type) rfl U;simp[Instr.fieldAt,cX hu,hf,Instr.sureAddr,fieldPlace,this,b]
  |_=>cases h
end
section
variable{P:Program}{n:Nat}{ops:Array Oper}{Q:bx}{f:Nat->Value}{L:List aa}{rest:List Oper}{d:Nat}{ty:TypeId}{pos:String}{af:Array Edge}
variable{zs us fs:List Value}
theorem Vd{e:TypeId}(hd:Nat.blt d n=true)(c:fI P e=some zs)(h:∀g,aM P n ops rest Q (aZ f d (.pointer (some ⟨g,0,none⟩))) (ao g e zs::L)):
  aM P n ops (⟨some d,.alloc e,ty,pos,af,none⟩::rest) Q f L:=by
 refine aM.nQ rfl hd (R:=λv L'=>∃g,v=.pointer (some ⟨g,0,none⟩)/\L'=ao g e zs::L) (λF w s=>?_) ?_
 ·obtain⟨z,b,a⟩:=vZ w c;refine⟨_,w.alloc (.cells z.cells e),_,.inl (by simp[execOp,Instr.alloc,b,zl]),Rest.refl w,aN.alloc _ s (A:=ao w.heap.size e zs) ⟨(0,0),λo _=>by simp,by rw[a]⟩,w.heap.size,rfl,rfl⟩
 ·rintro v L' ⟨g,rfl,rfl⟩;exact h g
theorem Hu{e:TypeId}{x:Operand}{v:Value}{cs:List Value}(hd:Nat.blt d n=true)(hx:aH f x=v)(a:v.cells.toList=cs)(h:∀g,aM P n ops rest Q (aZ f d (.pointer (some ⟨g,0,none⟩))) (ao g e cs::L)):
  aM P n ops (⟨some d,.box e x,ty,pos,af,none⟩::rest) Q f L:=by
 refine aM.nQ rfl hd (R:=λv L'=>∃g,v=.pointer (some ⟨g,0,none⟩)/\L'=ao g e cs::L) (λF w s=>?_) ?_
 ·refine⟨_,w.alloc (.cells v.cells e),_,.inl (by simp[execOp,Instr.box,hx,zl]),Rest.refl w,aN.alloc _ s (A:=ao w.heap.size e cs) ⟨(0,0),λo _=>by simp,by rw[<-a]⟩,w.heap.size,rfl,rfl⟩
 ·rintro v L' ⟨g,rfl,rfl⟩;exact h g
theorem Cd{l:List Value}{o m j:Nat}{v:Value}(h:((l.drop o).take m)[j]?=some v):l[o+j]?=some v:=by
 rw[mz]at h;split at h
 ·rwa[tg]at h
 ·cases h
variable{M L' L1 As:List aa}
variable{g:Nat}
variable{bt:TypeId}
theorem Gw(i:Nat){t:TypeId}{x y:Operand}{o:Nat}{cs:List Value}{v:Value}(hx:aH f x=.pointer (some ⟨g,o,none⟩))(hy:aH f y=v)(c:v.oneCell'=true)(hi:L[i]?=some (ao g bt cs))(m:P.cellsOf t=1)
  (a:Nat.blt o cs.length=true)(d:L.set i (ao g bt (cs.set o v))=L')(h:aM P n ops rest Q f L'):aM P n ops (⟨none,.store t x y,ty,pos,af,none⟩::rest) Q f L:=by
 have a:=cT a;refine aM.nQ rfl rfl (R:=λ_ b=>b=L') (λF w s=>?_) (λv b e=>by subst e;exact h);have j:w.cell? ⟨g,o,none⟩=some cs[o]:=jz hi (gV a) s;have l:=wN hi a s;have k:v.cells=#[v]:=by cases v<;>first|rfl|(simp[Value.oneCell']at c)
 refine⟨_,w.setCell ⟨g,o,none⟩ v,_,.inr ⟨?_,rfl⟩,Rest.refl w,?_,rfl⟩
 ·simp[execOp,hx,hy,Instr.storeAt,Instr.sureAddr,storeVar,k,gQ w m U,storeCells,run_store P w _ v _ c,iY,j,l]
 ·rw[<-d];exact tU v hi a s
theorem EW(cs:List Value)(o:Nat)(v:Value)(vs:List Value)(h:o+(vs.length+1)<=cs.length):
  (cs.set o v).take (o+1)++vs++(cs.set o v).drop (o+1+vs.length)=cs.take o++(v::vs)++cs.drop (o+(vs.length+1)):=list_seg_step cs o v vs h
theorem ET{i g:Nat}{bt:TypeId}{F:aU}:∀(vs:List Value) (j o:Nat) (w:World) (L:List aa) (cs:List Value),L[i]?=some (ao g bt cs)->o+j+vs.length<=cs.length->(∀v∈vs,v.oneCell'=true)->aN w L F->
  ∃w',(storeCells ⟨g,o,none⟩ vs j).run P w=.ok () w'/\Rest w w'/\aN w' (L.set i (ao g bt (cs.take (o+j)++vs++cs.drop (o+j+vs.length)))) F
 |[],j,o,w,L,cs,hi,hl,h1,s=>by
  refine⟨w,by simp[storeCells],Rest.refl w,?_⟩;have:L.set i (ao g bt (cs.take (o+j)++[]++cs.drop (o+j+([]:List Value).length)))=L:=by
   simp only[ck,jx,tn,mi];exact ux λk=>by
    rw[yS];split
    ·rename_i h;subst h;rw[hi];split
     ·rfl
     ·rename_i hx;rw[pG U]at hi;cases hi
    ·rfl
  rw[this];exact s
 |v::vs,j,o,w,L,cs,hi,hl,h1,s=>by
  simp at hl;have a:o+j<cs.length:=U;have c:w.cell? ⟨g,o+j,none⟩=some cs[o+j]:=jz hi (gV a) s;have d:=wN hi a s;have n:=tU v hi a s;have f:i<L.length:=(iA.1 hi).1;obtain⟨w',l,m,b⟩:=ET (i:=i) (g:=g) (bt:=bt) vs (j+1) o (w.setCell ⟨g,o+j,none⟩ v) (L.set i (ao g bt (cs.set (o+j) v))) (cs.set (o+j) v) (by simp[f]) (by simp;omega) (λu p=>h1 u (eu _ p)) n;refine⟨w',?_,m,?_⟩
  ·simp[storeCells,iY,run_store P w _ v _ (h1 v (fP ..)),c,d,l]
  ·rw[pD]at b;have e:=EW cs (o+j) v vs U;rw[show o+(j+1)=o+j+1 by omega,e]at b;simpa using b
theorem FH(i:Nat){t:TypeId}{x y:Operand}{o:Nat}{cs vs:List Value}(hx:aH f x=.pointer (some ⟨g,o,none⟩))(hy:aH f y=.agg vs.toArray)(d:vs.all Value.oneCell'=true)(hi:L[i]?=some (ao g bt cs))(k:P.cellsOf t=vs.length)
  (c:Nat.blt 0 vs.length=true)(a:Nat.ble (o+vs.length) cs.length=true)(j:L.set i (ao g bt (cs.take o++vs++cs.drop (o+vs.length)))=L')(h:aM P n ops rest Q f L'):aM P n ops (⟨none,.store t x y,ty,pos,af,none⟩::rest) Q f L:=by
 have a:=cT a;have c:=cT c;refine aM.nQ rfl rfl (R:=λ_ b=>b=L') (λF w s=>?_) (λv b e=>by subst e;exact h);obtain⟨w',l,m,p⟩:=ET (P:=P) vs 0 o w L cs hi (by simpa using a) (by simpa using d) s;refine⟨_,w',_,.inr ⟨?_,rfl⟩,m,p,by simpa using j⟩;simp[execOp,hx,hy,Instr.storeAt,Instr.sureAddr,storeVar,Value.cells,gQ w k U,l]
variable{r b j h:Int}
theorem VI{w:World}{t e:TypeId}{o m sz:Nat}{k:IntKind}(f:P.underlying t=some (.array m e))(d:P.cellsOf e=sz)(c:0<sz)(a:0<=j)(b:j<m):
  (Instr.indexAt t (.pointer (some ⟨g,o,none⟩)) (.int k j)).run P w=.ok (.pointer (some ⟨g,o+j.toNat*sz,none⟩)) w:=by
 simp[Instr.indexAt,cX f,asIntOf,Instr.sureAddr,a,b,gQ w d c,iY]
end
end
section
class ab(α:Type) where
 sz:Nat
 cells:α->List Value
 pos:0<sz
 len:∀a,(cells a).length=sz
 one:∀a,(cells a).all Value.oneCell'=true
instance:ab UInt8:=⟨1,λb=>[.int .u8 b.toNat],by decide,λ_=>rfl,λ_=>rfl⟩
instance:ab Int:=⟨1,λn=>[.int .i64 n],by decide,λ_=>rfl,λ_=>rfl⟩
instance:ab Bool:=⟨1,λn=>[.bool n],by decide,λ_=>rfl,λ_=>rfl⟩
structure bQ where
 l:List UInt8
@[reducible] def S(l:List UInt8):ByteArray:=⟨l.toArray⟩
instance:ab bQ:=⟨1,λt=>[.string (S t.l)],by decide,λ_=>rfl,λ_=>rfl⟩
def cellsOf{α:Type}[ab α](xs:List α):List Value:=xs.flatMap ab.cells
theorem cN{α:Type}[ab α](xs:List α):(cellsOf xs).length=xs.length*ab.sz α:=by
 induction xs with
 |nil=>simp[cellsOf]
 |cons a xs ih=>
  simp only[cellsOf,uT,bo,dL,ab.len]at ih⊢
  rw[ih,jr];omega
theorem nR{α:Type}[ab α](xs ys:List α):cellsOf (xs++ys)=cellsOf xs++cellsOf ys:=by simp[cellsOf]
theorem uy{α:Type}[ab α](xs:List α):∀u∈cellsOf xs,u.oneCell'=true:=by intro u b;simp only[cellsOf,Db]at b;obtain⟨a,_,c⟩:=b;exact kW.1 (ab.one a) u c
theorem td{α:Type}[ab α](xs:List α)(i:Nat):(cellsOf xs).drop (i*ab.sz α)=cellsOf (xs.drop i):=by
 induction xs generalizing i with
 |nil=>simp[cellsOf]
 |cons a xs ih=>
  cases i with
  |zero=>simp
  |succ i=>have:(ab.cells a).length=ab.sz α:=ab.len a;rw[show cellsOf (a::xs)=ab.cells a++cellsOf xs from by simp[cellsOf],FQ,this,pk (by rw[this,jr];omega),lG];rw[show(i+1)*ab.sz α-ab.sz α=i*ab.sz α by rw[jr];omega,ih];rfl
theorem rf{α:Type}[ab α](xs:List α)(i:Nat):(cellsOf xs).take (i*ab.sz α)=cellsOf (xs.take i):=by
 induction xs generalizing i with
 |nil=>simp[cellsOf]
 |cons a xs ih=>
  cases i with
  |zero=>simp[cellsOf]
  |succ i=>have:(ab.cells a).length=ab.sz α:=ab.len a;rw[show cellsOf (a::xs)=ab.cells a++cellsOf xs from by simp[cellsOf],DZ,this,ic (by rw[this,jr];omega)];rw[show(i+1)*ab.sz α-ab.sz α=i*ab.sz α by rw[jr];omega,ih];simp[cellsOf]
theorem AN{α:Type}[ab α]{xs:List α}{i o:Nat}(hi:i<xs.length)(b:o<ab.sz α):(cellsOf xs)[i*ab.sz α+o]?=(ab.cells (xs[i]'hi))[o]?:=by
 have h:=td xs i;have a:((cellsOf xs).drop (i*ab.sz α))[o]?=(cellsOf (xs.drop i))[o]?:=by rw[h]
 rw[tg]at a;rw[a,vV hi];rw[show∀ys:List α,cellsOf ((xs[i]'hi)::ys)=ab.cells (xs[i]'hi)++cellsOf ys fromλys=>by simp[cellsOf]];rw[qH (by rw[ab.len];exact b)]
def aI{α:Type}[ab α](L:List aa)(v:Value)(xs:List α):Prop:=Rd L v (ab.sz α) xs.length (cellsOf xs)
def aK{α:Type}[ab α](v:Value)(t:TypeId)(xs:List α):aa:=Row v t (ab.sz α) xs.length (cellsOf xs)
theorem Sub.nil(L:List aa):Sub [] L:=λw F s=>aN.frame s
section
variable{α:Type}[ab α]{L:List aa}{v:Value}{xs:List α}
theorem aI.row{t:TypeId}(i:Nat)(hi:L[i]?=some (aK v t xs)):aI L v xs:=Vh i hi
variable{M L' L1 As:List aa}
theorem aI.sub(h:aI L' v xs)(a:Sub L' L):aI L v xs:=ZJ h a
theorem aI.nil(L:List aa):aI L (.slice none 0 0) ([]:List α):=XH L _
variable{w' w0 W:World}
theorem aI.base(i:Nat)(hi:L[i]?=some (ng W))(h:Sl W v (ab.sz α) xs.length (cellsOf xs)):aI L v xs:=QN i hi h
end
def fM(v:Value)(m:Nat):Value:=match v with
 | .slice (some a) _ _=>.pointer (some (a.add m))
 |_=>undef
def bg(v:Value)(l h sz:Nat):Value:=match v with
 | .slice a n c=>.slice (if c=l then a else a.map (·.add (l*sz))) (h-l) (c-l)
 |u=>u
def bR(v:Value)(l h m sz:Nat):Value:=match v with
 | .slice a n c=>.slice (if m=l then a else a.map (·.add (l*sz))) (h-l) (m-l)
 |u=>u
theorem Nk{w:World}{v:Value}{sz k:Nat}{cs:List Value}(t:Sl w v sz k cs){l h m:Nat}(s:∀a n c,v=.slice a n c->m<=c)(r:l<=h)(q:h<=k)(p:h<=m):
  Sl w (bR v l h m sz) sz (h-l) ((cs.drop (l*sz)).take ((h-l)*sz)):=by
 obtain⟨x,a,i,rfl,y,z,e,o⟩:=t;have C:=s a k i rfl;have F:h*sz<=k*sz:=iW _ q;have H:l*sz<=h*sz:=iW _ r;have A:(h-l)*sz=h*sz-l*sz:=Nat.sub_mul _ _ _;refine⟨by simp;omega,(if m=l then a else a.map (·.add (l*sz))),m-l,rfl,U,U,?_,?_⟩
 ·intro b;split at b
  ·have:=e b;omega
  ·cases a with
   |none=>have:=e rfl;omega
   |some g=>simp at b
 ·intro g b j u d;by_cases f:m=l
  ·rw[f]at p;have:h-l=0:=U;rw[this]at d;simp at d
  ·rw[ai f]at b;cases a with
   |none=>simp at b
   |some a0=>simp at b;subst b;rw[we];exact o a0 rfl _ _ (Cd d)
theorem AV{w:World}{v:Value}{sz k:Nat}{cs:List Value}(f:Sl w v sz k cs):∃a c,v=.slice a k c/\k<=c/\c<=maxLen:=by obtain⟨g,a,b,rfl,d,e,h,i⟩:=f;exact⟨a,b,rfl,d,e⟩
theorem Us(v:Value)(l h sz:Nat):∀a n c,v=.slice a n c->bg v l h sz=bR v l h c sz:=by rintro a n c rfl;rfl
theorem XU{L:List aa}{v:Value}{sz k:Nat}{cs:List Value}(g:Rd L v sz k cs){l h:Nat}(f:l<=h)(d:h<=k):Rd L (bg v l h sz) sz (h-l) ((cs.drop (l*sz)).take ((h-l)*sz)):=λw F s=>by have b:=g w F s;obtain⟨a,c,rfl,j,_⟩:=AV b;rw[Us _ _ _ _ a k c rfl];exact Nk b (by rintro i m c' e;cases e;exact bj _) f d U
theorem Ui{L:List aa}{v:Value}{sz k:Nat}{cs:List Value}(g:Rd L v sz k cs){l h m:Nat}(d:l<=h)(f:h<=m)(j:m<=k):Rd L (bR v l h m sz) sz (h-l) ((cs.drop (l*sz)).take ((h-l)*sz)):=λw F s=>by have b:=g w F s;obtain⟨a,c,rfl,n,_⟩:=AV b;exact Nk b (by rintro i o c' e;cases e;omega) d U f
section
variable{α:Type}[ab α]{L:List aa}{v:Value}{xs:List α}
theorem IT(l h:Nat):((cellsOf xs).drop (l*ab.sz α)).take ((h-l)*ab.sz α)=cellsOf ((xs.drop l).take (h-l)):=by rw[td,rf]
theorem aI.bg(c:aI L v xs){l h:Nat}(b:l<=h)(a:h<=xs.length):aI L (Go.Proofs.YtogcfijlhpaeeaaGreat.bg v l h (ab.sz α)) ((xs.drop l).take (h-l)):=by have:=XU c b a;rw[IT]at this;unfold aI;rwa[show((xs.drop l).take (h-l)).length=h-l by simp;omega]
theorem aI.bR(d:aI L v xs){l h m:Nat}(b:l<=h)(c:h<=m)(a:m<=xs.length):aI L (Go.Proofs.YtogcfijlhpaeeaaGreat.bR v l h m (ab.sz α)) ((xs.drop l).take (h-l)):=by have:=Ui d b c a;rw[IT]at this;unfold aI;rwa[show((xs.drop l).take (h-l)).length=h-l by simp;omega]
end
section
variable{P:Program}{n:Nat}{ops:Array Oper}{Q:bx}{f:Nat->Value}{L:List aa}{rest:List Oper}{d:Nat}{ty:TypeId}{pos:String}{af:Array Edge}
variable{α:Type}[ab α]{v:Value}{xs:List α}
theorem vG{w:World}(e:Sl w v (ab.sz α) xs.length (cellsOf xs)){i:Nat}(hi:i<xs.length):∃a c,v=.slice (some a) xs.length c/\∀j u,(cellsOf xs)[j]?=some u->w.cell? (a.add j)=some u:=by
 obtain⟨g,a,c,rfl,f,h,d,b⟩:=e;cases a with
 |none=>have:=d rfl;omega
 |some ad=>exact⟨ad,c,rfl,b ad rfl⟩
end
end
section
variable{A0 A1 A2 A3 A4 A5:aa}
theorem aN.KW{w:World}{L:List aa}{F:aU}{A:aa}{i:Nat}(o:Obj)(hi:L[i]?=some A)(s:aN w L F)(c:A0 (aU.one w.heap.size o)):aN (w.alloc o) (L.set i A0) F:=by obtain⟨h,a,d,e⟩:=aN.pick hi s;have b:=aN.less e d;exact aN.put (iA.1 hi).1 c (aN.zz b o) (aN.BB o b)
theorem uA{α:Type}{l:List α}{i:Nat}{a:α}(h:l[i]?=some a):l.set i a=l:=by
 apply ux;intro k;rw[yS];split
 ·rename_i b;subst b;rw[h];split
  ·rfl
  ·rename_i hx;rw[pG U]at h;cases h
 ·rfl
variable{o' o1 o2:Obj}
variable{g:Nat}
variable{w' w0 W:World}
theorem aN.rewrite{w:World}{L:List aa}{F:aU}{i:Nat}{o:Obj}(hi:i<L.length)(hd:(aU.one g o).iN F)(s:aN w (L.eraseIdx i) ((aU.one g o).add F))(b:A0 (aU.one g o'))
  (d:∀n,n≠g->w'.heap[n]?=w.heap[n]?)(c:w'.heap[g]?=some o'):aN w' (L.set i A0) F:=by
 refine aN.put hi b ?_ (aN.swap (w:=w) (h:=aU.one g o) ?_ ?_ ?_ hd s)
 ·intro n;by_cases a:n=g
  ·subst a;rcases hd n with x|x
   ·rw[aU.ld]at x;cases x
   ·exact .inr x
  ·exact .inl (aU.qM _ a)
 ·intro n a;by_cases e:n=g
  ·subst e;rw[aU.ld]at a;cases a
  ·exact aU.qM _ e
 ·intro n x a hx;have e:n≠g:=by rintro rfl;rw[aU.ld]at a;cases a
  rw[d n e];exact hx
 ·intro n x hx;by_cases e:n=g
  ·subst e;rw[aU.ld]at hx;cases hx;exact c
  ·rw[aU.qM _ e]at hx;cases hx
theorem setRow_other(w:World)(g:Nat)(c:Array Value){n:Nat}(h:n≠g):(w.setRow g c).heap[n]?=w.heap[n]?:=by simp only[World.setRow,qG];rw[ai (λe=>h e.symm)]
variable{zs us fs:List Value}
theorem AT{P:Program}{e:TypeId}{sz by_:Nat}(a:P.cellsOf e=sz)(d:0<sz)(c:P.bytesOf e=by_)(b:fI P e=some zs):∃i z,P.info? e=some i/\i.size=sz/\i.bytes=by_/\i.zero=some z/\z.cells=zs.toArray:=by
 unfold Program.cellsOf at a;unfold Program.bytesOf at c;unfold fI at b;cases hi:P.info? e with
 |none=>rw[hi]at a;simp at a;omega
 |some i=>rw[hi]at a c b;simp at a c b;obtain⟨z,b,rfl⟩:=b;exact⟨i,z,rfl,a,c,b,by simp⟩
section
variable{P:Program}{α:Type}[ab α]{L:List aa}{F:aU}{w:World}
variable{u vl dv vt v1:Value}
theorem MI{i:Nat}{v:Value}{t ty e:TypeId}{xs ys:List α}{sz by_:Nat}(hi:L[i]?=some (aK v e xs))(hr:aI L u ys)(o:P.underlying t=some (.slice e))
  (hs:P.cellsOf e=sz)(d:ab.sz α=sz)(j8:P.bytesOf e=by_)(j7:0<by_)(hz:fI P e=some zs)(w8:zs.length=sz)(hb:(xs.length+ys.length)*by_<=140737488355328)(s:aN w L F):
  ∃v' w',(Builtin.append_ #[t,t] ty #[v,u]).run P w=.ok v' w'/\Rest w w'/\aN w' (L.set i (aK v' e (xs++ys))) F:=by
 have hp:0<sz:=by rw[<-d];exact ab.pos
 obtain⟨f,z,l,H,d9,c8,w6⟩:=AT hs hp j8 hz;have m9:i<L.length:=(iA.1 hi).1;have r0:=hr w F s;obtain⟨m,a,r,rfl,z7,y7,j5,l8⟩:=r0;obtain⟨u4,W⟩:=rp hi s;rw[d]at m u4 W;have y9:xs.length+ys.length<=140737488355328:=by have:(xs.length+ys.length)*1<=(xs.length+ys.length)*by_:=Nat.mul_le_mul_left _ j7;omega
 have j4:=uy ys;have w7:z.cells.size=sz:=by rw[w6];simpa using w8
 by_cases hm:ys.length=0
 ·have u9:ys=[]:=dZ hm;subst u9;refine⟨v,w,?_,Rest.refl w,?_⟩
  ·rcases W with⟨h0,b,rfl⟩|⟨g,c2,x,rfl,p,q,M,j0,V⟩
   ·cases b<;>cases a<;>simp[Builtin.append_,cX o,sizeOf,typeInfo,l,Builtin.lenOf,Builtin.firstCells,loadCells,loadCellsFrom,storeCells]
   ·cases a<;>simp[Builtin.append_,cX o,sizeOf,typeInfo,l,Builtin.lenOf,Builtin.firstCells,loadCells,loadCellsFrom,storeCells,q]
  ·rw[ck,uA hi];exact s
 ·cases a with
  |none=>exact absurd (j5 rfl) U
  |some ad=>
   have C:=l8 ad rfl;rw[<-H]at m;have d6:∀(k c:Nat) (c9:List Value),k=xs.length->c9=cellsOf xs->c<k+ys.length->
     ∃w',w'=w.drew.alloc (.cells (c9.toArray++(cellsOf ys).toArray++Builtin.zeroCells z.cells (grownCap w (k+ys.length) c e-(k+ys.length))) e)/\
     Rest w w'/\aN w' (L.set i (aK (.slice (some ⟨w.heap.size,0,none⟩) (k+ys.length) (grownCap w (k+ys.length) c e)) e (xs++ys))) F:=by
    intro k c c9 q ho M;refine⟨_,rfl,Rest.refl w,?_⟩;have m8:=grownCap_ge w (k+ys.length) c e;have l9:grownCap w (k+ys.length) c e<=maxLen:=grownCap_le_maxLen w (k+ys.length) c e (by unfold maxLen;omega);refine aN.KW (w:=w.drew) _ hi (aN.drew s) ?_;refine⟨cN _,.inr ⟨w.heap.size,_,_,by subst q;simp,rfl,by simpa[q]using m8,l9,?_,?_⟩⟩
    ·subst ho;simp only[EM,Gn,size_zeroCells,w7,cN,d,<-jr];congr 1;omega
    ·subst ho;simp only[Fs];rw[<-nR,<-cN];exact jL
   rcases W with⟨h0,b,rfl⟩|⟨g,c2,x,rfl,p,q,M,j0,V⟩
   ·have u6:xs=[]:=dZ h0;subst u6;obtain⟨w',c7,Q,S⟩:=d6 0 0 [] rfl rfl U;refine⟨_,w',?_,Q,S⟩;have I:ys.length*f.bytes<=140737488355328:=by rw[d9];simpa using hb
    rw[c7];cases b with
    |none=>
     have:=run_append_nil (P:=P) w t ty e f z o l c8 ad ys.length r (cellsOf ys) m C U U U;simpa using this
    |some ba=>have:=run_append_grow (P:=P) w t ty e f z o l c8 ba 0 0 [] (by simp) (by simp) ad ys.length r (cellsOf ys) m C U U (growslice_fits U (by simpa using I));simpa using this
   ·by_cases R:xs.length+ys.length<=c2
    ·have e8:(cellsOf xs).length=xs.length*sz:=by rw[cN,d]
     have u7:(cellsOf ys).length=ys.length*sz:=by rw[cN,d]
     have m7:xs.length*sz+(cellsOf ys).length<=x.size:=by rw[u7,j0,<-jr];exact iW _ R
     have r9:=run_append_room (P:=P) w t ty e f o l g xs.length c2 x p ad ys.length r (cellsOf ys) m C j4 R (by rw[H];exact m7);refine⟨_,_,r9,Rest.refl w,?_⟩;obtain⟨h,⟨y8,j9⟩,dd,s'⟩:=aN.pick hi s;rcases j9 with⟨_,⟨b,j6⟩,_⟩|⟨g2,c3,y,u5,rfl,_⟩
     ·simp at j6;omega
     ·cases u5;have m6:y=x:=by have:=aN.qP s' g _ (aU.ld g _);rw[p]at this;cases this;rfl
      subst m6;rw[H]at*
      refine aN.rewrite (o':=.cells ((y.toList.take (xs.length*sz)++cellsOf ys++y.toList.drop (xs.length*sz+(cellsOf ys).length)).toArray) e (0,0)) m9 dd s' ?_ (λn hn=>setRow_other w g _ hn) (setRow_heap w g y _ e (0,0) p);refine⟨cN _,.inr ⟨g,c2,_,by simp,rfl,by simpa using R,M,?_,?_⟩⟩
      ·simp;rw[d];omega
      ·simp only[V];rw[<-nR,<-cN];exact jL
    ·obtain⟨w',c7,Q,S⟩:=d6 xs.length c2 (cellsOf xs) rfl rfl U;refine⟨_,w',?_,Q,S⟩;rw[c7];have I:(xs.length+ys.length)*f.bytes<=140737488355328:=by rw[d9];exact hb
     have e8:(cellsOf xs).length=xs.length*f.size:=by rw[cN,d,H]
     exact run_append_grow (P:=P) w t ty e f z o l c8 ⟨g,0,none⟩ xs.length c2 (cellsOf xs) e8 (λj u A=>by
      rw[iY,xm p,<-V]at*
      rw[mz]at A;split at A
      ·simpa using A
      ·cases A) ad ys.length r (cellsOf ys) m C U U (growslice_fits U I)
end
theorem aN.Cx{w:World}{L:List aa}{F:aU}{A:aa}(s:aN w L F)(a:A (λ_=>none)):aN w (A::L) F:=
 ⟨λ_=>none,a,λ_=>.inl rfl,by
  have:aU.add (λ_=>none) F=F:=by funext n;rfl
  rw[this];exact s⟩
theorem Gb{α:Type}[ab α](b:Option Addr)(e:TypeId):aK (.slice b 0 0) e ([]:List α) (λ_=>none):=⟨by simp[cellsOf],.inl ⟨rfl,⟨b,rfl⟩,rfl⟩⟩
section
variable{P:Program}{n:Nat}{ops:Array Oper}{Q:bx}{f:Nat->Value}{L:List aa}{rest:List Oper}{d:Nat}{ty:TypeId}{pos:String}{af:Array Edge}
variable{α:Type}[ab α]{v:Value}{xs ys:List α}
theorem Gx{t e:TypeId}{sz:Nat}(hd:Nat.blt d n=true)(c:P.underlying t=some (.slice e))(b:P.cellsOf e=sz)(a:Nat.blt 0 sz=true)
  (h:∀g,aM P n ops rest Q (aZ f d (.slice (some ⟨g,0,none⟩) 0 0)) L):aM P n ops (⟨some d,.buildSlice t 0 #[],ty,pos,af,none⟩::rest) Q f L:=by
 refine aM.nQ rfl hd (R:=λv L'=>∃g,v=.slice (some ⟨g,0,none⟩) 0 0/\L'=L) (λF w s=>?_) ?_
 ·refine⟨_,w.alloc (.cells #[] e),_,.inl ?_,Rest.refl w,aN.OG _ s,w.heap.size,rfl,rfl⟩;simp[execOp,Instr.buildSlice,cX c,gQ w b (cT a),Instr.fill,newRow,Array.range_zero']
 ·rintro v L' ⟨g,rfl,rfl⟩;exact h g
end
end
section
theorem wrap_i64{n:Int}(a:-9223372036854775808<=n)(b:n<=9223372036854775807):IntKind.i64.wrap n=n:=by rw[IntKind.wrap_i64];omega
theorem wrap_u8{n:Int}(a:0<=n)(b:n<=255):IntKind.u8.wrap n=n:=by simp[IntKind.wrap,IntKind.bits,IntKind.signed];omega
theorem wrap_u32{n:Int}(a:0<=n)(b:n<=4294967295):IntKind.u32.wrap n=n:=by simp[IntKind.wrap,IntKind.bits,IntKind.signed];omega
theorem wrap_u64{n:Int}(a:0<=n)(b:n<=18446744073709551615):IntKind.u64.wrap n=n:=by simp[IntKind.wrap,IntKind.bits,IntKind.signed];omega
theorem sF(a:List UInt8):(S a).size=a.length:=by simp[S,ByteArray.size]
theorem W6{a b:List UInt8}:S a=S b↔a=b:=by simp[S]
theorem FV(a:List UInt8):(S a).toList=a:=by rw[ByteArray.toList_eq]
theorem Ip(s:ByteArray):s=S s.data.toList:=by simp[S]
section
variable{P:Program}{n:Nat}{ops:Array Oper}{Q:bx}{f:Nat->Value}{L:List aa}{rest:List Oper}{d:Nat}{ty:TypeId}{pos:String}{af:Array Edge}
variable{aw:BinOp}
theorem Xg{t:TypeId}{x y:Operand}{a b:Value}(c:(aw matches .eql| .neq)=false)(w:World):(eqGuard aw t x y a b).run P w=.ok () w:=by cases aw<;>first|(simp at c;done)|(simp[eqGuard])
end
end
section
def oJ(ops:Array Oper)(f:Nat->Value)(j:Nat):Option Bool:=match (ops[j]?).bind (·.dst)with
 |some s=>match f s with| .bool b=>some b|_=>none
 |none=>none
def fB(ops:Array Oper)(f:Nat->Value)(o:Oper):Bool:=Region.wanted o (oJ ops f)
theorem gz.yield{D:List Deferred}{n:Nat}{a:Act}{f:Nat->Value}(h:gz D n a f)(ops:Array Oper):yielded ops a.tmps=oJ ops f:=by
 funext j;unfold yielded oJ;cases(ops[j]?).bind (·.dst)with
 |none=>rfl
 |some s=>
  have c:=h.2.2 s;simp only[Fg];rw[<-c];by_cases b:s<a.tmps.size
  ·simp[Array.getD,b];cases a.tmps[s]<;>rfl
  ·simp[Array.getD,b,undef]
theorem AK{ops:Array Oper}(f:Nat->Value)(o:Oper)(a:∀cs b,o.op≠.select cs b)(dst:Option Nat)(v:Value)(h:∀d,dst=some d->d∉o.looksAt ops):execOp (aH (cg f dst v)) o=execOp (aH f) o:=by
 refine execOp_congr o a λx hx=>?_;cases x with
 |tmp t=>
  cases dst with
  |none=>rfl
  |some d=>
   show aZ f d v t=f t;refine nC _ _ ?_;rintro rfl;exact h t rfl (lk _ (List.mem_filterMap.2 ⟨.tmp t,by simpa using hx,rfl⟩))
 |_=>rfl
theorem BM{ops:Array Oper}(f:Nat->Value)(o:Oper)(dst:Option Nat)(v:Value)(h:∀d,dst=some d->d∉o.looksAt ops):fB ops (cg f dst v) o=fB ops f o:=by
 cases dst with
 |none=>rfl
 |some d=>
  unfold fB Region.wanted;cases hg:o.guard with
  |none=>rfl
  |some gw=>
   obtain⟨g,a⟩:=gw;simp only;have:oJ ops (aZ f d v) g=oJ ops f g:=by
    unfold oJ;cases hs:(ops[g]?).bind (·.dst)with
    |none=>rfl
    |some s=>simp only;rw[nC];rintro rfl;exact h s rfl (mT _ (by simp[hg,hs]))
   show(oJ ops (aZ f d v) g==some a)=_;rw[this]
theorem IV(f:Nat->Value){x y:Option Nat}(v u:Value)(h:∀d,x=some d->y≠some d):cg (cg f x v) y u=cg (cg f y u) x v:=by
 cases x with
 |none=>rfl
 |some d=>
  cases y with
  |none=>rfl
  |some e=>
   have g:e≠d:=λc=>h d rfl (c▸rfl);funext t;show aZ (aZ f d v) e u t=aZ (aZ f e u) d v t;by_cases a:t=e
   ·subst a;rw[qc,nC _ _ g,qc]
   ·by_cases b:t=d
    ·subst b;rw[nC _ _ a,qc,qc]
    ·rw[nC _ _ a,nC _ _ b,nC _ _ b,nC _ _ a]
def bk(Lb L:List aa):Prop:=∀w F,aN w L F->∃H,aN w Lb H/\True
theorem bk.refl(L:List aa):bk L L:=λw F s=>⟨F,s,trivial⟩
variable{M L' L1 As:List aa}
theorem bk.of{L:List aa}(h:Sub M L):bk M L:=λw F s=>⟨F,h w F s,trivial⟩
theorem bk.cons{L:List aa}(A:aa)(h:bk M L):bk M (A::L):=λw F ⟨k,a,d,s⟩=>
 let ⟨H,s1,_⟩:=h w _ s
 ⟨H,s1,trivial⟩
def Pt(g:Nat)(o:Obj):aa:=λh=>h=aU.one g o
section
variable(P:Program)(n:Nat)(ops:Array Oper)(kd:Nat->Nat)(Lb:List aa)
def LW(o:Oper)(f:Nat->Value)(w:World)(a:Value->World->Prop):Prop:=match (execOp (aH f) o).run P w with
 | .ok (.value v) w'=>a v w'
 | .ok .skip w'=>a undef w'
 | .ok (.enter k args) w'=>Calls P k args w' λe b=>∃v,e=.returned v/\a v b
 | .ok (.row r args) w'=>Rows P r args w' a
 |_=>False
def YA(f:Nat->Value)(o:Oper)(obj:Obj)(mk:Nat->Value):Prop:=∀w,(execOp (aH f) o).run P w=.ok (.value (mk w.heap.size)) (w.alloc obj)
def aX(Z:(Nat->Value)->List aa->Prop):List (Nat×Oper)->(Nat->Value)->List aa->Prop
 |[],f,L=>(∃D F w a,gz D n a f/\aN w L F)->∃b,Sub b L/\Z f b
 |(i,o)::l,f,L=>(∃D F w a,gz D n a f/\aN w L F)->
  if fB ops f o=true then
   if kd i=0 then∃v,aP P o f Lb v/\aX Z l (cg f o.dst v) L
   else if kd i=1 then∃obj mk,YA P f o obj mk/\∀g,aX Z l (cg f o.dst (mk g)) (Pt g obj::L)
   else∀F w0 w,Rest w0 w->aN w L F->LW P o f w λv w'=>∃b,bk Lb b/\Rest w0 w'/\aN w' b F/\aX Z l (cg f o.dst v) b
  else aX Z l (cg f o.dst undef) L
end
section
variable{P:Program}{n:Nat}{ops:Array Oper}{kd:Nat->Nat}{Lb:List aa}
theorem LW.mono{o:Oper}{f:Nat->Value}{w:World}{b c:Value->World->Prop}(h:LW P o f w b)(a:∀v w,b v w->c v w):LW P o f w c:=by
 unfold LW at*
 split
 ·rename_i v w' e;simp only[e]at h;exact a _ _ h
 ·rename_i w' e;simp only[e]at h;exact a _ _ h
 ·rename_i k args w' e;simp only[e]at h;exact h.mono λe w ⟨v,g,i⟩=>⟨v,g,a _ _ i⟩
 ·rename_i r args w' e;simp only[e]at h;exact h.mono a
 ·split at h
  all_goals first|(rename_i d j l m _ _ e;exact absurd e (d _ _))|skip
  all_goals first|exact h.elim|(simp_all)
theorem LW.some{o:Oper}{f:Nat->Value}{w:World}{b:Value->World->Prop}(h:LW P o f w b):∃v w',b v w':=by
 unfold LW at h;split at h
 ·exact⟨_,_,h⟩
 ·exact⟨_,_,h⟩
 ·obtain⟨e,w',fr,⟨v,_,a⟩,_⟩:=h [];exact⟨v,w',a⟩
 ·obtain⟨v,w',a,_⟩:=h default [];exact⟨v,w',a⟩
 ·exact h.elim
variable{f0 f' mk:Nat->Value}
theorem LW.congr{o:Oper}{f:Nat->Value}(b:execOp (aH f') o=execOp (aH f) o)(w:World)(a:Value->World->Prop):LW P o f' w a=LW P o f w a:=by unfold LW;rw[b]
variable{u vl dv vt v1:Value}
theorem aP.unique{f:Nat->Value}{o:Oper}{v:Value}{L:List aa}(h:aP P o f L v)(h':aP P o f L u){w:World}{F:aU}(s:aN w L F):v=u:=by have a:=h F w s;rw[h' F w s]at a;cases a;rfl
theorem aP.congr{f:Nat->Value}{o:Oper}{v:Value}{L:List aa}(a:execOp (aH f') o=execOp (aH f) o):aP P o f' L v↔aP P o f L v:=by unfold aP;rw[a]
theorem YA.congr{f:Nat->Value}{o:Oper}{obj:Obj}(a:execOp (aH f') o=execOp (aH f) o):YA P f' o obj mk↔YA P f o obj mk:=by unfold YA;rw[a]
variable{o' o1 o2:Obj}
theorem YA.unique{f:Nat->Value}{o:Oper}{obj:Obj}(h:YA P f o obj mk)(h':YA P f o o' f0)(w:World):obj=o'/\mk w.heap.size=f0 w.heap.size:=by have a:=h w;rw[h' w]at a;simp only[Result.ok.injEq,Next.value.injEq]at a;refine⟨?_,a.1.symm⟩;have b:=cn (λx:World=>x.heap[w.heap.size]?) a.2;simp only[heap_alloc_new]at b;cases b;rfl
theorem Zy(w:World)(g:Nat):∃w':World,w'.heap.size=g:=⟨{w with heap:=Array.replicate g default},by simp⟩
theorem YA.KK{f:Nat->Value}{o:Oper}{obj:Obj}(h:YA P f o obj mk)(h':YA P f o o' f0)(g:Nat):obj=o'/\mk g=f0 g:=by obtain⟨w,rfl⟩:=Zy default g;exact YA.unique h h' w
variable{Z:(Nat->Value)->List aa->Prop}
theorem aX.sub:∀{l:List (Nat×Oper)} {f:Nat->Value} {L1 c:List aa},Sub c L1->aX P n ops kd Lb Z l f c->aX P n ops kd Lb Z l f L1
 |[],f,L1,c,hs,h=>λ⟨D,F,w,a,d,s⟩=>let ⟨L3,h1,h2⟩:=h ⟨D,F,w,a,d,hs w F s⟩;⟨L3,Sub.trans h1 hs,h2⟩
 |(i,o)::l,f,L1,c,hs,h=>by
  rintro⟨D,F,w,a,d,s⟩;have b:=h ⟨D,F,w,a,d,hs w F s⟩;split
  ·rename_i p;rw[an p]at b;split
   ·rename_i e;rw[an e]at b;obtain⟨v,m,k⟩:=b;exact⟨v,m,aX.sub hs k⟩
   ·rename_i e;rw[ai e]at b;split
    ·rename_i j;rw[an j]at b;obtain⟨obj,mk,m,k⟩:=b;exact⟨obj,mk,m,λg=>aX.sub (Sub.cons _ hs) (k g)⟩
    ·rename_i j;rw[ai j]at b;exactλF w0 w r s=>b F w0 w r (hs w F s)
  ·rename_i p;rw[ai p]at b;exact aX.sub hs b
variable{l2 l':List (Nat×Oper)}
theorem aX.tail{x:Nat×Oper}{l:List (Nat×Oper)}(b:∀f L,bk Lb L->aX P n ops kd Lb Z l f L->aX P n ops kd Lb Z l' f L){f:Nat->Value}{L:List aa}(c:bk Lb L)(h:aX P n ops kd Lb Z (x::l) f L):aX P n ops kd Lb Z (x::l') f L:=by
 obtain⟨i,o⟩:=x;intro W;have a:=h W;split
 ·rename_i m;rw[an m]at a;split
  ·rename_i d;rw[an d]at a;obtain⟨v,k,j⟩:=a;exact⟨v,k,b _ _ c j⟩
  ·rename_i d;rw[ai d]at a;split
   ·rename_i e;rw[an e]at a;obtain⟨obj,mk,k,j⟩:=a;exact⟨obj,mk,k,λg=>b _ _ (bk.cons _ c) (j g)⟩
   ·rename_i e;rw[ai e]at a;exactλF w0 w r s=>(a F w0 w r s).mono λv w' ⟨q,p,t,u,y⟩=>⟨q,p,t,u,b _ _ p y⟩
 ·rename_i m;rw[ai m]at a;exact b _ _ c a
theorem aX.qp:∀{l:List (Nat×Oper)} {f:Nat->Value} {L:List aa},((∃D F w a,gz D n a f/\aN w L F)->aX P n ops kd Lb Z l f L)->aX P n ops kd Lb Z l f L
 |[],_,_,h=>λW=>h W W
 |(_,_)::_,_,_,h=>λW=>h W W
theorem nh{D:List Deferred}{a:Act}{f:Nat->Value}(c:gz D n a f){d:Option Nat}(hd:fv n d=true)(v:Value):∃b,gz D n b (cg f d v):=⟨_,c.mW hd v⟩
theorem aX.swap{k i:Nat}{p o:Oper}{l:List (Nat×Oper)}(y9:∀cs b,p.op≠.select cs b)(y8:∀cs b,o.op≠.select cs b)(w9:p.apart ops o=true)(c7:fv n p.dst=true)(B8:fv n o.dst=true)
  (w5:kd i=0\/kd k=0\/kd i=1){f:Nat->Value}{L:List aa}(hf:bk Lb L)(h:aX P n ops kd Lb Z ((k,p)::(i,o)::l) f L):aX P n ops kd Lb Z ((i,o)::(k,p)::l) f L:=by
 obtain⟨a1,a2,A⟩:=Oper.apart_spec w9;have ep:∀f v,execOp (aH (cg f o.dst v)) p=execOp (aH f) p:=λf v=>AK f p y9 o.dst v A;have C:∀f v,execOp (aH (cg f p.dst v)) o=execOp (aH f) o:=λf v=>AK f o y8 p.dst v a1;have wp:∀f v,fB ops (cg f o.dst v) p=fB ops f p:=λf v=>BM f p o.dst v A;have wo:∀f v,fB ops (cg f p.dst v) o=fB ops f o:=λf v=>BM f o p.dst v a1;have cm:∀f v u,cg (cg f p.dst v) o.dst u=cg (cg f o.dst u) p.dst v:=λf v u=>IV f v u a2;rintro⟨D,F,w,a,I,s⟩;have j:=h ⟨D,F,w,a,I,s⟩;obtain⟨H,sH,_⟩:=hf w F s;by_cases c8:fB ops f p=true
 case neg=>
  rw[ai c8]at j;obtain⟨a',j5⟩:=nh I c7 undef;have c:=j ⟨D,F,w,a',j5,s⟩;rw[wo]at c;have skip:∀u L,aX P n ops kd Lb Z l (cg (cg f p.dst undef) o.dst u) L->aX P n ops kd Lb Z ((k,p)::l) (cg f o.dst u) L:=λu L m _=>by rw[wp,ai c8,<-cm];exact m
  split
  ·rename_i e;rw[an e]at c;split
   ·rename_i d;rw[an d]at c;obtain⟨v,Q,m⟩:=c;exact⟨v,(aP.congr (C _ _)).1 Q,skip _ _ m⟩
   ·rename_i d;rw[ai d]at c;split
    ·rename_i z;rw[an z]at c;obtain⟨obj,mk,Q,m⟩:=c;exact⟨obj,mk,(YA.congr (C _ _)).1 Q,λg=>skip _ _ (m g)⟩
    ·rename_i z;rw[ai z]at c;intro t w0 w' r y;have:=c t w0 w' r y;rw[LW.congr (C _ _)]at this;exact this.mono λv w' ⟨S,V,h2,h3,h4⟩=>⟨S,V,h2,h3,skip _ _ h4⟩
  ·rename_i e;rw[ai e]at c;exact skip _ _ c
 case pos=>
  rw[an c8]at j;by_cases R:kd k=0
  ·-- p only reads
   rw[an R]at j;obtain⟨vp,m8,j⟩:=j;obtain⟨a',j5⟩:=nh I c7 vp;have c:=j ⟨D,F,w,a',j5,s⟩;rw[wo]at c;have skip:∀u L,aX P n ops kd Lb Z l (cg (cg f p.dst vp) o.dst u) L->aX P n ops kd Lb Z ((k,p)::l) (cg f o.dst u) L:=λu L m _=>by rw[wp,an c8,an R];exact⟨vp,(aP.congr (ep _ _)).2 m8,by rw[<-cm];exact m⟩
   split
   ·rename_i e;rw[an e]at c;split
    ·rename_i d;rw[an d]at c;obtain⟨v,Q,m⟩:=c;exact⟨v,(aP.congr (C _ _)).1 Q,skip _ _ m⟩
    ·rename_i d;rw[ai d]at c;split
     ·rename_i z;rw[an z]at c;obtain⟨obj,mk,Q,m⟩:=c;exact⟨obj,mk,(YA.congr (C _ _)).1 Q,λg=>skip _ _ (m g)⟩
     ·rename_i z;rw[ai z]at c;intro t w0 w' r y;have:=c t w0 w' r y;rw[LW.congr (C _ _)]at this;exact this.mono λv w' ⟨S,V,h2,h3,h4⟩=>⟨S,V,h2,h3,skip _ _ h4⟩
   ·rename_i e;rw[ai e]at c;exact skip _ _ c
  ·rw[ai R]at j;by_cases k1:kd k=1
   ·-- p makes a block
    rw[an k1]at j;obtain⟨op,mp,m8,j⟩:=j;have w8:∀(F:aU) (w:World),aN w L F->aN (w.alloc op) (Pt w.heap.size op::L) F:=λF w s=>aN.alloc op s rfl;obtain⟨a',j5⟩:=nh I c7 (mp w.heap.size);have c:=j w.heap.size ⟨D,F,w.alloc op,a',j5,w8 F w s⟩;rw[wo]at c;split
    ·rename_i e;rw[an e]at c;split
     ·rename_i d;rw[an d]at c;obtain⟨v,Q,_⟩:=c;have m6:=(aP.congr (C _ _)).1 Q;refine⟨v,m6,λW=>?_⟩;rw[wp,an c8,ai R,an k1];refine⟨op,mp,(YA.congr (ep _ _)).2 m8,λg=>aX.qp ?_⟩;rintro⟨l8,t,w',a2,l9,y⟩;obtain⟨A,M⟩:=nh I c7 (mp g);have q:=j g ⟨D,t,w',A,M,y⟩;rw[wo,an e,an d]at q;obtain⟨v2,r0,m⟩:=q;obtain⟨H',u5,_⟩:=(bk.cons (Pt g op) hf) w' t y;rw[<-cm,aP.unique m6 ((aP.congr (C _ _)).1 r0) u5];exact m
     ·rename_i d;rw[ai d]at c;have z:kd i=1:=by rcases w5 with x|x|x<;>first|exact absurd x d|exact absurd x R|exact x
      rw[an z]at c;rw[an z];obtain⟨oo,mo,s9,_⟩:=c;have m7:=(YA.congr (C _ _)).1 s9;refine⟨oo,mo,m7,λg2=>?_⟩;intro W;rw[wp,an c8,ai R,an k1];refine⟨op,mp,(YA.congr (ep _ _)).2 m8,λg=>aX.qp ?_⟩;rintro⟨l8,t,w',a2,l9,y⟩;obtain⟨A,M⟩:=nh I c7 (mp g);have q:=j g ⟨D,t,w',A,M,(Sub.cons _ (Sub.drop _ (Sub.refl L))) w' t y⟩;rw[wo,an e,ai d,an z]at q;obtain⟨o3,m3,r9,m⟩:=q;obtain⟨e1,e2⟩:=YA.KK m7 ((YA.congr (C _ _)).1 r9) g2;rw[<-cm,e1,e2];exact aX.sub (Sub.front 1 rfl) (m g2)
    ·rename_i e;rw[ai e]at c;intro W;rw[wp,an c8,ai R,an k1];refine⟨op,mp,(YA.congr (ep _ _)).2 m8,λg=>aX.qp ?_⟩;rintro⟨l8,t,w',a2,l9,y⟩;obtain⟨A,M⟩:=nh I c7 (mp g);have q:=j g ⟨D,t,w',A,M,y⟩;rw[wo,ai e]at q;rw[<-cm];exact q
   ·-- p acts
    rw[ai k1]at j;obtain⟨u1,w1,L1,B9,C6,s1,y7⟩:=(j F w w (Rest.refl w) s).some;obtain⟨a',j5⟩:=nh I c7 u1;have c:=y7 ⟨D,F,w1,a',j5,s1⟩;rw[wo]at c;split
    ·rename_i e;rw[an e]at c;split
     ·rename_i d;rw[an d]at c;obtain⟨v,Q,_⟩:=c;have m6:=(aP.congr (C _ _)).1 Q;refine⟨v,m6,λW=>?_⟩;rw[wp,an c8,ai R,ai k1];intro t n8 w' r' y;rw[LW.congr (ep _ _)];refine(j t n8 w' r' y).mono λu w2 ⟨S,V,h2,h3,h4⟩=>⟨S,V,h2,h3,aX.qp ?_⟩;rintro⟨l8,F2,w3,a2,l9,s2⟩;obtain⟨A,M⟩:=nh I c7 u;have q:=h4 ⟨D,F2,w3,A,M,s2⟩;rw[wo,an e,an d]at q;obtain⟨v2,r0,m⟩:=q;obtain⟨H',u5,_⟩:=V w3 F2 s2;rw[<-cm,aP.unique m6 ((aP.congr (C _ _)).1 r0) u5];exact m
     ·rename_i d;rw[ai d]at c;have z:kd i=1:=by rcases w5 with x|x|x<;>first|exact absurd x d|exact absurd x R|exact x
      rw[an z]at c;rw[an z];obtain⟨oo,mo,s9,_⟩:=c;have m7:=(YA.congr (C _ _)).1 s9;refine⟨oo,mo,m7,λg2=>?_⟩;intro W;rw[wp,an c8,ai R,ai k1];rintro t n8 w' r' ⟨x,hx,dx,y⟩;rw[LW.congr (ep _ _)];refine(j _ n8 w' r' y).mono λu w2 ⟨S,V,h2,h3,h4⟩=>⟨Pt g2 oo::S,bk.cons _ V,h2,⟨x,hx,dx,h3⟩,aX.qp ?_⟩;rintro⟨l8,F2,w3,a2,l9,s2⟩;obtain⟨A,M⟩:=nh I c7 u;have q:=h4 ⟨D,F2,w3,A,M,(Sub.drop _ (Sub.refl S)) w3 F2 s2⟩;rw[wo,an e,ai d,an z]at q;obtain⟨o3,m3,r9,m⟩:=q;obtain⟨e1,e2⟩:=YA.KK m7 ((YA.congr (C _ _)).1 r9) g2;rw[<-cm,e1,e2];exact m g2
    ·rename_i e;rw[ai e]at c;intro W;rw[wp,an c8,ai R,ai k1];intro t n8 w' r' y;rw[LW.congr (ep _ _)];refine(j t n8 w' r' y).mono λu w2 ⟨S,V,h2,h3,h4⟩=>⟨S,V,h2,h3,aX.qp ?_⟩;rintro⟨l8,F2,w3,a2,l9,s2⟩;obtain⟨A,M⟩:=nh I c7 u;have q:=h4 ⟨D,F2,w3,A,M,s2⟩;rw[wo,ai e]at q;rw[<-cm];exact q
end
end
section
def jS(ops:Array Oper)(j k:Nat):Bool:=match ops[j]? with
 |some o=>o.after.any λe=>Region.binds .any e&&Nat.beq e.on k
 |none=>false
def waits(ops:Array Oper):Nat->Nat->Nat->Bool
 |0,j,k=>jS ops j k
 |d+1,j,k=>jS ops j k||match ops[j]? with
  |some o=>o.after.any λe=>Region.binds .any e&&waits ops d e.on k
  |none=>false
def wZ(ops:Array Oper)(k j:Nat):Bool:=match ops[k]?,ops[j]? with
 |some p,some o=>p.apart ops o
 |_,_=>true
def fu(x:Nat):Bool:=match x with
 |0=>false
 |1=>false
 |_=>true
def nL(n:Nat)(ops:Array Oper)(kd:Nat->Nat)(m:Nat):Bool:=
 Region.noSelect ops&&
 (List.range ops.size).all (λj=>match ops[j]? with|some o=>(o.after.all λe=>!Region.binds .any e||Nat.blt e.on j)&&fv n o.dst|none=>true)&&
 (List.range m).all (λj=>(List.range j).all λk=>jS ops j k||wZ ops k j)&&
 (List.range m).all (λj=>!fu (kd j)||(List.range j).all λk=>Nat.beq (kd k) 0||waits ops 4 j k||(List.range j).any λx=>Nat.blt k x&&fu (kd x))&&
 (List.range ops.size).all (λj=>Nat.blt j m||match Nat.beq j m with|true=>(List.range m).all λk=>jS ops j k|false=>jS ops j (j-1))&&
 Nat.ble m ops.size
def idx:Nat->List Oper->List (Nat×Oper)
 |_,[]=>[]
 |k,o::l=>(k,o)::idx (k+1) l
section
variable{P:Program}{n:Nat}{ops:Array Oper}{kd:Nat->Nat}{Lb:List aa}{m:Nat}
theorem pQ{j k:Nat}:jS ops j k=true↔∃o,ops[j]?=some o/\∃e∈o.after,Region.binds .any e=true/\e.on=k:=by
 unfold jS;cases ho:ops[j]? with
 |none=>simp
 |some o=>simp only[<-Array.any_toList,eR,sL,dT,iE,exists_eq_left'];exact⟨λ⟨e,a,b,c⟩=>⟨e,a,b,mj c⟩,λ⟨e,a,b,c⟩=>⟨e,a,b,by rw[c];simp⟩⟩
structure Inv(ops:Array Oper)(m:Nat)(listed:Array Bool)(l:List (Nat×Oper)):Prop where
 inc:l.Pairwise λx y=>x.1<y.1
 mem:∀x∈l,ops[x.1]?=some x.2/\x.1<m/\listed.getD x.1 true=false
 all:∀i,i<m->listed.getD i true=false->∃o,(i,o)∈l
 back:∀i,m<=i->i<ops.size->listed.getD i true=false
 size:listed.size=ops.size
 closed:∀x o,ops[x]?=some o->listed.getD x false=true->∀e∈o.after,Region.binds .any e=true->listed.getD e.on false=true
variable{az:Array Bool}
theorem mf{i:Nat}(h:az.getD i false=true):az.getD i true=true:=by
 by_cases a:i<az.size
 ·simp[Array.getD,a]at h⊢;exact h
 ·simp[Array.getD,a]
theorem NS{l:List (Nat×Oper)}(I:Inv ops m az l):∀(d j k:Nat),waits ops d j k=true->(az.getD j false=true\/j∈Region.ready .any ops az)->az.getD k false=true:=by
 have i:∀(j k:Nat) (o:Oper) (e:Edge),ops[j]?=some o->e∈o.after->Region.binds .any e=true->e.on=k->(az.getD j false=true\/j∈Region.ready .any ops az)->az.getD k false=true:=by
  intro j k o e b f c g h;subst g;rcases h with h|h
  ·exact I.closed j o b h e f c
  ·obtain⟨_,o',n,p⟩:=mem_ready.1 h;rw[b]at n;cases n;exact p e f c
 intro d
 induction d with
 |zero=>
  intro j k a h;obtain⟨o,b,e,f,c,g⟩:=pQ.1 a;exact i j k o e b f c g h
 |succ d ih=>
  intro j k a h;simp only[waits,vF]at a;rcases a with a|a
  ·obtain⟨o,b,e,f,c,g⟩:=pQ.1 a;exact i j k o e b f c g h
  ·cases b:ops[j]? with
   |none=>rw[b]at a;simp at a
   |some o=>rw[b]at a;simp only[<-Array.any_toList,eR,sL,dT]at a;obtain⟨e,f,c,a⟩:=a;exact ih e.on k a (.inl (i j e.on o e b f c rfl h))
theorem B3{l:List (Nat×Oper)}(I:Inv ops m az l)
  (o:∀j,j<m->fu (kd j)=true->∀k,k<j->kd k=0\/waits ops 4 j k=true\/∃x,x<j/\k<x/\fu (kd x)=true):
  ∀(d j k:Nat),j-k<=d->k<j->j<m->fu (kd j)=true->kd k≠0->(az.getD j false=true\/j∈Region.ready .any ops az)->az.getD k false=true:=by
 intro d
 induction d with
 |zero=>intro j k n c;omega
 |succ d ih=>
  intro j k n c f i g h;rcases o j f i k c with a|a|⟨x,hx,p,b⟩
  ·exact absurd a g
  ·exact NS I 4 j k a h
  ·have q:kd x≠0:=by intro e;rw[e]at b;simp[fu]at b
   have:=ih j x U hx f i q h;exact ih x k U p U b g (.inl this)
variable{Z:(Nat->Value)->List aa->Prop}
theorem aX.front{i:Nat}{o:Oper}{l2:List (Nat×Oper)}(e:∀cs b,o.op≠.select cs b)(d:fv n o.dst=true):∀(a:List (Nat×Oper)),(∀x∈a,(∀cs b,x.2.op≠.select cs b)/\x.2.apart ops o=true/\fv n x.2.dst=true/\(kd i=0\/kd x.1=0\/kd i=1))->
  ∀{f:Nat->Value} {L:List aa},bk Lb L->aX P n ops kd Lb Z (a++(i,o)::l2) f L->aX P n ops kd Lb Z ((i,o)::(a++l2)) f L
 |[],_,f,L,_,h=>h
 |(k,p)::a,hall,f,L,c,h=>by obtain⟨g,j,l,m⟩:=hall (k,p) (fP ..);refine aX.swap g e j l d m c ?_;exact aX.tail (λf L c h=>aX.front e d a (λx hx=>hall x (eu _ hx)) c h) c h
variable{l2 l':List (Nat×Oper)}
theorem Inv.step{i:Nat}{o:Oper}(I:Inv ops m az (l'++(i,o)::l2))(hi:i∈Region.ready .any ops az):Inv ops m (az.setIfInBounds i true) (l'++l2):=by
 have n:=I.inc;rw[tJ,km]at n;obtain⟨H,⟨L,M⟩,s⟩:=n;obtain⟨z,w,P⟩:=I.mem (i,o) (by simp);refine⟨?_,?_,?_,?_,?_,?_⟩
 ·rw[tJ];exact⟨H,M,λa u b d=>s a u b (eu _ d)⟩
 ·intro x hx;have F:x∈l'++(i,o)::l2:=by
   rw[ct]at hx⊢
   rcases hx with h|h
   ·exact .inl h
   ·exact .inr (eu _ h)
  obtain⟨f,g,t⟩:=I.mem x F;refine⟨f,g,?_⟩;have A:i≠x.1:=by
   rw[ct]at hx;rcases hx with h|h
   ·have:=s x h (i,o) (fP ..);simp at this;omega
   ·have:=L x h;simp at this;omega
  rw[getD_set_ne true A];exact t
 ·intro j y c;by_cases k:i=j
  ·subst k;have C:i<az.size:=by rw[I.size];exact(gR.1 z).1
   simp[Array.getD,C]at c
  ·rw[getD_set_ne true k]at c;obtain⟨o',h⟩:=I.all j y c;refine⟨o',?_⟩;rw[ct,gA]at h;rw[ct];rcases h with h|h|h
   ·exact .inl h
   ·cases h;exact absurd rfl k
   ·exact .inr h
 ·intro j f g;rw[getD_set_ne true (by simp at w;omega)];exact I.back j f g
 ·simpa using I.size
 ·intro x o' p c e l d;by_cases r:i=x
  ·subst r;obtain⟨_,o2,q,v⟩:=mem_ready.1 hi;rw[p]at q;cases q;exact getD_set_true (v e l d)
  ·rw[getD_set_ne false r]at c;exact getD_set_true (I.closed x o' p c e l d)
theorem C4{Q:Exit->Act->World->Prop}:∀(tl:List Oper) (m:Nat) (b:Array Bool) (a:Act) (w:World),(∀j,tl[j]?=ops[m+j]?)->m+tl.length=ops.size->b.size=ops.size->(∀i,i<m->b.getD i false=true)->(∀i,m<=i->i<ops.size->b.getD i true=false)->
  (∀j o,ops[j]?=some o->∀e∈o.after,Region.binds .any e=true->e.on<j)->(∀j,m<j->j<ops.size->jS ops j (j-1)=true)->wpList P ops Q tl a w->wpAny P .any ops Q tl.length b a w
 |[],m,b,a,w,htl,hlen,hsz,hl,hb,hlex,hed,h=>by
  refine⟨?_,h⟩;rw[List.eq_nil_iff_forall_not_mem];intro i hi;obtain⟨c,o,f,_⟩:=mem_ready.1 hi;have q:=(gR.1 f).1;have:=hl i (by simp at hlen;omega);rw[mf this]at c;cases c
 |o::tl,m,b,a,w,htl,hlen,hsz,hl,hb,hlex,hed,h=>by
  have s:m<ops.size:=by simp at hlen;omega
  have f:ops[m]?=some o:=by simpa using(htl 0).symm
  have v:m∈Region.ready .any ops b:=mem_ready.2 ⟨hb m (bj _) s,o,f,λe d n=>hl _ (hlex m o f e d n)⟩;refine⟨λc=>(by rw[c]at v;cases v),λi hi=>?_⟩;have C:i=m:=by
   obtain⟨c,o',t,y⟩:=mem_ready.1 hi;have q:=(gR.1 t).1;rcases EB i m with F|d|A
   ·have:=hl i F;rw[mf this]at c;cases c
   ·exact d
   ·obtain⟨o2,u,e,d,n,z⟩:=pQ.1 (hed i A q);rw[t]at u;cases u;have g:=y e d n;rw[z]at g;have:=hb (i-1) U U;rw[mf g]at this;cases this
  subst C;have x:∀a w,wpList P ops Q tl a w->wpAny P .any ops Q tl.length (b.setIfInBounds i true) a w:=λa w h=>by
   refine C4 tl (i+1) _ a w (λj=>by have:=htl (j+1);simpa[qR,Ez 1 j]using this) (by simp at hlen⊢;omega) (by simpa using hsz) ?_ ?_ hlex (λj g l=>hed j U l) h
   ·intro k H;by_cases r:i=k
    ·subst r;simp[Array.getD,hsz,s]
    ·rw[getD_set_ne false r];exact hl k U
   ·intro k g l;rw[getD_set_ne true U];exact hb k U l
  unfold wpOp;rw[f];simp only;unfold wpList at h;split
  ·rename_i p;rw[an p]at h;exact h.imp (Oper.wp_mono x) id
  ·rename_i p;rw[ai p]at h;exact x _ _ h
theorem ru{t:Nat}:∀{l:List Oper},t∈jc l↔∃o∈l,o.dst=some t
 |[]=>by simp[jc]
 |o::l=>by
  unfold jc;have a:=ru (t:=t) (l:=l);cases hd:o.dst with
  |none=>simp[a,hd]
  |some d=>simp[a,hd,eq_comm]
theorem FM{α:Type}{x:α}{l:List α}(h:x∈l):∃a l2,l=a++x::l2:=xf h
variable{ws:Nat->Bool}
variable{f0 f' mk:Nat->Value}
variable{w' w0 W:World}
theorem Nc{Q:bx}{D:List Deferred}{F:aU}(C9:nL n ops kd m=true)(w5:∀d,d∈jc ops.toList->ws d=true):
  ∀(c:Nat) (l:List (Nat×Oper)) (q:Array Bool) (a:Act) (w:World) (f:Nat->Value) (L:List aa),l.length=c->Inv ops m q l->gB D n F w0 f0 ws a w f L->bk Lb L->
   aX P n ops kd Lb (λf L=>aM P n ops (ops.toList.drop m) Q f L) l f L->wpAny P .any ops (eN D n F w0 f0 ws Q) (l.length+(ops.size-m)) q a w:=by
 have p9:=C9;simp only[nL,dT,kW,oI,vF,sm]at p9;obtain⟨⟨⟨⟨⟨c1,c2⟩,c3⟩,c4⟩,c5⟩,c6⟩:=p9;have hm:=cT c6;have u6:∀(j:Nat) (o:Oper),ops[j]?=some o->∀cs b,o.op≠.select cs b:=λj o h cs b=>Region.noSelect_spec c1 j o cs b h;have r0:∀j o,ops[j]?=some o->∀e∈o.after,Region.binds .any e=true->e.on<j:=λj o g e u p=>by have:=c2 j (gR.1 g).1;rw[g]at this;simp only[dT]at this;have s:=this.1;rw[<-CP,kW]at s;have C:=s e (sL.2 u);rw[p]at C;simp at C;exact C
 have j1:∀(j:Nat) (o:Oper),ops[j]?=some o->fv n o.dst=true:=λj o g=>by have:=c2 j (gR.1 g).1;rw[g]at this;simp only[dT]at this;exact this.2
 have u9:∀(j:Nat) (o:Oper),ops[j]?=some o->∀t,o.dst=some t->ws t=true:=λj o g t ht=>
  w5 t (ru.2 ⟨o,sL.2 (ER g),ht⟩)
 have B7:∀j,j<m->fu (kd j)=true->∀k,k<j->kd k=0\/waits ops 4 j k=true\/∃x,x<j/\k<x/\fu (kd x)=true:=λj hj hl k hk=>by
  rcases c4 j hj with h|h
  ·rw[hl]at h;cases h
  ·rcases h k hk with(h|h)|h
   ·exact .inl (mj h)
   ·exact .inr (.inl h)
   ·simp only[eR,oI,dT]at h;obtain⟨x,hx,A9,C6⟩:=h;exact .inr (.inr ⟨x,hx,by simpa using A9,C6⟩)
 have D8:m<ops.size->∀k,k<m->jS ops m k=true:=λC k hk=>by
  rcases c5 m C with h|h
  ·have:=cT h;omega
  ·rw[Nat.beq_refl]at h;exact kW.1 h k (oI.2 hk)
 have u7:∀j,m<j->j<ops.size->jS ops j (j-1)=true:=λj s C=>by
  rcases c5 j C with h|h
  ·have:=cT h;omega
  ·have:Nat.beq j m=false:=by cases hq:Nat.beq j m with|false=>rfl|true=>(have:=mj hq;omega)
   rw[this]at h;exact h
 intro c
 induction c with
 |zero=>
  intro l q a w f L hc I H hf hM;have hl:l=[]:=dZ hc;subst hl;obtain⟨W,hs,hx⟩:=hM ⟨D,F,w,a,H.2.1,H.2.2.1⟩;have hw:=hx D F w0 f0 ws a w ⟨H.1,H.2.1,hs w F H.2.2.1,H.2.2.2⟩ (λd hd=>by obtain⟨o,g,C8⟩:=ru.1 hd;exact w5 d (ru.2 ⟨o,py g,C8⟩));have:=C4 (P:=P) (ops:=ops) (Q:=eN D n F w0 f0 ws Q) (ops.toList.drop m) m q a w (λj=>by simp) (by simp;omega) I.size (λi hi=>by
   cases p:q.getD i false with
   |true=>rfl
   |false=>
    have j7:q.getD i true=false:=by
     have l8:i<q.size:=by rw[I.size];omega
     simp[Array.getD,l8]at p⊢;exact p
    obtain⟨o,g⟩:=I.all i hi j7;cases g) I.back r0 u7 hw
  simpa using this
 |succ c ih=>
  intro l q a w f L hc I H hf hM;obtain⟨z,S,rfl⟩:∃z S,l=z::S:=by
   cases l with
   |nil=>simp at hc
   |cons z S=>exact⟨z,S,rfl⟩
  obtain⟨m9,E6,j4⟩:=I.mem z (fP ..);have B8:∀k,k<z.1->q.getD k false=true:=λk hk=>by
   cases p:q.getD k false with
   |true=>rfl
   |false=>
    have l8:k<q.size:=by rw[I.size];omega
    have j7:q.getD k true=false:=by simp[Array.getD,l8]at p⊢;exact p
    obtain⟨o,g⟩:=I.all k U j7;rcases gA.1 g with e|e
    ·rw[<-e]at hk;simp at hk
    ·have:=(km.1 I.inc).1 _ e;simp at this;omega
  have u5:z.1∈Region.ready .any ops q:=mem_ready.2 ⟨j4,z.2,m9,λe u p=>B8 _ (r0 _ _ m9 e u p)⟩;have B0:(z::S).length+(ops.size-m)=S.length+(ops.size-m)+1:=by simp;omega
  rw[B0];refine⟨λh0=>(by rw[h0]at u5;cases u5),λi hi=>?_⟩;obtain⟨B6,o,g,j5⟩:=mem_ready.1 hi;have n9:=(gR.1 g).1;have j6:i<m:=by
   rcases mY i m with h|h
   ·exact h
   ·exfalso;rcases Nat.eq_or_lt_of_le h with h|h
    ·subst h;obtain⟨o2,R,e,u,d6,d8⟩:=pQ.1 (D8 n9 z.1 U);rw[g]at R;cases R;have s:=j5 e u d6;rw[d8]at s;rw[mf s]at j4;cases j4
    ·obtain⟨o2,R,e,u,d6,d8⟩:=pQ.1 (u7 i h n9);rw[g]at R;cases R;have s:=j5 e u d6;rw[d8]at s;have:=I.back (i-1) U U;rw[mf s]at this;cases this
  obtain⟨o',s9⟩:=I.all i j6 B6;obtain⟨j8,_,_⟩:=I.mem _ s9;simp only at j8;rw[g]at j8;cases j8;obtain⟨A,l2,hl⟩:=FM s9;rw[hl]at I hM hc;have n8:=I.inc;rw[tJ,km]at n8;have y9:=aX.front (u6 i o g) (j1 i o g) A (λy hy=>by
   obtain⟨y1,y2,y3⟩:=I.mem y (lk _ hy);have r9:y.1<i:=n8.2.2 y hy (i,o) (fP ..);have C7:jS ops i y.1=false:=by
    cases p:jS ops i y.1 with
    |false=>rfl
    |true=>obtain⟨o2,R,e,u,d6,d8⟩:=pQ.1 p;rw[g]at R;cases R;have s:=j5 e u d6;rw[d8]at s;rw[mf s]at y3;cases y3
   refine⟨u6 _ _ y1,?_,j1 _ _ y1,?_⟩
   ·have:=c3 i j6 y.1 r9;rw[C7]at this;rcases this with h|h
    ·cases h
    ·unfold wZ at h;rw[y1,g]at h;exact h
   ·by_cases k0:kd y.1=0
    ·exact .inr (.inl k0)
    ·cases hlk:fu (kd i)with
     |false=>
      unfold fu at hlk;split at hlk
      ·rename_i h;exact .inl h
      ·rename_i h;exact .inr (.inr h)
      ·cases hlk
     |true=>have:=B3 I B7 (i-y.1) i y.1 (bj _) r9 j6 hlk k0 (.inr hi);rw[mf this]at y3;cases y3) hf hM
  have I':=I.step hi;have q9:(A++l2).length=c:=by simp at hc⊢;omega
  have B9:S.length=(A++l2).length:=by
   have:(z::S).length=(A++(i,o)::l2).length:=by rw[hl]
   simp at this⊢;omega
  rw[B9];have p:=y9 ⟨D,F,w,a,H.2.1,H.2.2.1⟩;have D9:Region.wanted o (yielded ops a.tmps)=fB ops f o:=by rw[H.2.1.yield ops];rfl
  unfold wpOp;rw[g];simp only;rw[D9];have next:∀(v:Value) (w':World) (L':List aa),Rest w w'->aN w' L' F->bk Lb L'->aX P n ops kd Lb (λf L=>aM P n ops (ops.toList.drop m) Q f L) (A++l2) (cg f o.dst v) L'->
    wpAny P .any ops (eN D n F w0 f0 ws Q) ((A++l2).length+(ops.size-m)) (q.setIfInBounds i true) (a.put o.dst v) w':=λv w' L' hr hs z7 d9=>
   ih (A++l2) _ _ w' _ L' q9 I' (H.mW hr hs (j1 i o g) (u9 i o g) v) z7 d9
  split
  ·rename_i hw;rw[an hw]at p;refine .inl ?_;unfold Oper.wp;rw[H.2.1.eval];by_cases k0:kd i=0
   ·rw[an k0]at p;obtain⟨v,V,d9⟩:=p;obtain⟨HH,sH,E7⟩:=hf w F H.2.2.1;rw[V HH w sH];exact next v w L (Rest.refl w) H.2.2.1 hf d9
   ·rw[ai k0]at p;by_cases k1:kd i=1
    ·rw[an k1]at p;obtain⟨obj,mk,V,d9⟩:=p;rw[V w];exact next _ _ (Pt w.heap.size obj::L) (Rest.refl w) (aN.alloc obj H.2.2.1 rfl) (bk.cons _ hf) (d9 w.heap.size)
    ·rw[ai k1]at p;have M:=p F w0 w H.1 H.2.2.1;have fin:∀v w',(∃W,bk Lb W/\Rest w0 w'/\aN w' W F/\aX P n ops kd Lb (λf L=>aM P n ops (ops.toList.drop m) Q f L) (A++l2) (cg f o.dst v) W)->
       wpAny P .any ops (eN D n F w0 f0 ws Q) ((A++l2).length+(ops.size-m)) (q.setIfInBounds i true) (a.put o.dst v) w':=by
      rintro v w' ⟨W,s,C,h3,h4⟩;have hp:=gB.mW (w':=w) H (Rest.refl w) H.2.2.1 (j1 i o g) (u9 i o g) v;exact ih (A++l2) _ _ w' _ W q9 I' ⟨C,hp.2.1,h3,hp.2.2.2⟩ s h4
     unfold LW at M;generalize (execOp (aH f) o).run P w=r at M⊢
     cases r with
     |halt x w'=>exact M.elim
     |ok nx w'=>
      cases nx with
      |value v=>exact fin v w' M
      |skip=>exact fin undef w' M
      |enter k args=>
       show Calls P k args w' _;exact Calls.mono M λe w2 ⟨v,u,V⟩=>by subst u;exact fin v w2 V
      |row r args=>
       show Rows P r args w' _;exact Rows.mono M λv w2 V=>fin v w2 V
      |_=>exact M.elim
  ·rename_i hw;rw[ai hw]at p;exact next undef w L (Rest.refl w) H.2.2.1 hf p
theorem uK:∀{l:List Oper} {k:Nat} {x:Nat×Oper},x∈idx k l->k<=x.1/\x.1<k+l.length/\l[x.1-k]?=some x.2
 |[],_,_,h=>by cases h
 |o::l,k,x,h=>by
  rcases gA.1 h with e|e
  ·subst e;simp
  ·obtain⟨b,c,a⟩:=uK e;refine⟨U,by simp;omega,?_⟩;rw[show x.1-k=(x.1-(k+1))+1 by omega];simpa using a
theorem xR:∀{l:List Oper} {k i:Nat} {o:Oper},l[i]?=some o->(k+i,o)∈idx k l
 |[],_,_,_,h=>by simp at h
 |p::l,k,0,o,h=>by simp at h;subst h;exact fP ..
 |p::l,k,i+1,o,h=>by have:=xR (k:=k+1) (show l[i]?=some o by simpa using h);rw[show k+(i+1)=k+1+i by omega];exact eu _ this
theorem yZ:∀{l:List Oper} {k:Nat},(idx k l).Pairwise λx y=>x.1<y.1
 |[],_=>List.Pairwise.nil
 |o::l,k=>km.2 ⟨λy hy=>by have:=(uK hy).1;simp;omega,yZ⟩
variable{g:Nat}
theorem Ex.mix{Q:bx}{f:Nat->Value}{L:List aa}(m:Nat)(kd:Nat->Nat)(Lb:List aa)(s:P.follows .mixedOrders=true)(j:nL n ops kd m=true)(r:bk Lb L)
  (h:aX P n ops kd Lb (λf L=>aM P n ops (ops.toList.drop m) Q f L) (idx 0 (ops.toList.take m)) f L):Ex P n (.region g ops true) Q f L:=λD F w0 f0 ws a w H q=>by
 have d:=j;simp only[nL,dT]at d;have v:=cT d.2;refine wp_region_any s ?_;have e:(idx 0 (ops.toList.take m)).length=m:=by
  have:∀(l:List Oper) k,(idx k l).length=l.length:=by
   intro l
   induction l with
   |nil=>intro k;rfl
   |cons o l ih=>intro k;simp[idx,ih]
  rw[this];simp;omega
 have:=Nc (P:=P) (Q:=Q) (F:=F) (w0:=w0) (f0:=f0) (ws:=ws) j q m (idx 0 (ops.toList.take m)) (Array.replicate ops.size false) a w.drew f L e ⟨yZ,?_,?_,?_,by simp,?_⟩ ⟨H.1,H.2.1,aN.drew H.2.2.1,H.2.2.2⟩ r h
 ·rw[e,show m+(ops.size-m)=ops.size by omega]at this;exact this
 ·intro x hx;obtain⟨u,p,b⟩:=uK hx;simp at p b;rw[mz]at b;split at b
  ·refine⟨by simpa using b,U,?_⟩;simp[Array.getD];omega
  ·cases b
 ·intro i hi _;have c:i<ops.size:=U;refine⟨ops[i],?_⟩;have:=xR (k:=0) (l:=ops.toList.take m) (i:=i) (o:=ops[i]) (by rw[mz,an hi];simp[c]);simpa using this
 ·intro i _ hi;simp[Array.getD,hi]
 ·intro x o t hx;exfalso;have c:=(gR.1 t).1;simp[Array.getD,c]at hx
section
variable{Z:(Nat->Value)->List aa->Prop}{f:Nat->Value}{L:List aa}{i:Nat}{o:Oper}{l:List (Nat×Oper)}
def bZ(P:Program)(n:Nat)(kd:Nat->Nat)(ops:Array Oper)(Lb:List aa)(Z:(Nat->Value)->List aa->Prop)(l:List (Nat×Oper)):bx
 | .normal,f,L=>bk Lb L/\aX P n ops kd Lb Z l f L
 |_,_,_=>False
theorem MF(h:Z f L):aX P n ops kd Lb Z [] f L:=λ_=>⟨L,Sub.refl L,h⟩
theorem fZ{v:Value}{d:Nat}(b:kd i=0)(a:o.guard=none)(c:o.dst=some d)(e:aP P o f Lb v)(h:aX P n ops kd Lb Z l (aZ f d v) L):aX P n ops kd Lb Z ((i,o)::l) f L:=λ_=>by have g:fB ops f o=true:=oY a;rw[an g,an b];exact⟨v,e,by rw[c];exact h⟩
theorem HI{j s:Nat}{b:Bool}(c:(ops[j]?).bind (·.dst)=some s)(a:f s=.bool b):oJ ops f j=some b:=by unfold oJ;rw[c];simp only[a]
variable{up:Bool}
theorem Jh{j s:Nat}{b:Bool}(c:o.guard=some (j,up))(d:(ops[j]?).bind (·.dst)=some s)(a:f s=.bool b)(g:(b==up)=false)(h:aX P n ops kd Lb Z l (cg f o.dst undef) L):aX P n ops kd Lb Z ((i,o)::l) f L:=λ_=>by
 have e:fB ops f o=false:=by unfold fB Region.wanted;rw[c];simp only[HI d a];cases b<;>cases up<;>simp_all
 rw[e];exact h
theorem Hf{j s:Nat}(c:o.guard=some (j,up))(d:(ops[j]?).bind (·.dst)=some s)(b:f s=.bool up)(h:aX P n ops kd Lb Z ((i,{o with guard:=none})::l) f L):aX P n ops kd Lb Z ((i,o)::l) f L:=λW=>by
 have e:fB ops f o=true:=by unfold fB Region.wanted;rw[c];simp only[HI d b];simp
 have a:=h W;have g:fB ops f {o with guard:=none}=true:=oY rfl;rw[g]at a;rw[e];exact a
theorem Ob(a:f=f')(h:aX P n ops kd Lb Z l f' L):aX P n ops kd Lb Z l f L:=a▸h
variable{G' p:Prop}
theorem cG{j s:Nat}[Decidable p](d:o.guard=some (j,up))(e:(ops[j]?).bind (·.dst)=some s)(a:f s=.bool (decide p))
  (c:p->aX P n ops kd Lb Z ((i,o)::l) (aZ f s (.bool true)) L)(b:¬p->aX P n ops kd Lb Z ((i,o)::l) (aZ f s (.bool false)) L):aX P n ops kd Lb Z ((i,o)::l) f L:=by
 by_cases h:p
 ·exact Ob (Bk (by rw[a,bf h])) (c h)
 ·exact Ob (Bk (by rw[a,bd h])) (b h)
theorem bX(z:fu (kd i)=true)(I:o.guard=none)(R:fv n o.dst=true)(h:aM P n ops [o] (bZ P n kd ops Lb Z l) f L):aX P n ops kd Lb Z ((i,o)::l) f L:=λ⟨D,_,_,a,u,_⟩=>by
 have hw:fB ops f o=true:=oY I;have k0:kd i≠0:=λe=>by rw[e]at z;simp[fu]at z
 have k1:kd i≠1:=λe=>by rw[e]at z;simp[fu]at z
 rw[an hw,ai k0,ai k1];intro F w0 w r s;have b:=h D F w0 f (λ_=>true) a w ⟨r,u,s,λt ht=>by cases ht⟩ (λ_ _=>rfl);unfold wpList at b;rw[an (oY I)]at b;have fin:∀(q:Act) (d:World),eN D n F w0 f (λ_=>true) (bZ P n kd ops Lb Z l) .normal q d->∃j g,gz D n q j/\Rest w0 d/\aN d g F/\bk Lb g/\aX P n ops kd Lb Z l j g:=λq d ⟨j,g,⟨C,p,H,_⟩,q1,q2⟩=>⟨j,g,p,C,H,q1,q2⟩;have e9:∀(v:Value) (j:Nat->Value),gz D n (a.put o.dst v) j->j=cg f o.dst v:=λv j p=>by funext t;rw[<-p.2.2 t,(u.mW R v).2.2 t]
 have y:∀(v:Value) (d:World),eN D n F w0 f (λ_=>true) (bZ P n kd ops Lb Z l) .normal (a.put o.dst v) d->∃g,bk Lb g/\Rest w0 d/\aN d g F/\aX P n ops kd Lb Z l (cg f o.dst v) g:=λv d W=>by obtain⟨j,g,p,C,H,S,M⟩:=fin _ _ W;rw[e9 v j p]at M;exact⟨g,S,C,H,M⟩
 rcases b with b|⟨_,q,d,_,_,_,m⟩
 ·unfold Oper.wp at b;rw[u.eval]at b;unfold LW;generalize (execOp (aH f) o).run P w=rr at b⊢
  cases rr with
  |halt x w'=>
   cases x with
   |panic v=>obtain⟨_,_,_,m⟩:=b;exact m.elim
   |_=>exact b.elim
  |ok nx w'=>
   cases nx with
   |value v=>exact y v w' b
   |skip=>exact y undef w' b
   |defer dd=>
    obtain⟨j,g,V,_⟩:=(show eN D n F w0 f (λ_=>true) (bZ P n kd ops Lb Z l) .normal _ _ from b);have:=V.2.1.1;have Q:=u.1;cases hd:o.dst<;>simp[Act.put,hd,Q]at this
   |enter k args=>
    show Calls P k args w' _;refine Calls.mono b λe d A=>?_;cases e with
    |returned v=>exact⟨v,rfl,y v d A⟩
    |panicked c=>obtain⟨_,_,_,m⟩:=A;exact m.elim
    |outgrown=>obtain⟨_,_,_,_,_,m⟩:=A;exact m.elim
   |row r args=>
    show Rows P r args w' _;exact Rows.mono b λv d hv=>y v d hv
   |_=>exact b.elim
 ·exact m.elim
theorem br(a:bk Lb L)(h:aX P n ops kd Lb Z l f L):bZ P n kd ops Lb Z l .normal f L:=⟨a,h⟩
theorem vg{d:Nat}{obj:Obj}(A:Nat->aa)(a:kd i=1)(c:o.guard=none)(e:o.dst=some d)(j:YA P f o obj mk)(b:∀g,A g (aU.one g obj))(h:∀g,aX P n ops kd Lb Z l (aZ f d (mk g)) (A g::L)):aX P n ops kd Lb Z ((i,o)::l) f L:=λ_=>by have k:fB ops f o=true:=oY c;rw[an k,ai (by rw[a];decide),an a];refine⟨obj,mk,j,λg=>?_⟩;rw[e];exact aX.sub (Sub.N2 (λx hx=>by rw[show x=aU.one g obj from hx];exact b g) (Sub.refl L)) (h g)
end
end
end
section
section
variable{P:Program}{f:Nat->Value}{L:List aa}{d:Nat}{ty:TypeId}{pos:String}{af:Array Edge}{gd:Option (Nat×Bool)}
variable{aw:BinOp}
theorem pr{xt yt:TypeId}{x y:Operand}{a b v:Value}(hx:aH f x=a)(hy:aH f y=b)(c:∀w,(eqGuard aw xt x y a b).run P w=.ok () w)(e:∀w,(binOp aw xt a b).run P w=.ok v w)
  :aP P ⟨some d,.binOp aw xt x y yt,ty,pos,af,gd⟩ f L v:=(λF w s=>by simp[execOp,hx,hy,c,e])
theorem mc{xt yt:TypeId}{x y:Operand}{a b v:Value}(hx:aH f x=a)(hy:aH f y=b)(c:(aw matches .eql| .neq)=false)(e:∀w,(binOp aw xt a b).run P w=.ok v w)
  :aP P ⟨some d,.binOp aw xt x y yt,ty,pos,af,gd⟩ f L v:=pr  hx hy (Xg c) e
variable{r b j h:Int}
theorem YF{xt yt:TypeId}{x y:Operand}{a:Int}(hx:aH f x=.int .i64 a)(hy:aH f y=.int .i64 b)(c:-9223372036854775808<=a+b)(e:a+b<=9223372036854775807)
  :aP P ⟨some d,.binOp .add xt x y yt,ty,pos,af,gd⟩ f L (.int .i64 (a+b)):=mc  hx hy rfl (λw=>by simp[binOp,Op.intArith,wrap_i64 c e])
theorem Zz{xt yt:TypeId}{x y:Operand}{a:Int}(hx:aH f x=.int .i64 a)(hy:aH f y=.int .i64 b)(c:-9223372036854775808<=a-b)(e:a-b<=9223372036854775807)
  :aP P ⟨some d,.binOp .sub xt x y yt,ty,pos,af,gd⟩ f L (.int .i64 (a-b)):=mc  hx hy rfl (λw=>by simp[binOp,Op.intArith,wrap_i64 c e])
theorem Rt{xt yt:TypeId}{x y:Operand}{a:Int}(hx:aH f x=.int .i64 a)(hy:aH f y=.int .i64 b)(c:-9223372036854775808<=a*b)(e:a*b<=9223372036854775807)
  :aP P ⟨some d,.binOp .mul xt x y yt,ty,pos,af,gd⟩ f L (.int .i64 (a*b)):=mc  hx hy rfl (λw=>by simp[binOp,Op.intArith,wrap_i64 c e])
theorem MA{k:IntKind}{xt yt:TypeId}{x y:Operand}{a:Int}(hx:aH f x=.int k a)(hy:aH f y=.int k b)
  :aP P ⟨some d,.binOp .add xt x y yt,ty,pos,af,gd⟩ f L (.int k (k.wrap (a+b))):=mc  hx hy rfl (λw=>by simp[binOp,Op.intArith])
theorem Rv{k:IntKind}{xt yt:TypeId}{x y:Operand}{a:Int}(hx:aH f x=.int k a)(hy:aH f y=.int k b)
  :aP P ⟨some d,.binOp .sub xt x y yt,ty,pos,af,gd⟩ f L (.int k (k.wrap (a-b))):=mc  hx hy rfl (λw=>by simp[binOp,Op.intArith])
theorem YL{k:IntKind}{xt yt:TypeId}{x y:Operand}{a:Int}(hx:aH f x=.int k a)(hy:aH f y=.int k b)
  :aP P ⟨some d,.binOp .mul xt x y yt,ty,pos,af,gd⟩ f L (.int k (k.wrap (a*b))):=mc  hx hy rfl (λw=>by simp[binOp,Op.intArith])
theorem MJ{k:IntKind}{xt yt:TypeId}{x y:Operand}{a:Int}(hx:aH f x=.int k a)(hy:aH f y=.int k b)(c:0<=a)(e:0<b)
  :aP P ⟨some d,.binOp .rem xt x y yt,ty,pos,af,gd⟩ f L (.int k (a%b)):=mc  hx hy rfl (λw=>by simp[binOp,Op.intDiv,show b≠0 by omega,Int.tmod_eq_emod_of_nonneg c])
theorem Up{k:IntKind}{xt yt:TypeId}{x y:Operand}{a:Int}(hx:aH f x=.int k a)(hy:aH f y=.int k b)(c:b≠0)
  :aP P ⟨some d,.binOp .rem xt x y yt,ty,pos,af,gd⟩ f L (.int k (a.tmod b)):=mc  hx hy rfl (λw=>by simp[binOp,Op.intDiv,c])
theorem T2{xt yt:TypeId}{x y:Operand}{a:Int}(hx:aH f x=.int .i64 a)(hy:aH f y=.int .i64 b)(c:0<=a)(h:0<b)(e:a/b<=9223372036854775807)
  :aP P ⟨some d,.binOp .quo xt x y yt,ty,pos,af,gd⟩ f L (.int .i64 (a/b)):=by
 have g:0<=a/b:=FE c U;refine mc hx hy rfl (λw=>?_);simp[binOp,Op.intDiv,show b≠0 by omega,Dm c,wrap_i64 (show-9223372036854775808<=a/b by omega) e]
theorem PV{k:IntKind}{xt yt:TypeId}{x y:Operand}{a:Int}(hx:aH f x=.int k a)(hy:aH f y=.int k b)(c:(aw matches .and| .or| .xor| .andNot)=true)
  :aP P ⟨some d,.binOp aw xt x y yt,ty,pos,af,gd⟩ f L (.int k (bits aw k a b)):=by
 refine mc hx hy (by cases aw<;>simp_all) (λw=>?_);cases aw<;>first|(simp at c;done)|(simp[binOp,Op.intBits,bits])
theorem WS{k k':IntKind}{xt yt:TypeId}{x y:Operand}{a:Int}(hx:aH f x=.int k a)(hy:aH f y=.int k' b)(c:0<=b)
  :aP P ⟨some d,.binOp .shl xt x y yt,ty,pos,af,gd⟩ f L (.int k (k.wrap (a*2^(min b.toNat k.bits)))):=mc  hx hy rfl (λw=>by simp[binOp,Op.shift,show¬b<0 by omega])
theorem Px{k k':IntKind}{xt yt:TypeId}{x y:Operand}{a:Int}(hx:aH f x=.int k a)(hy:aH f y=.int k' b)(c:0<=b)
  :aP P ⟨some d,.binOp .shr xt x y yt,ty,pos,af,gd⟩ f L (.int k (a.fdiv (2^(min b.toNat k.bits)))):=mc  hx hy rfl (λw=>by simp[binOp,Op.shift,show¬b<0 by omega])
variable{G' p:Prop}
theorem Qx{t:TypeId}{x:Operand}[i:Decidable p](hx:aH f x=.bool (decide p)):aP P ⟨some d,.unOp .not t x,ty,pos,af,gd⟩ f L (.bool (decide (¬p))):=(λF w s=>by simp[execOp,hx,Op.unary])
theorem Fx{t:TypeId}{x:Operand}{b:Bool}(hx:aH f x=.bool b):aP P ⟨some d,.unOp .not t x,ty,pos,af,gd⟩ f L (.bool (!b)):=(λF w s=>by simp[execOp,hx,Op.unary])
theorem RZ{t:TypeId}{x:Operand}(hx:aH f x=.bool true):aP P ⟨some d,.unOp .not t x,ty,pos,af,gd⟩ f L (.bool false):=Fx  hx
theorem QV{t:TypeId}{x:Operand}(hx:aH f x=.bool false):aP P ⟨some d,.unOp .not t x,ty,pos,af,gd⟩ f L (.bool true):=Fx  hx
theorem XA{xt yt:TypeId}{x y:Operand}{a b:Bool}(hx:aH f x=.bool a)(hy:aH f y=.bool b)(e:P.underlying xt=some .bool)
  :aP P ⟨some d,.binOp .eql xt x y yt,ty,pos,af,gd⟩ f L (.bool (decide (a=b))):=pr  hx hy (λw=>by simp[eqGuard]) (λw=>by
  have c:(Op.equal xt (.bool a) (.bool b)).run P w=.ok (decide (a=b)) w:=by show(Op.equalIn (9999+1) xt (.bool a) (.bool b)).run P w=_;rw[run_equalIn_bool' w 9999 xt a b e];cases a<;>cases b<;>rfl
  simp only[binOp,fe,c,fE,fT])
theorem CM{xt yt:TypeId}{x y:Operand}{a b:List UInt8}(hx:aH f x=.string (S a))(hy:aH f y=.string (S b))
  :aP P ⟨some d,.binOp .eql xt x y yt,ty,pos,af,gd⟩ f L (.bool (decide (a=b))):=pr  hx hy (λw=>by simp[eqGuard]) (λw=>by
  simp only[binOp,Op.stringOp,FV];rw[show(a==b)=decide (a=b)by by_cases h:a=b<;>simp[h]];rfl)
theorem Gf{xt yt:TypeId}{x y:Operand}{a b:List UInt8}(hx:aH f x=.string (S a))(hy:aH f y=.string (S b))
  :aP P ⟨some d,.binOp .neq xt x y yt,ty,pos,af,gd⟩ f L (.bool (decide (a≠b))):=pr  hx hy (λw=>by simp[eqGuard]) (λw=>by
  simp only[binOp,Op.stringOp,FV];rw[show(!(a==b))=decide (a≠b)by by_cases h:a=b<;>simp[h]];rfl)
theorem QW{x:Operand}{t:TypeId}{a:List UInt8}(hx:aH f x=.string (S a))(b:P.underlying t=some .string):aP P ⟨some d,.call ⟨.builtin .len,#[x],#[t]⟩,ty,pos,af,gd⟩ f L (.int .i64 a.length):=(λF w s=>by simp[execOp,resolve,invoke,builtin,hx,Builtin.len_,cX b,goInt,sF])
variable{ts:Array TypeId}
theorem T4{x y:Operand}{k k':IntKind}{a:Int}(hx:aH f x=.int k a)(hy:aH f y=.int k' b):aP P ⟨some d,.call ⟨.builtin .min,#[x,y],ts⟩,ty,pos,af,gd⟩ f L (.int k (min a b)):=(λF w s=>by simp[execOp,resolve,invoke,builtin,hx,hy,Builtin.min_,Builtin.min2];omega)
theorem Z0{x y:Operand}{k k':IntKind}{a:Int}(hx:aH f x=.int k a)(hy:aH f y=.int k' b):aP P ⟨some d,.call ⟨.builtin .max,#[x,y],ts⟩,ty,pos,af,gd⟩ f L (.int k (max a b)):=(λF w s=>by simp[execOp,resolve,invoke,builtin,hx,hy,Builtin.max_,Builtin.max2];omega)
theorem qm{src dst:TypeId}{x:Operand}{k k':IntKind}{a:Int}{ds:TypeDesc}(hx:aH f x=.int k a)(c:P.underlying src=some ds)(e:P.underlying dst=some (.int k'))(b:k'.wrap a=r)
  :aP P ⟨some d,.convert src dst x,ty,pos,af,gd⟩ f L (.int k' r):=(λF w s=>by simp[execOp,hx,convert,cX c,cX e,Conv.intToInt,b])
theorem Pb{x:Operand}{vs:Array Value}{i:Nat}{v:Value}(hx:aH f x=.tuple vs)(a:vs[i]?=some v):aP P ⟨some d,.extract x i,ty,pos,af,gd⟩ f L v:=(λF w s=>by simp[execOp,hx,Instr.extract,a])
theorem TK{xt yt e:TypeId}{x y:Operand}{a:Addr}(hx:aH f x=.pointer (some a))(hy:aH f y=.pointer none)(c:P.underlying xt=some (.pointer e)):aP P ⟨some d,.binOp .eql xt x y yt,ty,pos,af,gd⟩ f L (.bool false):=pr  hx hy (λw=>by simp[eqGuard]) (λw=>by
  have b:(Op.equal xt (.pointer (some a)) (.pointer none)).run P w=.ok false w:=by show(Op.equalIn (9999+1) xt (.pointer (some a)) (.pointer none)).run P w=_;rw[Op.equalIn];simp[cX c]
  simp only[binOp,fe,b,fE,fT])
theorem V9{x:Operand}{v:Value}(hx:aH f x=v):aP P ⟨some d,.move x,ty,pos,af,gd⟩ f L v:=(λF w s=>by rw[<-hx];rfl)
theorem RF{x:Operand}{v:Value}(hx:aH f x=v):aP P ⟨some d,.assign x,ty,pos,af,gd⟩ f L v:=(λF w s=>by rw[<-hx];rfl)
theorem TD{c x y:Operand}{v:Value}(a:aH f c=.bool true)(hx:aH f x=v):aP P ⟨some d,.pick c x y,ty,pos,af,gd⟩ f L v:=(λF w s=>by rw[<-hx];simp[execOp,a,asBool])
theorem WZ{c x y:Operand}{v:Value}(a:aH f c=.bool false)(hy:aH f y=v):aP P ⟨some d,.pick c x y,ty,pos,af,gd⟩ f L v:=(λF w s=>by rw[<-hy];simp[execOp,a,asBool])
theorem wg{xt yt:TypeId}{x y:Operand}{k:IntKind}{a:Int}(p:Prop)[i:Decidable p](hx:aH f x=.int k a)(hy:aH f y=.int k b)
  (c:(binOp aw xt (.int k a) (.int k b))=pure (.bool (decide p))):aP P ⟨some d,.binOp aw xt x y yt,ty,pos,af,gd⟩ f L (.bool (decide p)):=(λF w s=>by cases aw<;>simp[execOp,hx,hy,eqGuard,c])
theorem Dl{xt yt:TypeId}{x y:Operand}{k:IntKind}{a:Int}(hx:aH f x=.int k a)(hy:aH f y=.int k b)
  :aP P ⟨some d,.binOp .lss xt x y yt,ty,pos,af,gd⟩ f L (.bool (decide (a<b))):=wg (a<b)  hx hy (by simp[binOp,Op.intCmp])
theorem CI{xt yt:TypeId}{x y:Operand}{k:IntKind}{a:Int}(hx:aH f x=.int k a)(hy:aH f y=.int k b)
  :aP P ⟨some d,.binOp .leq xt x y yt,ty,pos,af,gd⟩ f L (.bool (decide (a<=b))):=wg (a<=b)  hx hy (by simp[binOp,Op.intCmp])
theorem Fq{xt yt:TypeId}{x y:Operand}{k:IntKind}{a:Int}(hx:aH f x=.int k a)(hy:aH f y=.int k b)
  :aP P ⟨some d,.binOp .gtr xt x y yt,ty,pos,af,gd⟩ f L (.bool (decide (b<a))):=wg (b<a)  hx hy (by simp[binOp,Op.intCmp])
theorem Fw{xt yt:TypeId}{x y:Operand}{k:IntKind}{a:Int}(hx:aH f x=.int k a)(hy:aH f y=.int k b)
  :aP P ⟨some d,.binOp .geq xt x y yt,ty,pos,af,gd⟩ f L (.bool (decide (b<=a))):=wg (b<=a)  hx hy (by simp[binOp,Op.intCmp])
theorem FL{xt yt:TypeId}{x y:Operand}{k:IntKind}{a:Int}(hx:aH f x=.int k a)(hy:aH f y=.int k b)
  :aP P ⟨some d,.binOp .eql xt x y yt,ty,pos,af,gd⟩ f L (.bool (decide (a=b))):=wg (a=b)  hx hy (by simp[binOp,Op.intCmp];rfl)
theorem Ff{xt yt:TypeId}{x y:Operand}{k:IntKind}{a:Int}(hx:aH f x=.int k a)(hy:aH f y=.int k b)
  :aP P ⟨some d,.binOp .neq xt x y yt,ty,pos,af,gd⟩ f L (.bool (decide (a≠b))):=wg (a≠b)  hx hy (by simp[binOp,Op.intCmp];rfl)
variable{g:Nat}
variable{bt:TypeId}
theorem sN(i:Nat){t:TypeId}{x:Operand}{o:Nat}{cs:List Value}{v:Value}(hx:aH f x=.pointer (some ⟨g,o,none⟩))(hi:L[i]?=some (ao g bt cs))(a:cR P t=some false)(b:cs[o]?=some v)
  :aP P ⟨some d,.load t x,ty,pos,af,gd⟩ f L v:=(λF w s=>by simp[execOp,hx,Instr.loadAt,Instr.sureAddr,ug w a (jz hi b s)])
theorem Lt(i:Nat){t:TypeId}{x:Operand}{o m:Nat}{cs vs:List Value}(hx:aH f x=.pointer (some ⟨g,o,none⟩))(hi:L[i]?=some (ao g bt cs))(k:cR P t=some true)(n:P.cellsOf t=m)(e:Nat.blt 0 m=true)
  (c:Nat.ble (o+m) cs.length=true)(h:(cs.drop o).take m=vs):aP P ⟨some d,.load t x,ty,pos,af,gd⟩ f L (.agg vs.toArray):=by
 have e:=cT e;have c:=cT c;have l:vs.length=m:=by rw[<-h];simp;omega
 intro F w s;have:=vC (P:=P) w (t:=t) (a:=⟨g,o,none⟩) (cs:=vs) k (by rw[n,l]) U (λj u b=>by rw[iY];rw[<-h]at b;exact jz hi (Cd b) s);simp[execOp,hx,Instr.loadAt,Instr.sureAddr,this]
theorem Pl{s:TypeId}{x:Operand}{o a off:Nat}(hx:aH f x=.pointer (some ⟨g,o,none⟩))(b:vj P s a=some off)
  :aP P ⟨some d,.fieldAddr s x a,ty,pos,af,gd⟩ f L (.pointer (some ⟨g,o+off,none⟩)):=(λF w s=>by simp[execOp,hx,Jf w b,iY])
theorem Vv{x:Operand}{a:Addr}(hx:aH f x=.pointer (some a)):aP P ⟨some d,.nilCheck x,ty,pos,af,gd⟩ f L (.pointer (some a)):=(λF w s=>by simp[execOp,hx])
theorem LY{t e:TypeId}{x y:Operand}{o m sz:Nat}{k:IntKind}(hx:aH f x=.pointer (some ⟨g,o,none⟩))(hy:aH f y=.int k j)(i:P.underlying t=some (.array m e))(h:P.cellsOf e=sz)(c:Nat.blt 0 sz=true)
  (a:0<=j)(b:j<(m:Int)):aP P ⟨some d,.indexAddr t x y,ty,pos,af,gd⟩ f L (.pointer (some ⟨g,o+j.toNat*sz,none⟩)):=(λF w s=>by simp[execOp,hx,hy,VI i h (cT c) a b])
variable{α:Type}[ab α]{v:Value}{xs:List α}
theorem YU{x:Operand}{t e:TypeId}(hx:aH f x=v)(g:P.underlying t=some (.slice e))(b:aI L v xs):aP P ⟨some d,.call ⟨.builtin .len,#[x],#[t]⟩,ty,pos,af,gd⟩ f L (.int .i64 xs.length):=(λF w s=>by obtain⟨a,c,rfl,_,_⟩:=AV (b w F s);simp[execOp,resolve,invoke,builtin,hx,Builtin.len_,cX g,goInt])
theorem Ki{t e:TypeId}{x y:Operand}{k:IntKind}{j sz:Nat}(hx:aH f x=v)(hy:aH f y=.int k (j:Int))(n:P.underlying t=some (.slice e))(i:aI L v xs)(l:P.cellsOf e=sz)(m:ab.sz α=sz)
  (b:j<xs.length):aP P ⟨some d,.indexAddr t x y,ty,pos,af,gd⟩ f L (fM v (j*sz+0)):=(λF w s=>by
  have h:0<sz:=by rw[<-m];exact ab.pos
  obtain⟨r,a,c,rfl,q,u,g,p⟩:=i w F s;cases a with
  |none=>have:=g rfl;omega
  |some ad=>have o:(j:Int)<(xs.length:Int):=U;simp[execOp,hx,hy,Instr.indexAt,cX n,asIntOf,b,gQ w l h,fM])
theorem YN{t e:TypeId}{x y:Operand}{k:IntKind}{sz:Nat}(hx:aH f x=v)(hy:aH f y=.int k j)(h:P.underlying t=some (.slice e))(b:aI L v xs)(c:P.cellsOf e=sz)(g:ab.sz α=sz)
  (a:0<=j)(i:j<(xs.length:Int)):aP P ⟨some d,.indexAddr t x y,ty,pos,af,gd⟩ f L (fM v (j.toNat*sz+0)):=by
 obtain⟨m,rfl⟩:=jF a;have:=Ki (ty:=ty) (pos:=pos) (af:=af) (gd:=gd) (d:=d) hx hy h b c g U;simpa using this
theorem Y9{s:TypeId}{x:Operand}{i sz o off:Nat}(hx:aH f x=fM v (i*sz+o))(e:aI L v xs)(hi:i<xs.length)(b:vj P s g=some off)
  :aP P ⟨some d,.fieldAddr s x g,ty,pos,af,gd⟩ f L (fM v (i*sz+(o+off))):=(λF w s=>by
  obtain⟨a,c,rfl,_⟩:=vG (e w F s) hi;simp[execOp,hx,fM,Jf w b,we,qR])
theorem VQ{t e:TypeId}{x y:Operand}{k:IntKind}{i sz o m:Nat}(hx:aH f x=fM v (i*sz+o))(hy:aH f y=.int k j)(q:P.underlying t=some (.array m e))(p:P.cellsOf e=g)(l:Nat.blt 0 g=true)(n:aI L v xs)(hi:i<xs.length)
  (b:0<=j)(h:j<(m:Int)):aP P ⟨some d,.indexAddr t x y,ty,pos,af,gd⟩ f L (fM v (i*sz+(o+j.toNat*g))):=(λF w s=>by
  obtain⟨a,c,rfl,_⟩:=vG (n w F s) hi;simp[execOp,hx,hy,fM,Instr.indexAt,cX q,asIntOf,Instr.sureAddr,b,h,gQ w p (cT l),we,qR])
variable{u vl dv vt v1:Value}
theorem Fe{t:TypeId}{x:Operand}{i sz o:Nat}(hx:aH f x=fM v (i*sz+o))(e:cR P t=some false)(j:aI L v xs)(hi:i<xs.length)(k:ab.sz α=sz)(b:(ab.cells (xs[i]'hi))[o]?=some u)
  :aP P ⟨some d,.load t x,ty,pos,af,gd⟩ f L u:=(λF w s=>by
  obtain⟨a,c,rfl,g⟩:=vG (j w F s) hi;have h:o<ab.sz α:=by rw[<-ab.len (xs[i]'hi)];exact(iA.1 b).1
  have:=g (i*sz+o) u (by rw[<-k,AN hi h,b]);simp[execOp,hx,fM,Instr.loadAt,Instr.sureAddr,ug w e this])
variable{zs us fs:List Value}
theorem IJ{t:TypeId}{x:Operand}{i sz o m:Nat}(hx:aH f x=fM v (i*sz+o))(l:cR P t=some true)(q:P.cellsOf t=m)(h:Nat.blt 0 m=true)(y:aI L v xs)(hi:i<xs.length)(z:ab.sz α=sz)(g:Nat.ble (o+m) sz=true)
  (k:((ab.cells (xs[i]'hi)).drop o).take m=us):aP P ⟨some d,.load t x,ty,pos,af,gd⟩ f L (.agg us.toArray):=(λF w s=>by
  obtain⟨a,c,rfl,n⟩:=vG (y w F s) hi;have g:=cT g;have h:=cT h;have p:us.length=m:=by rw[<-k];simp[ab.len];omega
  have:=vC (P:=P) w (t:=t) (a:=a.add (i*sz+o)) (cs:=us) l (by rw[q,p]) U (λj u b=>by
   rw[we];rw[<-k]at b;have e:=Cd b;have r:o+j<ab.sz α:=by rw[<-ab.len (xs[i]'hi)];exact(iA.1 e).1
   exact n _ u (by rw[<-z,qR,AN hi r,e]))
  simp[execOp,hx,fM,Instr.loadAt,Instr.sureAddr,this])
end
end
section
theorem xA{v:Value}(h:v.oneCell'=true):v.cells=#[v]:=by cases v<;>first|rfl|(simp[Value.oneCell']at h)
section
variable{P:Program}{n:Nat}{ops:Array Oper}{Q:bx}{f:Nat->Value}{L:List aa}{rest:List Oper}{d:Nat}{ty:TypeId}{pos:String}{af:Array Edge}{gd:Option (Nat×Bool)}
variable{g:Nat}
variable{bt:TypeId}
theorem sy(i:Nat){t:TypeId}{x:Operand}{cs:List Value}(hx:aH f x=.pointer (some ⟨g,0,none⟩))(hi:L[i]?=some (ao g bt cs))(a:cR P t=some true)(b:P.cellsOf t=cs.length)(c:Nat.blt 0 cs.length=true):
  aP P ⟨some d,.load t x,ty,pos,af,gd⟩ f L (.agg cs.toArray):=
 Lt i hx hi a b c (by simp) (by simp)
theorem FY{e:TypeId}{x:Operand}{cs:List Value}(hd:Nat.blt d n=true)(hx:aH f x=.agg cs.toArray)(h:∀g,aM P n ops rest Q (aZ f d (.pointer (some ⟨g,0,none⟩))) (ao g e cs::L)):
  aM P n ops (⟨some d,.box e x,ty,pos,af,none⟩::rest) Q f L:=Hu hd hx (by simp[Value.cells]) h
theorem DE{e:TypeId}{x:Operand}{v:Value}(hd:Nat.blt d n=true)(hx:aH f x=v)(a:v.oneCell'=true)(h:∀g,aM P n ops rest Q (aZ f d (.pointer (some ⟨g,0,none⟩))) (ao g e [v]::L)):
  aM P n ops (⟨some d,.box e x,ty,pos,af,none⟩::rest) Q f L:=Hu hd hx (by rw[xA a]) h
def bN(f:Nat->Value):List (Nat×Operand)->List (Nat×List Value)->Prop
 |[],[]=>True
 |(i,x)::l,(j,vs)::ps=>i=j/\(aH f x).cells.toList=vs/\bN f l ps
 |_,_=>False
theorem Dz:bN f [] []:=trivial
variable{ps:List (Nat×List Value)}
theorem wM{i:Nat}{x:Operand}{v:Value}{l:List (Nat×Operand)}(h:aH f x=v)(a:v.oneCell'=true)(t:bN f l ps):bN f ((i,x)::l) ((i,[v])::ps):=⟨rfl,by rw[h,xA a],t⟩
theorem PL{i:Nat}{x:Operand}{cs:List Value}{l:List (Nat×Operand)}(h:aH f x=.agg cs.toArray)(t:bN f l ps):bN f ((i,x)::l) ((i,cs)::ps):=⟨rfl,by rw[h];simp[Value.cells],t⟩
def oj(cs:List Value)(o:Nat)(vs:List Value):List Value:=cs.take o++vs++cs.drop (o+vs.length)
def lay(off:Nat->Option (Nat×Nat)):List Value->List (Nat×List Value)->Option (List Value)
 |cs,[]=>some cs
 |cs,(i,vs)::ps=>match off i with
  |some (o,sz)=>match Nat.beq vs.length sz&&Nat.ble (o+sz) cs.length with
   |true=>lay off (oj cs o vs) ps
   |false=>none
  |none=>none
theorem LJ:∀(vs:List Value) (cs:Array Value) (o k:Nat),o+k+vs.length<=cs.size->((vs.zipIdx k).foldl (λ(cs:Array Value) (x:Value×Nat)=>cs.setIfInBounds (o+x.2) x.1) cs).toList=oj cs.toList (o+k) vs
 |[],cs,o,k,h=>by simp[oj]
 |v::vs,cs,o,k,h=>by simp only[List.zipIdx_cons,qa];rw[LJ vs _ o (k+1) (by simp at h⊢;omega)];simp only[oj,Array.toList_setIfInBounds];rw[show o+(k+1)=o+k+1 by omega];exact EW cs.toList (o+k) v vs (by simp at h⊢;omega)
theorem zM(a:Nat->Option (Nat×Nat)):∀(ps:List (Nat×Value)) (cs:Array Value) (vs:List Value),lay a cs.toList (ps.map λp=>(p.1,p.2.cells.toList))=some vs->Instr.fill a cs ps=some vs.toArray
 |[],cs,vs,h=>by simp[lay]at h;subst h;simp[Instr.fill]
 |(i,v)::ps,cs,vs,h=>by
  simp only[kq,lay]at h;simp only[Instr.fill];cases hp:a i with
  |none=>rw[hp]at h;cases h
  |some os=>
   obtain⟨o,sz⟩:=os;rw[hp]at h;simp only at h;split at h
   ·rename_i b;simp only[dT]at b;have c:=mj b.1;have d:=cT b.2;simp at c d;simp only;rw[ai (by simp;omega)];refine zM a ps _ vs ?_;rw[<-h];congr 1;rw[<-Array.foldl_toList,Array.toList_zipIdx];have:=LJ v.cells.toList cs o 0 (by simp;omega);simpa using this
   ·cases h
def nU(P:Program)(t:TypeId)(i:Nat):Option (Nat×Nat):=match P.underlying t with
 |some (.struct fs)=>(fs[i]?).map λa=>(a.offset,P.cellsOf a.type)
 |some (.array _ e)=>some (i*P.cellsOf e,P.cellsOf e)
 |_=>none
theorem AO{f:Nat->Value}:∀{l:List (Nat×Operand)} {ps:List (Nat×List Value)},bN f l ps->(l.map λp=>(p.1,aH f p.2)).map (λp=>(p.1,p.2.cells.toList))=ps
 |[],[],_=>rfl
 |(i,x)::l,(j,vs)::ps,⟨h1,h2,h3⟩=>by simp only[kq];rw[AO h3,h1,h2]
theorem Hn{α β:Type}{w:World}(g:α->Sem β)(k:α->β):∀(l:List α),(∀x∈l,(g x).run P w=.ok (k x) w)->(l.mapM g).run P w=.ok (l.map k) w
 |[],_=>rfl
 |x::l,h=>by simp only[List.mapM_cons,fe,h x (fP ..),fE,Hn g k l (λy hy=>h y (eu _ hy)),fT,kq]
variable{zs us fs:List Value}
theorem Pn{t:TypeId}{fs:Array Field}{parts:List (Nat×Operand)}{vs:List Value}(c:P.underlying t=some (.struct fs))(q:(fs.toList.all λa=>Nat.blt 0 (P.cellsOf a.type))=true)(v:fI P t=some zs)
  (j:bN f parts ps)(l:lay (nU P t) zs ps=some vs):aP P ⟨some d,.build t parts.toArray,ty,pos,af,gd⟩ f L (.agg vs.toArray):=λF w s=>by
 obtain⟨z,u,h⟩:=vZ w v;have g:∀a∈fs.toList,0<P.cellsOf a.type:=λa b=>cT (kW.1 q a b);have m:=Hn (P:=P) (w:=w) (λa:Field=>(do pure (a.offset,<-sizeOf a.type):Sem (Nat×Nat))) (λa=>(a.offset,P.cellsOf a.type)) fs.toList (λa b=>by have e:=gQ (P:=P) w (t:=a.type) rfl (g a b);simp only[fe,e,fE,fT]);have k:=zM (nU P t) (parts.map λp=>(p.1,aH f p.2)) z.cells vs (by rw[h,AO j];simpa using l);have o:(λi=>((fs.toList.map λa=>(a.offset,P.cellsOf a.type)).toArray)[i]?)=nU P t:=by funext i;unfold nU;rw[c];simp
 have n:(fs.mapM λa=>(do pure (a.offset,<-sizeOf a.type):Sem (Nat×Nat))).run P w=.ok (fs.toList.map λa=>(a.offset,P.cellsOf a.type)).toArray w:=by rw[Array.mapM_eq_mapM_toList,Sem.run_map,m];rfl
 have r:(parts.toArray.map λ(p:Nat×Operand)=>(p.1,aH f p.2)).toList=parts.map λp=>(p.1,aH f p.2):=by simp
 simp only[execOp,Instr.build,fe,u,fE,cX c,n,r,o,k,fT]
theorem Ru{t e:TypeId}{m:Nat}{parts:List (Nat×Operand)}{vs:List Value}(b:P.underlying t=some (.array m e))(a:P.cellsOf e=g)(n:Nat.blt 0 g=true)(r:fI P t=some zs)
  (h:bN f parts ps)(k:lay (nU P t) zs ps=some vs):aP P ⟨some d,.build t parts.toArray,ty,pos,af,gd⟩ f L (.agg vs.toArray):=λF w s=>by
 obtain⟨z,q,c⟩:=vZ w r;have j:=zM (nU P t) (parts.map λp=>(p.1,aH f p.2)) z.cells vs (by rw[c,AO h];simpa using k);have l:(λi=>some (i*g,g))=nU P t:=by funext i;unfold nU;rw[b];simp[a]
 have o:(parts.toArray.map λ(p:Nat×Operand)=>(p.1,aH f p.2)).toList=parts.map λp=>(p.1,aH f p.2):=by simp
 simp only[execOp,Instr.build,fe,q,fE,cX b,gQ w a (cT n),o,l,j,fT]
theorem V3{t:TypeId}{x y:Operand}{k:IntKind}{a:List UInt8}{j:Nat}(hx:aH f x=.string (S a))(hy:aH f y=.int k (j:Int))(e:P.underlying t=some .string)(b:j<a.length):
  aP P ⟨some d,.index t x y,ty,pos,af,gd⟩ f L (.int .u8 (a[j]'b).toNat):=λF w s=>by
 have c:(S a)[j]?=some (a[j]'b):=by show((S a).data[j]?)=_;simp[S,b]
 simp[execOp,hx,hy,Instr.index,cX e,asIntOf,c]
end
variable{r b j h:Int}
theorem aQ{k:IntKind}{a:Int}(h:a=b):Value.int k a=Value.int k b:=by rw[h]
theorem kc{a b:Bool}(h:a=b):Value.bool a=Value.bool b:=by rw[h]
theorem av{α:Type}{a b:α}{l l':List α}(h:a=b)(t:l=l'):a::l=b::l':=by rw[h,t]
def kF:List Value->Option (List Value)
 |[]=>some []
 |a::l=>match kF l with
  |some l'=>some (a::l')
  |none=>none
theorem wh:∀(l:List Value),kF l=some l
 |[]=>rfl
 |a::l=>by simp only[kF,wh l]
variable{zs us fs:List Value}
theorem pJ{l:List Value}(h:kF l=some zs):l=zs:=by rw[wh]at h;cases h;rfl
section
variable{P:Program}{n:Nat}{ops:Array Oper}{Q:bx}{f:Nat->Value}{L:List aa}{rest:List Oper}{d:Nat}{ty:TypeId}{pos:String}{af:Array Edge}{gd:Option (Nat×Bool)}
theorem Cq{e:TypeId}(hd:Nat.blt d n=true)(a:((fI P e).bind kF)=some zs)(h:∀g,aM P n ops rest Q (aZ f d (.pointer (some ⟨g,0,none⟩))) (ao g e zs::L)):
  aM P n ops (⟨some d,.alloc e,ty,pos,af,none⟩::rest) Q f L:=by
 refine Vd hd ?_ h;cases hc:fI P e with
 |none=>rw[hc]at a;cases a
 |some z=>rw[hc]at a;rw[<-pJ a]
variable{M L' L1 As:List aa}
variable{g:Nat}
variable{bt:TypeId}
theorem fO(i:Nat){t:TypeId}{x y:Operand}{o:Nat}{cs:List Value}{v:Value}(hx:aH f x=.pointer (some ⟨g,o,none⟩))(hi:L[i]?=some (ao g bt cs))(hy:aH f y=v)(a:v.oneCell'=true)(d:P.cellsOf t=1)
  (e:Nat.blt o cs.length=true)(c:kF (cs.set o v)=some zs)(b:L.set i (ao g bt zs)=L')(h:aM P n ops rest Q f L'):aM P n ops (⟨none,.store t x y,ty,pos,af,none⟩::rest) Q f L:=
 Gw i hx hy a hi d e (by rw[pJ c,b]) h
theorem qZ(i:Nat){t:TypeId}{x y:Operand}{o:Nat}{cs vs:List Value}(hx:aH f x=.pointer (some ⟨g,o,none⟩))(hi:L[i]?=some (ao g bt cs))(hy:aH f y=.agg vs.toArray)(a:vs.all Value.oneCell'=true)(d:P.cellsOf t=vs.length)
  (j:Nat.blt 0 vs.length=true)(e:Nat.ble (o+vs.length) cs.length=true)(c:kF (cs.take o++vs++cs.drop (o+vs.length))=some zs)(b:L.set i (ao g bt zs)=L')(h:aM P n ops rest Q f L'):aM P n ops (⟨none,.store t x y,ty,pos,af,none⟩::rest) Q f L:=
 FH i hx hy a hi d j e (by rw[pJ c,b]) h
theorem fD(i:Nat){t:TypeId}{x y:Operand}{cs vs:List Value}(hx:aH f x=.pointer (some ⟨g,0,none⟩))(hi:L[i]?=some (ao g bt cs))(hy:aH f y=.agg vs.toArray)(b:vs.all Value.oneCell'=true)(d:P.cellsOf t=vs.length)
  (e:Nat.blt 0 vs.length=true)(a:Nat.beq vs.length cs.length=true)(c:L.set i (ao g bt vs)=L')(h:aM P n ops rest Q f L'):aM P n ops (⟨none,.store t x y,ty,pos,af,none⟩::rest) Q f L:=by
 have a:=mj a;refine FH i hx hy b hi d e (by simp;omega) ?_ h;rw[<-c,BI,lG,pk U,ck]
theorem sx(i:Nat){t:TypeId}{x:Operand}{o m:Nat}{cs vs:List Value}(hx:aH f x=.pointer (some ⟨g,o,none⟩))(hi:L[i]?=some (ao g bt cs))(a:cR P t=some true)(c:P.cellsOf t=m)(e:Nat.blt 0 m=true)
  (b:Nat.ble (o+m) cs.length=true)(h:kF ((cs.drop o).take m)=some vs):aP P ⟨some d,.load t x,ty,pos,af,gd⟩ f L (.agg vs.toArray):=Lt i hx hi a c e b (pJ h)
theorem UJ{α:Type}[ab α]{v:Value}{xs:List α}{t:TypeId}{x:Operand}{i sz o m:Nat}(hx:aH f x=fM v (i*sz+o))(a:cR P t=some true)(c:P.cellsOf t=m)(e:Nat.blt 0 m=true)(g:aI L v xs)(hi:i<xs.length)(h:ab.sz α=sz)(b:Nat.ble (o+m) sz=true)
  (j:kF (((ab.cells (xs[i]'hi)).drop o).take m)=some us):aP P ⟨some d,.load t x,ty,pos,af,gd⟩ f L (.agg us.toArray):=IJ hx a c e g hi h b (pJ j)
theorem MW{α:Type}[ab α]{v:Value}{xs:List α}{t:TypeId}{x:Operand}{i sz:Nat}(hx:aH f x=fM v (i*sz+0))(b:cR P t=some true)(c:P.cellsOf t=sz)(e:aI L v xs)(hi:i<xs.length)(a:ab.sz α=sz):
  aP P ⟨some d,.load t x,ty,pos,af,gd⟩ f L (.agg (ab.cells (xs[i]'hi)).toArray):=IJ hx b c (by have:=ab.pos (α:=α);rw[a]at this;cases sz<;>first|omega|rfl) e hi a (by simp) (by rw[BP,ic (by rw[ab.len,a];exact bj _)])
variable{ps:List (Nat×List Value)}
theorem Vt{t:TypeId}{fs:Array Field}{parts:List (Nat×Operand)}{vs:List Value}(g:P.underlying t=some (.struct fs))(e:(fs.toList.all λb=>Nat.blt 0 (P.cellsOf b.type))=true)(h:fI P t=some zs)
  (c:bN f parts ps)(a:((lay (nU P t) zs ps).bind kF)=some vs):aP P ⟨some d,.build t parts.toArray,ty,pos,af,gd⟩ f L (.agg vs.toArray):=Pn g e h c (by
 cases hc:lay (nU P t) zs ps with
 |none=>rw[hc]at a;cases a
 |some z=>rw[hc]at a;rw[<-pJ a])
theorem OA{t e:TypeId}{m:Nat}{parts:List (Nat×Operand)}{vs:List Value}(i:P.underlying t=some (.array m e))(h:P.cellsOf e=g)(c:Nat.blt 0 g=true)(j:fI P t=some zs)
  (b:bN f parts ps)(a:((lay (nU P t) zs ps).bind kF)=some vs):aP P ⟨some d,.build t parts.toArray,ty,pos,af,gd⟩ f L (.agg vs.toArray):=Ru i h c j b (by
 cases hc:lay (nU P t) zs ps with
 |none=>rw[hc]at a;cases a
 |some z=>rw[hc]at a;rw[<-pJ a])
end
def sj(ops:Array Oper)(i:Nat):Nat:=match ops[i]? with
 |some o=>match o.op with
  | .alloc _=>1
  | .box ..=>1
  | .buildSlice ..=>1
  | .store ..=>2
  | .mapUpdate ..=>2
  | .insert ..=>2
  | .makeSlice ..=>2
  | .makeMap ..=>2
  | .lookup ..=>2
  | .next ..=>2
  | .range ..=>2
  | .call c=>match c.callee with
   | .builtin .len=>0
   | .builtin .cap=>0
   | .builtin .min=>0
   | .builtin .max=>0
   |_=>2
  |_=>0
 |none=>0
def Tt(ops:Array Oper):Nat->Nat
 |0=>0
 |m+1=>match (List.range m).all λk=>jS ops m k with
  |true=>Tt ops m
  |false=>m+1
theorem Vo(b:UInt8):IntKind.i64.wrap (b.toNat:Int)=b.toNat:=wrap_i64 U (by have:=b.toNat_lt;omega)
section
variable{P:Program}{n:Nat}{ops:Array Oper}{Q:bx}{f:Nat->Value}{L:List aa}
variable{g:Nat}
theorem Ex.PD(m:Nat)(Lb:List aa)(b:P.follows .mixedOrders=true)(c:nL n ops (sj ops) m=true)(a:bk Lb L)
  (h:aX P n ops (sj ops) Lb (λf L=>aM P n ops (ops.toList.drop m) Q f L) (idx 0 (ops.toList.take m)) f L):Ex P n (.region g ops true) Q f L:=
 Ex.mix m _ Lb b c a h
variable{kd:Nat->Nat}{Lb:List aa}{Z:(Nat->Value)->List aa->Prop}{i:Nat}{l:List (Nat×Oper)}{d:Nat}{ty:TypeId}{pos:String}{af:Array Edge}
theorem MQ{e:TypeId}(c:kd i=1)(b:((fI P e).bind kF)=some zs)(h:∀g,aX P n ops kd Lb Z l (aZ f d (.pointer (some ⟨g,0,none⟩))) (ao g e zs::L)):aX P n ops kd Lb Z ((i,⟨some d,.alloc e,ty,pos,af,none⟩)::l) f L:=by
 have k:fI P e=some zs:=by
  cases a:fI P e with
  |none=>rw[a]at b;cases b
  |some z=>rw[a]at b;rw[<-pJ b]
 refine vg (obj:=.cells zs.toArray e) (mk:=λg=>.pointer (some ⟨g,0,none⟩)) (λg=>ao g e zs) c rfl rfl (λw=>?_) (λg=>⟨(0,0),λo _=>by simp,rfl⟩) h;obtain⟨z,j,a⟩:=vZ w k;simp[execOp,Instr.alloc,j,zl,a]
theorem O7{e:TypeId}{x:Operand}{v:Value}{cs:List Value}(b:kd i=1)(hx:aH f x=v)(a:v.cells.toList=cs)(h:∀g,aX P n ops kd Lb Z l (aZ f d (.pointer (some ⟨g,0,none⟩))) (ao g e cs::L)):aX P n ops kd Lb Z ((i,⟨some d,.box e x,ty,pos,af,none⟩)::l) f L:=by refine vg (obj:=.cells v.cells e) (mk:=λg=>.pointer (some ⟨g,0,none⟩)) (λg=>ao g e cs) b rfl rfl (λw=>?_) (λg=>⟨(0,0),λo _=>by simp,by rw[<-a]⟩) h;simp[execOp,Instr.box,hx,zl]
theorem KJ{e:TypeId}{x:Operand}{cs:List Value}(a:kd i=1)(hx:aH f x=.agg cs.toArray)(h:∀g,aX P n ops kd Lb Z l (aZ f d (.pointer (some ⟨g,0,none⟩))) (ao g e cs::L)):aX P n ops kd Lb Z ((i,⟨some d,.box e x,ty,pos,af,none⟩)::l) f L:=
 O7 a hx (by simp[Value.cells]) h
theorem M5{t e:TypeId}{sz:Nat}(a:kd i=1)(j:P.underlying t=some (.slice e))(c:P.cellsOf e=sz)(b:Nat.blt 0 sz=true)(h:∀g,aX P n ops kd Lb Z l (aZ f d (.slice (some ⟨g,0,none⟩) 0 0)) L):aX P n ops kd Lb Z ((i,⟨some d,.buildSlice t 0 #[],ty,pos,af,none⟩)::l) f L:=by refine vg (obj:=.cells #[] e) (mk:=λg=>.slice (some ⟨g,0,none⟩) 0 0) (λg=>ao g e []) a rfl rfl (λw=>?_) (λg=>⟨(0,0),λo _=>by simp,rfl⟩) (λg=>aX.sub (Sub.drop _ (Sub.refl L)) (h g));simp[execOp,Instr.buildSlice,cX j,gQ w c (cT b),Instr.fill,newRow,Array.range_zero']
end
section
variable{P:Program}{n:Nat}{ops:Array Oper}{Q:bx}{f:Nat->Value}{L:List aa}{rest:List Oper}{d:Nat}{ty:TypeId}{pos:String}{af:Array Edge}{gd:Option (Nat×Bool)}
theorem PM{k:IntKind}{xt yt:TypeId}{x y:Operand}{a:Int}(hx:aH f x=.int k a)(hy:aH f y=.int k b)(g:a%b=r)(c:0<=a)(e:0<b):
  aP P ⟨some d,.binOp .rem xt x y yt,ty,pos,af,gd⟩ f L (.int k r):=by rw[<-g];exact MJ hx hy c e
theorem Pf{xt yt:TypeId}{x y:Operand}{a:Int}(hx:aH f x=.int .u8 a)(hy:aH f y=.int .u8 b)(c:0<=a+b)(e:a+b<=255):
  aP P ⟨some d,.binOp .add xt x y yt,ty,pos,af,gd⟩ f L (.int .u8 (a+b)):=by
 have:=MA (P:=P) (d:=d) (ty:=ty) (pos:=pos) (af:=af) (gd:=gd) (xt:=xt) (yt:=yt) (L:=L) hx hy;rwa[wrap_u8 c e]at this
theorem SB{xt yt:TypeId}{x y:Operand}{k:IntKind}{a:Int}(hx:aH f x=.int k a)(hy:aH f y=.int k b)(c:a<b):aP P ⟨some d,.binOp .lss xt x y yt,ty,pos,af,gd⟩ f L (.bool true):=by have:=Dl (P:=P) (d:=d) (ty:=ty) (pos:=pos) (af:=af) (gd:=gd) (xt:=xt) (yt:=yt) (L:=L) hx hy;rwa[bf c]at this
theorem SL{xt yt:TypeId}{x y:Operand}{k:IntKind}{a:Int}(hx:aH f x=.int k a)(hy:aH f y=.int k b)(c:¬(a<b)):aP P ⟨some d,.binOp .lss xt x y yt,ty,pos,af,gd⟩ f L (.bool false):=by have:=Dl (P:=P) (d:=d) (ty:=ty) (pos:=pos) (af:=af) (gd:=gd) (xt:=xt) (yt:=yt) (L:=L) hx hy;rwa[bd c]at this
theorem Ta{xt yt:TypeId}{x y:Operand}{k:IntKind}{a:Int}(hx:aH f x=.int k a)(hy:aH f y=.int k b)(c:a<=b):aP P ⟨some d,.binOp .leq xt x y yt,ty,pos,af,gd⟩ f L (.bool true):=by have:=CI (P:=P) (d:=d) (ty:=ty) (pos:=pos) (af:=af) (gd:=gd) (xt:=xt) (yt:=yt) (L:=L) hx hy;rwa[bf c]at this
theorem Pc{xt yt:TypeId}{x y:Operand}{k:IntKind}{a:Int}(hx:aH f x=.int k a)(hy:aH f y=.int k b)(c:¬(a<=b)):aP P ⟨some d,.binOp .leq xt x y yt,ty,pos,af,gd⟩ f L (.bool false):=by have:=CI (P:=P) (d:=d) (ty:=ty) (pos:=pos) (af:=af) (gd:=gd) (xt:=xt) (yt:=yt) (L:=L) hx hy;rwa[bd c]at this
theorem QL{xt yt:TypeId}{x y:Operand}{k:IntKind}{a:Int}(hx:aH f x=.int k a)(hy:aH f y=.int k b)(c:b<a):aP P ⟨some d,.binOp .gtr xt x y yt,ty,pos,af,gd⟩ f L (.bool true):=by have:=Fq (P:=P) (d:=d) (ty:=ty) (pos:=pos) (af:=af) (gd:=gd) (xt:=xt) (yt:=yt) (L:=L) hx hy;rwa[bf c]at this
theorem Ws{xt yt:TypeId}{x y:Operand}{k:IntKind}{a:Int}(hx:aH f x=.int k a)(hy:aH f y=.int k b)(c:¬(b<a)):aP P ⟨some d,.binOp .gtr xt x y yt,ty,pos,af,gd⟩ f L (.bool false):=by have:=Fq (P:=P) (d:=d) (ty:=ty) (pos:=pos) (af:=af) (gd:=gd) (xt:=xt) (yt:=yt) (L:=L) hx hy;rwa[bd c]at this
theorem Sb{xt yt:TypeId}{x y:Operand}{k:IntKind}{a:Int}(hx:aH f x=.int k a)(hy:aH f y=.int k b)(c:b<=a):aP P ⟨some d,.binOp .geq xt x y yt,ty,pos,af,gd⟩ f L (.bool true):=by have:=Fw (P:=P) (d:=d) (ty:=ty) (pos:=pos) (af:=af) (gd:=gd) (xt:=xt) (yt:=yt) (L:=L) hx hy;rwa[bf c]at this
theorem Ut{xt yt:TypeId}{x y:Operand}{k:IntKind}{a:Int}(hx:aH f x=.int k a)(hy:aH f y=.int k b)(c:¬(b<=a)):aP P ⟨some d,.binOp .geq xt x y yt,ty,pos,af,gd⟩ f L (.bool false):=by have:=Fw (P:=P) (d:=d) (ty:=ty) (pos:=pos) (af:=af) (gd:=gd) (xt:=xt) (yt:=yt) (L:=L) hx hy;rwa[bd c]at this
theorem VG{xt yt:TypeId}{x y:Operand}{k:IntKind}{a:Int}(hx:aH f x=.int k a)(hy:aH f y=.int k b)(c:a=b):aP P ⟨some d,.binOp .eql xt x y yt,ty,pos,af,gd⟩ f L (.bool true):=by have:=FL (P:=P) (d:=d) (ty:=ty) (pos:=pos) (af:=af) (gd:=gd) (xt:=xt) (yt:=yt) (L:=L) hx hy;rwa[bf c]at this
theorem PT{xt yt:TypeId}{x y:Operand}{k:IntKind}{a:Int}(hx:aH f x=.int k a)(hy:aH f y=.int k b)(c:¬(a=b)):aP P ⟨some d,.binOp .eql xt x y yt,ty,pos,af,gd⟩ f L (.bool false):=by have:=FL (P:=P) (d:=d) (ty:=ty) (pos:=pos) (af:=af) (gd:=gd) (xt:=xt) (yt:=yt) (L:=L) hx hy;rwa[bd c]at this
theorem UT{xt yt:TypeId}{x y:Operand}{k:IntKind}{a:Int}(hx:aH f x=.int k a)(hy:aH f y=.int k b)(c:a≠b):aP P ⟨some d,.binOp .neq xt x y yt,ty,pos,af,gd⟩ f L (.bool true):=by have:=Ff (P:=P) (d:=d) (ty:=ty) (pos:=pos) (af:=af) (gd:=gd) (xt:=xt) (yt:=yt) (L:=L) hx hy;rwa[bf c]at this
theorem QF{xt yt:TypeId}{x y:Operand}{k:IntKind}{a:Int}(hx:aH f x=.int k a)(hy:aH f y=.int k b)(c:¬(a≠b)):aP P ⟨some d,.binOp .neq xt x y yt,ty,pos,af,gd⟩ f L (.bool false):=by have:=Ff (P:=P) (d:=d) (ty:=ty) (pos:=pos) (af:=af) (gd:=gd) (xt:=xt) (yt:=yt) (L:=L) hx hy;rwa[bd c]at this
theorem Ql{xt yt:TypeId}{x y:Operand}{a b:List UInt8}(hx:aH f x=.string (S a))(hy:aH f y=.string (S b))(c:a=b):aP P ⟨some d,.binOp .eql xt x y yt,ty,pos,af,gd⟩ f L (.bool true):=by have:=CM (P:=P) (d:=d) (ty:=ty) (pos:=pos) (af:=af) (gd:=gd) (xt:=xt) (yt:=yt) (L:=L) hx hy;rwa[bf c]at this
theorem Y1{xt yt:TypeId}{x y:Operand}{a b:List UInt8}(hx:aH f x=.string (S a))(hy:aH f y=.string (S b))(c:¬(a=b)):aP P ⟨some d,.binOp .eql xt x y yt,ty,pos,af,gd⟩ f L (.bool false):=by have:=CM (P:=P) (d:=d) (ty:=ty) (pos:=pos) (af:=af) (gd:=gd) (xt:=xt) (yt:=yt) (L:=L) hx hy;rwa[bd c]at this
theorem VE{xt yt:TypeId}{x y:Operand}{a b:List UInt8}(hx:aH f x=.string (S a))(hy:aH f y=.string (S b))(c:a≠b):aP P ⟨some d,.binOp .neq xt x y yt,ty,pos,af,gd⟩ f L (.bool true):=by have:=Gf (P:=P) (d:=d) (ty:=ty) (pos:=pos) (af:=af) (gd:=gd) (xt:=xt) (yt:=yt) (L:=L) hx hy;rwa[bf c]at this
theorem Wl{xt yt:TypeId}{x y:Operand}{a b:List UInt8}(hx:aH f x=.string (S a))(hy:aH f y=.string (S b))(c:¬(a≠b)):aP P ⟨some d,.binOp .neq xt x y yt,ty,pos,af,gd⟩ f L (.bool false):=by have:=Gf (P:=P) (d:=d) (ty:=ty) (pos:=pos) (af:=af) (gd:=gd) (xt:=xt) (yt:=yt) (L:=L) hx hy;rwa[bd c]at this
variable{g:Nat}
theorem W8{s:TypeId}{x:Operand}{o a off o':Nat}(hx:aH f x=.pointer (some ⟨g,o,none⟩))(b:vj P s a=some off)(c:o+off=o'):aP P ⟨some d,.fieldAddr s x a,ty,pos,af,gd⟩ f L (.pointer (some ⟨g,o',none⟩)):=by rw[<-c];exact Pl hx b
theorem Ot{α:Type}[ab α]{v:Value}{xs:List α}{s:TypeId}{x:Operand}{i sz o off o':Nat}(hx:aH f x=fM v (i*sz+o))(c:aI L v xs)(hi:i<xs.length)(a:vj P s g=some off)(b:o+off=o'):aP P ⟨some d,.fieldAddr s x g,ty,pos,af,gd⟩ f L (fM v (i*sz+o')):=by rw[<-b];exact Y9 hx c hi a
end
variable{R R':Value->List aa->Prop}
variable{ts:Array TypeId}
theorem QP{P:Program}{n:Nat}{ops:Array Oper}{Q:bx}{f:Nat->Value}{L:List aa}{rest:List Oper}{d:Option Nat}{ty:TypeId}{pos:String}{af:Array Edge}{fn:FuncId}{xs:List Operand}{vs:List Value}
  (hd:fv n d=true)(c:∀(xs:Array Value) (w:World),(callFunc fn xs).run P w=.ok (.enter fn xs) w)(b:Fn P fn vs.toArray L R)(a:xs.map (aH f)=vs)(h:∀v L',R v L'->aM P n ops rest Q (cg f d v) L'):
  aM P n ops (⟨d,.call ⟨.value (.func fn),xs.toArray,ts⟩,ty,pos,af,none⟩::rest) Q f L:=
 aM.call rfl hd rfl c (by rw[List.map_toArray,a];exact b) h
section
variable{P:Program}{f:Nat->Value}{L:List aa}{v:Value}{dd:Option Nat}{ty:TypeId}{pos:String}{af:Array Edge}{gd:Option (Nat×Bool)}
theorem ZD{t:TypeId}{x:Operand}(h:aP P ⟨dd,.load t x,ty,pos,af,gd⟩ f L v):aP P ⟨dd,.load t x,ty,pos,af,gd⟩ f L v:=h
theorem isField{t:TypeId}{x:Operand}{i:Nat}(h:aP P ⟨dd,.fieldAddr t x i,ty,pos,af,gd⟩ f L v):aP P ⟨dd,.fieldAddr t x i,ty,pos,af,gd⟩ f L v:=h
theorem SV{t:TypeId}{x y:Operand}(h:aP P ⟨dd,.indexAddr t x y,ty,pos,af,gd⟩ f L v):aP P ⟨dd,.indexAddr t x y,ty,pos,af,gd⟩ f L v:=h
variable{aw:BinOp}
theorem WB{t u:TypeId}{x y:Operand}(h:aP P ⟨dd,.binOp aw t x y u,ty,pos,af,gd⟩ f L v):aP P ⟨dd,.binOp aw t x y u,ty,pos,af,gd⟩ f L v:=h
theorem PB{b:Builtin}{xs:Array Operand}(h:aP P ⟨dd,.call ⟨.builtin b,xs,ts⟩,ty,pos,af,gd⟩ f L v):aP P ⟨dd,.call ⟨.builtin b,xs,ts⟩,ty,pos,af,gd⟩ f L v:=h
theorem isSlice{t:TypeId}{x:Operand}{a b c:Option Operand}(h:aP P ⟨dd,.slice t x a b c,ty,pos,af,gd⟩ f L v):aP P ⟨dd,.slice t x a b c,ty,pos,af,gd⟩ f L v:=h
theorem Zi{t u:TypeId}{x y:Operand}(h:aP P ⟨dd,.binOp .lss t x y u,ty,pos,af,gd⟩ f L v):aP P ⟨dd,.binOp .lss t x y u,ty,pos,af,gd⟩ f L v:=h
theorem YX{t u:TypeId}{x y:Operand}(h:aP P ⟨dd,.binOp .eql t x y u,ty,pos,af,gd⟩ f L v):aP P ⟨dd,.binOp .eql t x y u,ty,pos,af,gd⟩ f L v:=h
theorem Sr{t u:TypeId}{x y:Operand}(h:aP P ⟨dd,.binOp .neq t x y u,ty,pos,af,gd⟩ f L v):aP P ⟨dd,.binOp .neq t x y u,ty,pos,af,gd⟩ f L v:=h
theorem QE{t u:TypeId}{x y:Operand}(h:aP P ⟨dd,.binOp .leq t x y u,ty,pos,af,gd⟩ f L v):aP P ⟨dd,.binOp .leq t x y u,ty,pos,af,gd⟩ f L v:=h
theorem Rc{t u:TypeId}{x y:Operand}(h:aP P ⟨dd,.binOp .gtr t x y u,ty,pos,af,gd⟩ f L v):aP P ⟨dd,.binOp .gtr t x y u,ty,pos,af,gd⟩ f L v:=h
theorem WR{t u:TypeId}{x y:Operand}(h:aP P ⟨dd,.binOp .geq t x y u,ty,pos,af,gd⟩ f L v):aP P ⟨dd,.binOp .geq t x y u,ty,pos,af,gd⟩ f L v:=h
theorem Xj{t u:TypeId}{x:Operand}(h:aP P ⟨dd,.convert t u x,ty,pos,af,gd⟩ f L v):aP P ⟨dd,.convert t u x,ty,pos,af,gd⟩ f L v:=h
variable{n:Nat}{ops:Array Oper}{Q:bx}{rest:List Oper}
theorem Df{t:TypeId}{x y:Operand}(h:aM P n ops (⟨dd,.store t x y,ty,pos,af,gd⟩::rest) Q f L):aM P n ops (⟨dd,.store t x y,ty,pos,af,gd⟩::rest) Q f L:=h
theorem yq{xs:Array Operand}(h:aM P n ops (⟨dd,.call ⟨.builtin .append,xs,ts⟩,ty,pos,af,gd⟩::rest) Q f L):aM P n ops (⟨dd,.call ⟨.builtin .append,xs,ts⟩,ty,pos,af,gd⟩::rest) Q f L:=h
theorem fw{o:Op}{a:Nat×Bool}(h:aM P n ops (⟨dd,o,ty,pos,af,some a⟩::rest) Q f L):aM P n ops (⟨dd,o,ty,pos,af,some a⟩::rest) Q f L:=h
end
def bS(P:Program)(f:Nat->Value)(L:List aa):ResultVar->Value->Prop
 | .tmp t,v=>f t=v
 | .cell a t,v=>∃b,f a=.pointer (some b)/\∀F w,aN w L F->(loadVar t b).run P w=.ok v w
def CD(P:Program)(f:Nat->Value)(L:List aa):List ResultVar->List Value->Prop
 |[],[]=>True
 |r::rs,v::vs=>bS P f L r v/\CD P f L rs vs
 |_,_=>False
section
variable{P:Program}{f:Nat->Value}{L:List aa}{fn:Func}
theorem KO{w:World}(g:ResultVar->Sem Value):∀{rs:List ResultVar} {vs:List Value},CD P f L rs vs->(∀r v,bS P f L r v->(g r).run P w=.ok v w)->(rs.mapM g).run P w=.ok vs w
 |[],[],_,_=>rfl
 |r::rs,v::vs,⟨h1,h2⟩,hg=>by simp only[List.mapM_cons,fe,hg r v h1,fE,KO g h2 hg,fT]
theorem oO{rs:List ResultVar}{vs:List Value}(g:fn.results=rs.toArray)(h:CD P f L rs vs):bP P fn f L (if h:vs.toArray.size=1 then vs.toArray[0]else .tuple vs.toArray):=λF w j c s=>by
 unfold results;rw[g,Array.mapM_eq_mapM_toList];simp only[fe,Sem.run_map];rw[KO _ h λr v b=>?_]
 ·rfl
 ·cases r with
  |tmp t=>
   have b:f t=v:=b;simp only[fT,c,b]
  |cell a t=>obtain⟨i,d,e⟩:=b;simp only[c,d,asAddr,fe,fT,fE,e F w s]
theorem Xu{r:ResultVar}{v:Value}(a:fn.results=#[r])(h:bS P f L r v):bP P fn f L v:=oO (rs:=[r]) (vs:=[v]) a ⟨h,trivial⟩
variable{u vl dv vt v1:Value}
theorem XN{r1 a:ResultVar}(d:fn.results=#[r1,a])(b:bS P f L r1 v1)(c:bS P f L a u):bP P fn f L (.tuple #[v1,u]):=oO (rs:=[r1,a]) (vs:=[v1,u]) d ⟨b,c,trivial⟩
theorem WO{r1 a b:ResultVar}(g:fn.results=#[r1,a,b])(c:bS P f L r1 v1)(d:bS P f L a u)(e:bS P f L b vl):bP P fn f L (.tuple #[v1,u,vl]):=oO (rs:=[r1,a,b]) (vs:=[v1,u,vl]) g ⟨c,d,e,trivial⟩
theorem Vw(a:fn.results=#[]):bP P fn f L (.tuple #[]):=oO (rs:=[]) (vs:=[]) a trivial
theorem Ul{t:Tmp}{v:Value}(h:f t=v):bS P f L (.tmp t) v:=h
variable{g:Nat}
variable{bt:TypeId}
theorem rH(i:Nat){a:Tmp}{t:TypeId}{o:Nat}{cs:List Value}{v:Value}(hx:f a=.pointer (some ⟨g,o,none⟩))(hi:L[i]?=some (ao g bt cs))(b:cR P t=some false)(c:cs[o]?=some v):bS P f L (.cell a t) v:=
 ⟨_,hx,λF w s=>ug w b (jz hi c s)⟩
theorem sn(i:Nat){a:Tmp}{t:TypeId}{cs:List Value}(hx:f a=.pointer (some ⟨g,0,none⟩))(hi:L[i]?=some (ao g bt cs))(b:cR P t=some true)(d:P.cellsOf t=cs.length)(e:Nat.blt 0 cs.length=true):bS P f L (.cell a t) (.agg cs.toArray):=
 ⟨_,hx,λF w s=>vC w b d (cT e) λj v c=>by rw[iY,mL];exact jz hi c s⟩
theorem sA{v:Value}(a:bP P fn f L v)(h:∃L',Sub L' L/\R v L'):fin P fn R .ret f L:=let ⟨L',hs,h⟩:=h;⟨v,L',a,hs,h⟩
theorem U0{v:Value}(a:bP P fn f L v)(h:∃L',Sub L' L/\R v L'):fin P fn R .normal f L:=let ⟨L',hs,h⟩:=h;⟨v,L',a,hs,h⟩
end
end
section
theorem Tm(l:List UInt8):cellsOf l=uj l:=by
 simp only[cellsOf,uj]
 induction l with
 |nil=>rfl
 |cons a l ih=>simp only[uT,kq,ih];rfl
section
variable{L:List aa}{α:Type}[ab α]{v:Value}{xs:List α}
theorem aI.cap(b:aI L v xs){w:World}{F:aU}(s:aN w L F):∃a c,v=.slice a xs.length c/\xs.length<=c/\c<=maxLen:=AV (b w F s)
theorem aI.to(b:aI L v xs){h:Nat}(a:h<=xs.length){sz:Nat}(c:ab.sz α=sz):aI L (Go.Proofs.YtogcfijlhpaeeaaGreat.bg v 0 h sz) (xs.take h):=by subst c;have:=aI.bg b (eM h) a;simpa using this
theorem aI.off(c:aI L v xs){l:Nat}(a:l<=xs.length){sz k:Nat}(d:ab.sz α=sz)(b:k=xs.length):aI L (Go.Proofs.YtogcfijlhpaeeaaGreat.bg v l k sz) (xs.drop l):=by subst d;subst b;have:=aI.bg c a (bj xs.length);rwa[ic (by simp)]at this
theorem aI.VK(c:aI L v xs){l h:Nat}(b:l<=h)(a:h<=xs.length){sz:Nat}(d:ab.sz α=sz):aI L (Go.Proofs.YtogcfijlhpaeeaaGreat.bg v l h sz) ((xs.drop l).take (h-l)):=by subst d;exact aI.bg c b a
theorem aI.Zm(c:aI L v xs){h m:Nat}(a:h<=m)(b:m<=xs.length){sz:Nat}(d:ab.sz α=sz):aI L (Go.Proofs.YtogcfijlhpaeeaaGreat.bR v 0 h m sz) (xs.take h):=by subst d;have:=aI.bR c (eM h) a b;simpa using this
end
section
variable{P:Program}{w:World}{t e:TypeId}{sz:Nat}{a:Option Addr}{k c:Nat}
theorem ri{lo hi mx:Option Value}(g:P.underlying t=some (.slice e))(f:P.cellsOf e=sz)(d:0<sz){l h m:Nat}
  (b:(Instr.sliceBounds true k c lo hi mx).run P w=.ok (l,h,m) w):(Instr.sliceAt t (.slice a k c) lo hi mx).run P w=.ok (.slice (if m=l then a else a.map (·.add (l*sz))) (h-l) (m-l)) w:=by
 simp only[Instr.sliceAt,Instr.slice,fe,cX g,fE,b,gQ w f d,fT]
theorem ny{k:IntKind}{i:Int}{y:Nat}{a:BoundsCode}(b:0<=i)(c:i<=y):(Instr.sliceBound (.int k i) y a).run P w=.ok i.toNat w:=by simp[Instr.sliceBound,asIntOf,b,c]
end
section
variable{P:Program}{n:Nat}{ops:Array Oper}{Q:bx}{f:Nat->Value}{L:List aa}{rest:List Oper}{d:Nat}{ty:TypeId}{pos:String}{af:Array Edge}{gd:Option (Nat×Bool)}
variable{α:Type}[ab α]{v:Value}{xs ys:List α}
variable{r b j h:Int}
theorem Zn{t e:TypeId}{x y:Operand}{k:IntKind}{sz:Nat}(hx:aH f x=v)(hy:aH f y=.int k h)(n:P.underlying t=some (.slice e))(i:aI L v xs)(j:P.cellsOf e=sz)(g:Nat.blt 0 sz=true)(b:0<=h)(o:h<=(xs.length:Int)):
  aP P ⟨some d,.slice t x none (some y) none,ty,pos,af,gd⟩ f L (bg v 0 h.toNat sz):=λF w s=>by
 obtain⟨a,c,rfl,p,_⟩:=i.cap s;have:=ri (P:=P) (w:=w) (a:=a) (k:=xs.length) (c:=c) (lo:=none) (hi:=some (.int k h)) (mx:=none) n j (cT g) (l:=0) (h:=h.toNat) (m:=c) (by simp only[Instr.sliceBounds,fe,fT,fE,ny b (show h<=(c:Int)by omega)]);simp[execOp,hx,hy,this,bg]
theorem Uv{t e:TypeId}{x y:Operand}{k:IntKind}{l:Int}{sz:Nat}(hx:aH f x=v)(hy:aH f y=.int k l)(o:P.underlying t=some (.slice e))(j:aI L v xs)(n:P.cellsOf e=sz)(i:Nat.blt 0 sz=true)(b:0<=l)(g:l<=(xs.length:Int)):
  aP P ⟨some d,.slice t x (some y) none none,ty,pos,af,gd⟩ f L (bg v l.toNat xs.length sz):=λF w s=>by
 obtain⟨a,c,rfl,p,_⟩:=j.cap s;have:=ri (P:=P) (w:=w) (a:=a) (k:=xs.length) (c:=c) (lo:=some (.int k l)) (hi:=none) (mx:=none) o n (cT i) (l:=l.toNat) (h:=xs.length) (m:=c) (by simp only[Instr.sliceBounds,fe,fT,fE,ny b g]);simp[execOp,hx,hy,this,bg]
variable{z:Operand}
theorem Zf{t e:TypeId}{x y:Operand}{k k':IntKind}{l:Int}{sz:Nat}(hx:aH f x=v)(hy:aH f y=.int k l)(o:aH f z=.int k' h)(n:P.underlying t=some (.slice e))(i:aI L v xs)(j:P.cellsOf e=sz)(g:Nat.blt 0 sz=true)(b:0<=l)(r:l<=h)(p:h<=(xs.length:Int)):
  aP P ⟨some d,.slice t x (some y) (some z) none,ty,pos,af,gd⟩ f L (bg v l.toNat h.toNat sz):=λF w s=>by
 obtain⟨a,c,rfl,q,_⟩:=i.cap s;have:=ri (P:=P) (w:=w) (a:=a) (k:=xs.length) (c:=c) (lo:=some (.int k l)) (hi:=some (.int k' h)) (mx:=none) n j (cT g) (l:=l.toNat) (h:=h.toNat) (m:=c) (by simp only[Instr.sliceBounds,fe,fT,fE,ny (show 0<=h by omega) (show h<=(c:Int)by omega),ny b (show l<=(h.toNat:Int)by omega)]);simp[execOp,hx,hy,o,this,bg]
theorem OR{t e:TypeId}{x y:Operand}{k k':IntKind}{m:Int}{sz:Nat}(hx:aH f x=v)(hy:aH f y=.int k h)(o:aH f z=.int k' m)(n:P.underlying t=some (.slice e))(i:aI L v xs)(j:P.cellsOf e=sz)(g:Nat.blt 0 sz=true)(b:0<=h)(r:h<=m)(p:m<=(xs.length:Int)):
  aP P ⟨some d,.slice t x none (some y) (some z),ty,pos,af,gd⟩ f L (bR v 0 h.toNat m.toNat sz):=λF w s=>by
 obtain⟨a,c,rfl,q,_⟩:=i.cap s;have:=ri (P:=P) (w:=w) (a:=a) (k:=xs.length) (c:=c) (lo:=none) (hi:=some (.int k h)) (mx:=some (.int k' m)) n j (cT g) (l:=0) (h:=h.toNat) (m:=m.toNat) (by simp only[Instr.sliceBounds,fe,fT,fE,ny (show 0<=m by omega) (show m<=(c:Int)by omega),ny b (show h<=(m.toNat:Int)by omega)]);simp[execOp,hx,hy,o,this,bR]
theorem LN{src dst e:TypeId}{x:Operand}{l:List UInt8}(hx:aH f x=v)(c:P.underlying src=some (.slice e))(a:P.underlying e=some (.int .u8))(hd:P.underlying dst=some .string)(b:aI L v l):
  aP P ⟨some d,.convert src dst x,ty,pos,af,gd⟩ f L (.string (S l)):=λF w s=>by
 have h:=b w F s;rw[Tm]at h;have:=Sl.str (P:=P) h c a hd;simp[execOp,hx,this]
theorem T3{α:Type}(l:List α)(m i:Nat)(x:α)(h:i<m):(l.set i x).take m=(l.take m).set i x:=by
 apply ux;intro j;simp only[mz,yS,dy];by_cases a:j<m
 ·by_cases b:i=j
  ·subst b;simp only[a,jn];by_cases c:i<l.length
   ·rw[an c,an U]
   ·rw[ai c,ai U]
  ·simp[a,b]
 ·have:i≠j:=U;simp[a,this]
variable{u vl dv vt v1:Value}
theorem I5{xs:List α}{i o:Nat}{b:α}(hi:i<xs.length)(e:o<ab.sz α)(a:ab.cells b=(ab.cells (xs[i]'hi)).set o u):(cellsOf xs).set (i*ab.sz α+o) u=cellsOf (xs.set i b):=by
 induction xs generalizing i with
 |nil=>simp at hi
 |cons x xs ih=>
  cases i with
  |zero=>
   simp only[uS,mL,pc,cellsOf,uT];rw[DT _ _ (by rw[ab.len];exact e)];simp at a;rw[a]
  |succ i=>
   simp only[pL,cellsOf,uT];have d:(ab.cells x).length=ab.sz α:=ab.len x;have:(i+1)*ab.sz α+o=(ab.cells x).length+(i*ab.sz α+o):=by rw[d,jr];omega
   rw[this,BV _ _ U];have c:i<xs.length:=by simpa using hi
   have:=ih c (by simpa using a);simp only[cellsOf]at this;rw[show(ab.cells x).length+(i*ab.sz α+o)-(ab.cells x).length=i*ab.sz α+o by omega,this]
theorem O3(r:Nat){t e:TypeId}{x y:Operand}{i sz o:Nat}{b:α}(hx:aH f x=fM v (i*sz+o))(hy:aH f y=u)(p:u.oneCell'=true)(q:L[r]?=some (aK v e xs))(hm:P.cellsOf t=1)(c8:ab.sz α=sz)(hi:i<xs.length)(j:Nat.blt o sz=true)
  (A:ab.cells b=(ab.cells (xs[i]'hi)).set o u)(h:aM P n ops rest Q f (L.set r (aK v e (xs.set i b)))):aM P n ops (⟨none,.store t x y,ty,pos,af,none⟩::rest) Q f L:=by
 have j:=cT j;subst c8;refine aM.nQ rfl rfl (R:=λ_ l=>l=L.set r (aK v e (xs.set i b))) (λF w s=>?_) (λv l e=>by subst e;exact h);have V:r<L.length:=(iA.1 q).1;obtain⟨hf,⟨hl,C⟩,dd,z⟩:=aN.pick q s;rcases C with⟨h0,_⟩|⟨g,m,c,rfl,rfl,a,I,c9,d6⟩
 ·omega
 ·have d:=aN.qP z g _ (aU.ld g _);have W:i*ab.sz α+o<xs.length*ab.sz α:=by have:(i+1)*ab.sz α<=xs.length*ab.sz α:=iW _ hi;rw[jr]at this;omega
  have M:i*ab.sz α+o<c.size:=by have:xs.length*ab.sz α<=m*ab.sz α:=iW _ a;omega
  have H:w.cell? ⟨g,i*ab.sz α+o,none⟩=some c[i*ab.sz α+o]:=by rw[xm d];simp[M]
  have S:w.frozen? ⟨g,i*ab.sz α+o,none⟩=false:=by rw[Eh d];simp
  refine⟨_,w.setCell ⟨g,i*ab.sz α+o,none⟩ u,_,.inr ⟨?_,rfl⟩,Rest.refl w,?_,rfl⟩
  ·simp[execOp,hx,hy,fM,Instr.storeAt,Instr.sureAddr,storeVar,xA p,gQ w hm U,storeCells,run_store P w _ u _ p,iY,H,S]
  ·refine aN.rewrite (o':=.cells (c.setIfInBounds (i*ab.sz α+o) u) e (0,0)) V dd z ?_ (λk a=>?_) ?_
   ·refine⟨cN _,.inr ⟨g,m,_,by simp,rfl,by simpa using a,I,by simpa using c9,?_⟩⟩;rw[iw,Array.toList_setIfInBounds,T3 _ _ _ _ W,d6,I5 hi j A]
   ·rw[wQ,ai a]
   ·rw[wQ,an rfl,d];simp
theorem GP(r:Nat){t e:TypeId}{x y:Operand}{i:Nat}{xs:List UInt8}(hx:aH f x=fM v (i*1+0))(hy:aH f y=.int .u8 b)(d:0<=b)(g:b<=255)(c:L[r]?=some (aK v e xs))(a:P.cellsOf t=1)(hi:i<xs.length)
  (h:aM P n ops rest Q f (L.set r (aK v e (xs.set i (UInt8.ofNat b.toNat))))):aM P n ops (⟨none,.store t x y,ty,pos,af,none⟩::rest) Q f L:=
 O3 r hx hy rfl c a rfl hi rfl (by
  show[Value.int .u8 ((UInt8.ofNat b.toNat).toNat:Int)]=[Value.int .u8 b];have:((UInt8.ofNat b.toNat).toNat:Int)=b:=by simp;omega
  rw[this]) h
end
end
section
theorem aN.conv{w:World}{L:List aa}{F:aU}{A:aa}{i:Nat}(hi:L[i]?=some A)(s:aN w L F):∃h,A h/\∀b:aa,b h->aN w (L.set i b) F:=by obtain⟨h,a,d,e⟩:=aN.pick hi s;exact⟨h,a,λb c=>aN.put (iA.1 hi).1 c d e⟩
section
variable{α:Type}[ab α]
def RoT(v:Value)(xs:List α):aa:=λh=>∃g a b t fr,v=.slice (some ⟨g,0,none⟩) xs.length a/\h=aU.one g (.cells b t fr)/\xs.length<=a/\a<=maxLen/\b.toList.take (xs.length*ab.sz α)=cellsOf xs
theorem aK.one{w:World}{F:aU}{L:List aa}{v:Value}{e:TypeId}{xs:List α}{i:Nat}(hi:L[i]?=some (aK v e xs))(s:aN w L F):v.oneCell'=true:=by obtain⟨_,⟨_,b,rfl⟩|⟨g,c,a,rfl,_⟩⟩:=rp hi s<;>rfl
theorem Sub.Y8{L:List aa}{v:Value}{e:TypeId}{xs:List α}(i:Nat)(hi:L[i]?=some (aK v e xs)){h:Nat}(o:h<=xs.length){sz:Nat}(p:ab.sz α=sz):Sub (L.set i (aK (bg v 0 h sz) e (xs.take h))) L:=λw F s=>by
 subst p;obtain⟨f,⟨t,n⟩,k⟩:=aN.conv hi s;refine k _ ⟨cN _,?_⟩;have a:(xs.take h).length=h:=by simp;omega
 rcases n with⟨q,⟨b,rfl⟩,rfl⟩|⟨g,c,d,rfl,rfl,r,j,l,m⟩
 ·have:h=0:=U;subst this;exact .inl ⟨by simp,⟨b,by simp[bg]⟩,rfl⟩
 ·refine .inr ⟨g,c,d,by simp only[bg,a];split<;>simp[iY],rfl,U,j,l,?_⟩;rw[a,<-rf,<-m,D0,qf (iW _ o)]
end
def Raw(g:Nat)(t:TypeId)(cs:List Value):aa:=λh=>h=aU.one g (.cells cs.toArray t (0,0))
variable{g:Nat}
theorem Qk{w:World}{L:List aa}{F:aU}{i o:Nat}{t:TypeId}{cs:List Value}(v:Value)(hi:L[i]?=some (Raw g t cs))(s:aN w L F):aN (w.setCell ⟨g,o,none⟩ v) (L.set i (Raw g t (cs.set o v))) F:=by
 obtain⟨h,rfl,d,a⟩:=aN.pick hi s;have b:=aN.qP a g _ (aU.ld g _);refine aN.rewrite (o':=.cells (cs.set o v).toArray t (0,0)) (iA.1 hi).1 d a rfl (λk c=>?_) ?_
 ·rw[wQ,ai c]
 ·rw[wQ,an rfl,b];simp
theorem MM{P:Program}{i g:Nat}{bt:TypeId}{F:aU}:∀(vs:List Value) (j o:Nat) (w:World) (L:List aa) (cs:List Value),L[i]?=some (Raw g bt cs)->o+j+vs.length<=cs.length->(∀v∈vs,v.oneCell'=true)->aN w L F->
  ∃w',(storeCells ⟨g,o,none⟩ vs j).run P w=.ok () w'/\Rest w w'/\aN w' (L.set i (Raw g bt (cs.take (o+j)++vs++cs.drop (o+j+vs.length)))) F
 |[],j,o,w,L,cs,hi,hl,h1,s=>by
  refine⟨w,by simp[storeCells],Rest.refl w,?_⟩;have:cs.take (o+j)++[]++cs.drop (o+j+([]:List Value).length)=cs:=by simp only[ck,jx,tn,mi]
  rw[this,uA hi];exact s
 |v::vs,j,o,w,L,cs,hi,hl,h1,s=>by
  simp at hl;have l:o+j<cs.length:=U;have b:w.heap[g]?=some (.cells cs.toArray bt (0,0)):=by obtain⟨h,rfl,d,r⟩:=aN.pick hi s;exact aN.qP r g _ (aU.ld g _)
  have c:w.cell? ⟨g,o+j,none⟩=some cs[o+j]:=by rw[xm b];simp[l]
  have f:w.frozen? ⟨g,o+j,none⟩=false:=by rw[Eh b];simp
  have p:=Qk (o:=o+j) v hi s;have k:i<L.length:=(iA.1 hi).1;obtain⟨w',m,n,a⟩:=MM (P:=P) (i:=i) (g:=g) (bt:=bt) vs (j+1) o (w.setCell ⟨g,o+j,none⟩ v) (L.set i (Raw g bt (cs.set (o+j) v))) (cs.set (o+j) v) (by simp[k]) (by simp;omega) (λu q=>h1 u (eu _ q)) p;refine⟨w',?_,n,?_⟩
  ·simp[storeCells,iY,run_store P w _ v _ (h1 v (fP ..)),c,f,m]
  ·rw[pD]at a;have e:=EW cs (o+j) v vs U;rw[show o+(j+1)=o+j+1 by omega,e]at a;simpa using a
section
variable{α:Type}[ab α]
variable{zs us fs:List Value}
theorem yy{P:Program}{w:World}{L:List aa}{F:aU}{v:Value}{e:TypeId}{xs xs':List α}{i o:Nat}(hi:L[i]?=some (aK v e xs))(u:o+us.length<=xs.length*ab.sz α)(Q:0<us.length)(p:us.all Value.oneCell'=true)
  (hx:(cellsOf xs).take o++us++(cellsOf xs).drop (o+us.length)=cellsOf xs')(d:xs'.length=xs.length)(s:aN w L F):
  ∃g w',(∃c,v=.slice (some ⟨g,0,none⟩) xs.length c)/\(storeCells ⟨g,o,none⟩ us 0).run P w=.ok () w'/\Rest w w'/\aN w' (L.set i (aK v e xs')) F:=by
 obtain⟨f,⟨M,q⟩,k⟩:=aN.conv hi s;rcases q with⟨n,_⟩|⟨g,a,b,rfl,rfl,j,t,R,z⟩
 ·rw[n]at u;omega
 ·have H:=k (Raw g e b.toList) (by simp[Raw]);have h:i<L.length:=(iA.1 hi).1;have I:xs.length*ab.sz α<=a*ab.sz α:=iW _ j;obtain⟨w',x,y,l⟩:=MM (P:=P) (i:=i) (g:=g) (bt:=e) us 0 o w _ b.toList (by simp[h]) (by simp;omega) (by simpa using p) H;refine⟨g,w',⟨_,rfl⟩,x,y,?_⟩;rw[pD]at l;obtain⟨h',rfl,C⟩:=aN.conv (i:=i) (A:=Raw g e _) (by rw[tM (by simp[h])]) l;have m:=C (aK (.slice (some ⟨g,0,none⟩) xs.length a) e xs') ⟨cN _,.inr ⟨g,a,_,by rw[d],rfl,by rw[d];exact j,t,by simp;omega,by rw[d,<-hx,<-z];simp only[D0,List.drop_take,tn,qf (show o<=xs.length*ab.sz α by omega)];have r:o<=b.size:=U;rw[DZ,ic (by simp;omega)];congr 2;simp[qf r]⟩⟩;rw[pD]at m;exact m
theorem GB{zero:Array Value}{z:α}(e:zero.toList=ab.cells z)(m:Nat):(Builtin.zeroCells zero m).toList=cellsOf (List.replicate m z):=by
 have g:0<ab.sz α:=ab.pos;have d:zero.size=ab.sz α:=by rw[<-Array.length_toList,e,ab.len]
 refine ux λj=>?_;by_cases b:j<m*ab.sz α
 ·have hi:j/ab.sz α<(List.replicate m z).length:=by simp;exact yA (by rw[pE];exact b)
  have c:j%ab.sz α<ab.sz α:=zk _ g;have f:j=j/ab.sz α*ab.sz α+j%ab.sz α:=by rw[pE];exact(Nat.div_add_mod _ _).symm
  have a:=AN (xs:=List.replicate m z) hi c;rw[<-f]at a;rw[a,yw,<-e];simp[Builtin.zeroCells,d,b,oX,c]
 ·rw[pG (by simp[Builtin.zeroCells,d];omega),pG (by rw[cN];simp;omega)]
end
section
variable{P:Program}{n:Nat}{ops:Array Oper}{Q:bx}{f:Nat->Value}{L:List aa}{rest:List Oper}{d:Nat}{ty:TypeId}{pos:String}{af:Array Edge}{gd:Option (Nat×Bool)}
variable{α:Type}[ab α]{v:Value}{xs ys:List α}
variable{zs us fs:List Value}
theorem zT(i:Nat){x:Operand}{t e:TypeId}{l k sz:Nat}(z:α)(hx:aH f x=bg v l k sz)(hi:L[i]?=some (aK v e xs))(y:k=xs.length)(M:ab.sz α=sz)(p:P.underlying t=some (.slice e))(V:fI P e=some zs)(W:ab.cells z=zs)(hl:l<=xs.length)
  (h:aM P n ops rest Q f (L.set i (aK v e (xs.take l++List.replicate (xs.length-l) z)))):aM P n ops (⟨none,.call ⟨.builtin .clear,#[x],#[t]⟩,ty,pos,af,none⟩::rest) Q f L:=by
 subst M;subst y;subst W;refine aM.nQ rfl rfl (R:=λ_ b=>b=L.set i (aK v e (xs.take l++List.replicate (xs.length-l) z))) (λF w s=>?_) (λv b e=>by subst e;exact h);obtain⟨z',C,q⟩:=vZ w V;by_cases A:l=xs.length
 ·subst A;have:xs.take xs.length++List.replicate (xs.length-xs.length) z=xs:=by simp
  rw[this,uA hi];refine⟨.tuple #[],w,_,.inl ?_,Rest.refl w,s,rfl⟩;obtain⟨_,a,c,rfl,_⟩:=(aI.row i hi) w F s;by_cases r:c=xs.length<;>cases a<;>simp[execOp,hx,resolve,invoke,builtin,Builtin.clear_,bg,cX p,r]
 ·have S:((Builtin.zeroCells z'.cells (xs.length-l)).toList)=cellsOf (List.replicate (xs.length-l) z):=GB (by rw[q]) _;obtain⟨g,w',⟨c,rfl⟩,j,H,I⟩:=yy (P:=P) (w:=w) (o:=l*ab.sz α) (us:=cellsOf (List.replicate (xs.length-l) z)) (xs':=xs.take l++List.replicate (xs.length-l) z) hi (by rw[cN,ju,<-jr];exact iW _ U) (by rw[cN,ju];exact yY U ab.pos) (by rw[kW];exact uy _) (by rw[cN,ju,<-jr,rf,nR];have:(cellsOf xs).drop ((l+(xs.length-l))*ab.sz α)=[]:=pk (by rw[cN];exact iW _ U);rw[this,ck]) (by simp;omega) s;refine⟨.tuple #[],w',_,.inl ?_,H,I,rfl⟩;obtain⟨_,_,u,c8,_⟩:=(aI.row i hi).cap s;cases u;obtain⟨m,d⟩:∃m,xs.length-l=m+1:=⟨xs.length-l-1,U⟩;rw[<-S,d]at j;simp[execOp,hx,resolve,invoke,builtin,Builtin.clear_,bg,cX p,show¬c=l by omega,d,C,iY,j]
def nY(sz:Nat)(i:Nat):Option (Nat×Nat):=some (i*sz,sz)
def jh(zs:List Value):Nat->List Value
 |0=>[]
 |m+1=>zs++jh zs m
theorem Qj(e:0<zs.length):∀m,((Array.range (m*zs.length)).map λj=>zs.toArray[j%zs.length]!).toList=jh zs m:=by
 have d:∀m j,(jh zs m)[j]?=if j<m*zs.length then some (zs.toArray[j%zs.length]!)else none:=by
  intro m
  induction m with
  |zero=>intro j;simp[jh]
  |succ m ih=>
   intro j;simp only[jh];by_cases b:j<zs.length
   ·rw[qH b,an (by rw[jr];omega),uB b];simp[b]
   ·rw[AU U,ih,jr];by_cases c:j-zs.length<m*zs.length
    ·rw[an c,an U,Nat.mod_eq_sub_mod (a:=j) U]
    ·rw[ai c,ai U]
 intro m;refine ux λj=>?_;rw[d];by_cases b:j<m*zs.length
 ·rw[an b];simp[b]
 ·rw[ai b];simp;omega
variable{ps:List (Nat×List Value)}
theorem Aw{w:World}{t e:TypeId}{sz m:Nat}{vs:List Value}{parts:List (Nat×Operand)}(x:P.underlying t=some (.slice e))(v:P.cellsOf e=sz)(d:Nat.blt 0 sz=true)(b:Nat.blt 0 m=true)(c:Nat.ble (m*sz) 16777216=true)(y:fI P e=some zs)(A:zs.length=sz)
  (k:bN f parts ps)(a:((lay (nY sz) (jh zs m) ps).bind kF)=some vs):(Instr.buildSlice t m (parts.toArray.map λ(p:Nat×Operand)=>(p.1,aH f p.2))).run P w=.ok (.slice (some ⟨w.heap.size,0,none⟩) m m) (w.alloc (.cells vs.toArray e)):=by
 have d:=cT d;have b:=cT b;have c:=cT c;obtain⟨z,u,g⟩:=vZ w y;have q:lay (nY sz) (jh zs m) ps=some vs:=by
  cases h:lay (nY sz) (jh zs m) ps with
  |none=>rw[h]at a;cases a
  |some z=>rw[h]at a;rw[<-pJ a]
 subst A;have l:=zM (nY zs.length) (parts.map λp=>(p.1,aH f p.2)) ((Array.range (m*zs.length)).map λj=>zs.toArray[j%zs.length]!) vs (by rw[Qj U,AO k];exact q);have s:(parts.toArray.map λ(p:Nat×Operand)=>(p.1,aH f p.2)).toList=parts.map λp=>(p.1,aH f p.2):=by simp
 have r:¬m*zs.length=0:=by have:0<m*zs.length:=yY U U;omega
 have o:¬m*zs.length>2^24:=U;have n:Instr.fill (λi=>some (i*zs.length,zs.length)) ((Array.range (m*zs.length)).map λj=>zs.toArray[j%zs.length]!) (parts.map λp=>(p.1,aH f p.2))=some vs.toArray:=l;simp only[Instr.buildSlice,fe,cX x,fE,gQ w v U,ai o,ai r,u,fT,g,s,Gn,n];simp[newRow]
theorem xJ{t e:TypeId}{sz m:Nat}{vs:List Value}{parts:List (Nat×Operand)}(xs:List α)(hd:Nat.blt d n=true)(q:P.underlying t=some (.slice e))(o:P.cellsOf e=sz)(b:Nat.blt 0 sz=true)(k:Nat.blt 0 m=true)(a:Nat.ble (m*sz) 16777216=true)(u:fI P e=some zs)(x:zs.length=sz)
  (i:bN f parts ps)(j:((lay (nY sz) (jh zs m) ps).bind kF)=some vs)(hx:cellsOf xs=vs)(r:xs.length=m)(p:ab.sz α=sz)
  (h:∀g,aM P n ops rest Q (aZ f d (.slice (some ⟨g,0,none⟩) m m)) (aK (.slice (some ⟨g,0,none⟩) m m) e xs::L)):aM P n ops (⟨some d,.buildSlice t m parts.toArray,ty,pos,af,none⟩::rest) Q f L:=by
 subst hx;subst r;subst p;refine aM.nQ rfl hd (R:=λv c=>∃g,v=.slice (some ⟨g,0,none⟩) xs.length xs.length/\c=aK (.slice (some ⟨g,0,none⟩) xs.length xs.length) e xs::L) (λF w s=>?_) (λv c e=>by obtain⟨g,rfl,rfl⟩:=e;exact h g);have l:=Aw (P:=P) (w:=w) q o b k a u x i j;have a:=cT a;have b:=cT b;refine⟨.slice (some ⟨w.heap.size,0,none⟩) xs.length xs.length,w.alloc (.cells (cellsOf xs).toArray e),_,.inl (by simp only[execOp,fe,l,fE,fT]),Rest.alloc (Rest.refl w) _,aN.alloc _ s ?_,w.heap.size,rfl,rfl⟩;refine⟨cN _,.inr ⟨w.heap.size,_,_,rfl,rfl,bj _,?_,by simp[cN],by rw[<-cN];simp⟩⟩;have:xs.length*1<=xs.length*ab.sz α:=Nat.mul_le_mul_left _ U;unfold maxLen;omega
def Xe:List Value->Option (List UInt8)
 |[]=>some []
 | .int .u8 (.ofNat m)::l=>match Nat.blt m 256,Xe l with
  |true,some r=>some (UInt8.ofNat m::r)
  |_,_=>none
 |_=>none
variable{u vl dv vt v1:Value}
theorem yM(i:Nat){x y:Operand}{t e:TypeId}{sz by_:Nat}(hd:Nat.blt d n=true)(hx:aH f x=v)(hi:L[i]?=some (aK v e xs))(hy:aH f y=u)(k:aI L u ys)(r:P.underlying t=some (.slice e))
  (p:P.cellsOf e=sz)(q:ab.sz α=sz)(j:P.bytesOf e=by_)(g:Nat.blt 0 by_=true)(z:fI P e=some zs)(A:zs.length=sz)(c:(xs.length+ys.length)*by_<=140737488355328)
  (h:∀a,a.oneCell'=true->aM P n ops rest Q (aZ f d a) (L.set i (aK a e (xs++ys)))):aM P n ops (⟨some d,.call ⟨.builtin .append,#[x,y],#[t,t]⟩,ty,pos,af,none⟩::rest) Q f L:=by
 refine aM.nQ rfl hd (R:=λa L'=>a.oneCell'=true/\L'=L.set i (aK a e (xs++ys))) (λF w s=>?_) (λa L' e=>by obtain⟨o,rfl⟩:=e;exact h a o);obtain⟨a,w',m,l,b⟩:=MI (P:=P) (ty:=ty) hi k r p q j (cT g) z A c s;exact⟨a,w',_,.inl (by simp[execOp,resolve,invoke,builtin,hx,hy,m]),l,b,aK.one (by rw[tM (iA.1 hi).1]) b,rfl⟩
theorem yU{x y:Operand}{b:Option Addr}{t e:TypeId}{sz by_:Nat}(hd:Nat.blt d n=true)(hx:aH f x=.slice b 0 0)(hy:aH f y=u)(l:aI L u ys)(v:P.underlying t=some (.slice e))
  (q:P.cellsOf e=sz)(r:ab.sz α=sz)(k:P.bytesOf e=by_)(j:Nat.blt 0 by_=true)(z:fI P e=some zs)(A:zs.length=sz)(g:ys.length*by_<=140737488355328)
  (h:∀a,a.oneCell'=true->aM P n ops rest Q (aZ f d a) (aK a e ys::L)):aM P n ops (⟨some d,.call ⟨.builtin .append,#[x,y],#[t,t]⟩,ty,pos,af,none⟩::rest) Q f L:=by
 refine aM.nQ rfl hd (R:=λa L'=>a.oneCell'=true/\L'=aK a e ys::L) (λF w s=>?_) (λa L' e=>by obtain⟨o,rfl⟩:=e;exact h a o);have C:aN w (aK (.slice b 0 0) e ([]:List α)::L) F:=aN.Cx s (Gb b e);obtain⟨a,w',p,m,c⟩:=MI (P:=P) (ty:=ty) (i:=0) (L:=aK (.slice b 0 0) e ([]:List α)::L) (xs:=[]) rfl (aI.sub l (Sub.drop _ (Sub.refl L))) v q r k (cT j) z A (by simpa using g) C;exact⟨a,w',_,.inl (by simp[execOp,resolve,invoke,builtin,hx,hy,p]),m,by simpa using c,aK.one (i:=0) rfl c,rfl⟩
end
theorem aI.ca{α:Type}[ab α]{L:List aa}{v:Value}{xs:List α}(d:aI L v xs)(w:World)(F:aU)(s:aN w L F):∃a c,v=.slice a xs.length c/\(a=none->c=0/\xs.length=0):=by obtain⟨_,a,c,rfl,e,f,b,_⟩:=d w F s;exact⟨a,c,rfl,λh=>⟨b h,by have:=b h;omega⟩⟩
section
variable{P:Program}{f:Nat->Value}{L:List aa}{d:Nat}{ty:TypeId}{pos:String}{af:Array Edge}{gd:Option (Nat×Bool)}{xt yt e:TypeId}{x y:Operand}{a:Option Addr}{k c k' c':Nat}
theorem OZ{w:World}(b:P.underlying xt=some (.slice e)):(Op.equal xt (.slice a k c) (.slice none k' c')).run P w=.ok a.isNone w:=by show(Op.equalIn (9999+1) xt (.slice a k c) (.slice none k' c')).run P w=_;rw[Op.equalIn];cases a<;>simp[cX b]
theorem TL{b:Bool}(hx:aH f x=.slice a k c)(hy:aH f y=.slice none k' c')(h:P.underlying xt=some (.slice e))(g:a.isNone=b):aP P ⟨some d,.binOp .eql xt x y yt,ty,pos,af,gd⟩ f L (.bool b):=
 pr hx hy (λw=>by simp[eqGuard]) (λw=>by simp only[binOp,fe,OZ h,fE,fT,g])
end
theorem jB{v:Value}{l h sz:Nat}(a:v.oneCell'=true):(bg v l h sz).oneCell'=true:=by
 unfold bg;split
 ·rfl
 ·first|exact a|rfl
structure Bv where
 v:Value
 one:v.oneCell'=true
 l:List UInt8
instance:ab Bv:=⟨1,λb=>[b.v],by decide,λ_=>rfl,λb=>by simp[b.one]⟩
def pull:Nat->List aa->Option (aa×List aa)
 |0,A::L=>some (A,L)
 |i+1,A::L=>match pull i L with
  |some (B,L')=>some (B,A::L')
  |none=>none
 |_,[]=>none
def oe:List Nat->List aa->List aa
 |[],L=>L
 |i::is,L=>match pull i (oe is L)with
  |some (B,L')=>B::L'
  |none=>oe is L
theorem Mr:∀(i:Nat) {L L':List aa} {B:aa},pull i L=some (B,L')->Sub (B::L') L
 |0,A::L,_,_,h=>by cases h;exact Sub.refl _
 |i+1,A::L,L',B,h=>by
  simp only[pull]at h;split at h
  ·rename_i c a b;cases h;exact Sub.trans (Sub.front (L:=A::B::a) 1 rfl) (Sub.cons A (Mr i b))
  ·cases h
theorem iT:∀(a:List Nat) (L:List aa),Sub (oe a L) L
 |[],L=>Sub.refl L
 |i::a,L=>by
  have h:=iT a L;simp only[oe];split
  ·rename_i b;exact Sub.trans (Mr i b) h
  ·exact h
variable{R R':Value->List aa->Prop}
variable{ts:Array TypeId}
variable{M L' L1 As:List aa}
theorem bc(a:List Nat){P:Program}{n:Nat}{ops:Array Oper}{Q:bx}{f:Nat->Value}{L:List aa}{rest:List Oper}{d:Option Nat}{ty:TypeId}{pos:String}{af:Array Edge}{fn:FuncId}{xs:List Operand}{vs:List Value}
  (hd:fv n d=true)(g:∀(xs:Array Value) (w:World),(callFunc fn xs).run P w=.ok (.enter fn xs) w)(e:oe a L=L1)(b:xs.map (aH f)=vs)(c:Fn P fn vs.toArray L1 R)(h:∀v L',R v L'->aM P n ops rest Q (cg f d v) L'):
  aM P n ops (⟨d,.call ⟨.value (.func fn),xs.toArray,ts⟩,ty,pos,af,none⟩::rest) Q f L:=
 QP hd g (c.sub (by subst e;exact iT a L)) b h
def Jy(a:List Nat)(ops:Array Oper)(i:Nat):Nat:=match a.any (Nat.beq i)with
 |true=>2
 |false=>sj ops i
theorem Ex.Af{P:Program}{n:Nat}{ops:Array Oper}{Q:bx}{f:Nat->Value}{L:List aa}(m:Nat)(a:List Nat)(Lb:List aa)(c:P.follows .mixedOrders=true)(d:nL n ops (Jy a ops) m=true)(b:bk Lb L)
  (h:aX P n ops (Jy a ops) Lb (λf L=>aM P n ops (ops.toList.drop m) Q f L) (idx 0 (ops.toList.take m)) f L):Ex P n (.region g ops true) Q f L:=
 Ex.mix m _ Lb c d b h
theorem Ex.QA(a:List Nat){P:Program}{n:Nat}{c:Code}{Q:bx}{f:Nat->Value}{L:List aa}(b:oe a L=L1)(h:Ex P n c Q f L1):Ex P n c Q f L:=Ex.sub h (by subst b;exact iT a L)
variable{G' p:Prop}
theorem Ex.xH{P:Program}{n:Nat}{c:Code}{Q:bx}{f:Nat->Value}{L:List aa}(d:∀w F,aN w L F->p)(h:p->Ex P n c Q f L):Ex P n c Q f L:=λD F w0 f0 ws a w H b=>h (d w F H.2.2.1) D F w0 f0 ws a w H b
theorem aM.sub{P:Program}{n:Nat}{ops:Array Oper}{Q:bx}{f:Nat->Value}{L:List aa}{l:List Oper}(h:aM P n ops l Q f L')(c:Sub L' L):aM P n ops l Q f L:=λD F w0 f0 ws a w ⟨r,b,s,k⟩ hc=>h D F w0 f0 ws a w ⟨r,b,c w F s,k⟩ hc
end
def jl:=@Kp.refl
def kG:=@Kp.trans
def kg:=@Kp.alloc
def kT:=@Kp.drew
def kM:=@Kp.drewN
def kX:=@Kp.setCell
def kN:=@Kp.ext
def lb:=@Kp.put
def vJ:=@aU.qO
def DJ:=@aU.add_left_comm
def wL:=@aU.qM
def nz:=@aU.ld
def bW:=@Sub.refl
def iC:=@Sub.drop
def bl:=@Sub.cons
def jE:=@Sub.N2
def ar:=@Sub.trans
def mm:=@Sub.front
def gO:=@Rest.refl
def Bl:=@Rest.trans
def yJ:=@Rest.alloc
def bF:=@Ex.sub
def vy:=@Ex.seq
def fx:=@Ex.UQ
def Bb:=@leastOf_spec
def bm:=@Ex.loop
def ll:=@Ex.SE
def ti:=@gB.mW
def bn:=@aM.nil
def lr:=@aM.nQ
def cH:=@aM.val
def fH:=@aM.Ri
def wV:=@Fn.sub
def wH:=@Fn.ZR
def vW:=@aN.pick
def ue:=@aN.qP
def qx:=@aN.alloc
def gr:=@aI.row
def mC:=@aI.nil
def Dw:=@aN.rewrite
def xw:=@aN.drew
def BR:=@wrap_u8
def wB:=@wrap_u32
def qs:=@wrap_u64
def eb:=@bk.refl
def gC:=@bk.of
def wU:=@aP.congr
def bU:=@Ex.PD
def ni:=@aI.off
def xD:=@Sub.Y8
def fh:=@Ex.QA
def cb:=@aM.sub
end Go.Proofs.YtogcfijlhpaeeaaGreat
