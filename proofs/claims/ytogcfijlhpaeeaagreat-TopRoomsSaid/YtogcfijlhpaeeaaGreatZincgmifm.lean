/- Texts, one behind the other. No condition. -/
import Derived.BigQuiet
import Derived.Deep.QuietTactic
import Derived.Deep.Slices
import Derived.Handy
import Derived.IntWalk
import Derived.Laws.BytesArg
import Derived.Lib.ConvBytes
import Derived.Lib.Hide
import Derived.StillTailTactics
import Derived.WalkKit
import Derived.WalkSmall
open Go.RowKit
set_option linter.unusedSimpArgs false
set_option linter.unusedVariables false
set_option linter.unusedSectionVars false
set_option maxHeartbeats 32000000
namespace Go.Proofs.YtogcfijlhpaeeaaGreat
section
theorem size_drewN (w:World) (n:Nat):(w.drewN n).heap.size=w.heap.size:=rfl
def Kp (w w':World):Prop:=Below w.heap.size w w'
theorem Kp.refl (w:World):Kp w w:=Below.refl _ _
theorem Kp.trans {a b c:World} (h:Kp a b) (k:Kp b c):Kp a c:=Below.trans h (Below.mono k (Below.size h))
theorem Kp.alloc {a w:World} (h:Kp a w) (o:Obj):Kp a (w.alloc o):=Below.alloc h (Below.size h) o
theorem Kp.drew {a w:World} (h:Kp a w):Kp a w.drew:=Below.drew h
theorem Kp.drewN {a w:World} (h:Kp a w) (n:Nat):Kp a (w.drewN n):=below_drewN h n
theorem Kp.setCell {a w:World} (h:Kp a w) {p:Addr} (hp:a.heap.size≤p.block) (u:Value):Kp a (w.setCell p u):=Below.setCell h hp u
theorem Kp.cell {w w':World} (h:Kp w w') {p:Addr} (hp:p.block<w.heap.size):w'.cell? p=w.cell? p:=Below.cell h hp
theorem Kp.frozen {w w':World} (h:Kp w w') {p:Addr} (hp:p.block<w.heap.size):w'.frozen? p=w.frozen? p:=Below.frozen h hp
theorem Kp.block {w w':World} (h:Kp w w') (k:Nat) (hk:k<w.heap.size):w'.heap[k]?=w.heap[k]?:=Below.block h k hk
def Yes (w:World) (e:Ending) (w':World):Prop:=e=.returned (.bool true)∧Kp w w'
def I64 (n:Int):Prop:=-9223372036854775808≤n∧n≤9223372036854775807
end
end Go.Proofs.YtogcfijlhpaeeaaGreat
namespace Go
open Go.Proofs.YtogcfijlhpaeeaaGreat
structure Later where
 blocks:Array Obj
 drawn:Nat
instance Later.inh:Nonempty Later:=⟨⟨#[],0⟩⟩
def World.ext (w:World) (x:Later):World:={ w with heap:=w.heap++x.blocks,drawn:=x.drawn }
def Later.grow (x:Later):Nat:=x.blocks.size
theorem kp_ext (w:World) (x:Later):Kp w (w.ext x):=by
 show RowKit.Below _ _ _
 refine ⟨rfl,rfl,rfl,by simp [World.ext],fun k hk=>?_⟩
 simp only [World.ext]
 rw [Array.getElem?_append_left hk]
def Later.cellAt (x:Later) (w:World) (a:Addr):Option Value:=(w.ext x).cell? a
def Later.frozenAt (x:Later) (w:World) (a:Addr):Bool:=(w.ext x).frozen? a
def World.setHere (w:World) (p:Addr) (v:Value):World:=w.setCell p v
def noFreeze:Bool:=false
namespace ExtLaws
@[go_sem] theorem ite_noFreeze {α:Type} (a b:α):(if noFreeze=true then a else b)=b:=rfl
@[go_sem] theorem size_ext (w:World) (x:Later):(w.ext x).heap.size=w.heap.size+x.grow:=by
 simp [World.ext,Later.grow]
@[go_sem high] theorem cell_ext (w:World) (x:Later) (b o:Nat) (s:Option Nat):(w.ext x).cell? ⟨b,o,s⟩=if b<w.heap.size then w.cell? ⟨b,o,s⟩ else x.cellAt w ⟨b,o,s⟩:=by
 split
 ·exact Kp.cell (kp_ext w x) ‹_›
 ·rfl
@[go_sem high] theorem frozen_ext (w:World) (x:Later) (b o:Nat) (s:Option Nat):(w.ext x).frozen? ⟨b,o,s⟩=if b<w.heap.size then w.frozen? ⟨b,o,s⟩ else x.frozenAt w ⟨b,o,s⟩:=by
 split
 ·exact Kp.frozen (kp_ext w x) ‹_›
 ·rfl
@[go_sem high] theorem cell_alloc (w:World) (c:Array Value) (t:TypeId) (n i:Nat):(w.alloc (.cells c t)).cell? ⟨n,i,none⟩=if n<w.heap.size then w.cell? ⟨n,i,none⟩ else if n=w.heap.size then c[i]? else none:=by
 split
 ·exact World.cell?_alloc_lt w _ ⟨n,i,none⟩ ‹_›
 ·split
  ·(subst n;exact World.cell?_alloc_new w c t i)
  ·rw [World.cell?_alloc_old _ _ _ ‹_›]
   simp [World.cell?,Array.getElem?_eq_none (show w.heap.size≤n by omega)]
@[go_sem high] theorem frozen_alloc (w:World) (c:Array Value) (t:TypeId) (n i:Nat):(w.alloc (.cells c t)).frozen? ⟨n,i,none⟩=if n<w.heap.size then w.frozen? ⟨n,i,none⟩ else noFreeze:=by
 unfold noFreeze
 split
 ·exact World.frozen?_alloc_old w _ ⟨n,i,none⟩ (Nat.ne_of_lt ‹_›)
 ·by_cases h:n=w.heap.size
  ·(subst n;exact World.frozen?_alloc_new w c t i)
  ·rw [World.frozen?_alloc_old _ _ _ h]
   simp [World.frozen?,Array.getElem?_eq_none (show w.heap.size≤n by omega)]
@[go_sem high] theorem setCell_ext (w:World) (x:Later) (b o:Nat) (s:Option Nat) (v:Value):(w.ext x).setCell ⟨b,o,s⟩ v=if b<w.heap.size then (w.setCell ⟨b,o,s⟩ v).ext x else (w.ext x).setHere ⟨b,o,s⟩ v:=by
 split
 ·rename_i hb
  unfold World.setCell World.ext
  congr 1
  apply Array.ext_getElem?
  intro k
  simp only [Array.getElem?_modify]
  by_cases hk:k<w.heap.size
  ·rw [Array.getElem?_append_left hk,Array.getElem?_append_left (by simpa using hk),Array.getElem?_modify]
  ·rw [Array.getElem?_append_right (by omega),Array.getElem?_append_right (by simp;omega)]
   rw [if_neg (by omega)]
   simp
 ·rfl
@[go_sem high] theorem setCell_alloc (w:World) (c:Array Value) (t:TypeId) (fr:Nat×Nat) (n i:Nat) (v:Value):(w.alloc (.cells c t fr)).setCell ⟨n,i,none⟩ v =
  if n<w.heap.size then (w.setCell ⟨n,i,none⟩ v).alloc (.cells c t fr) else if n=w.heap.size then w.alloc (.cells (c.setIfInBounds i v) t fr) else (w.alloc (.cells c t fr)).setHere ⟨n,i,none⟩ v:=by
 split
 ·rename_i hn
  unfold World.setCell World.alloc
  congr 1
  apply Array.ext_getElem?
  intro k
  simp only [Array.getElem?_modify,Array.getElem?_push,Array.size_modify]
  by_cases hk:k=w.heap.size
  ·subst hk
   simp [Nat.ne_of_lt hn]
  ·simp [hk]
 ·split
  ·subst n
   unfold World.setCell World.alloc
   congr 1
   apply Array.ext_getElem?
   intro k
   simp only [Array.getElem?_modify,Array.getElem?_push]
   by_cases hk:k=w.heap.size
   ·subst hk;simp
   ·simp [hk,Ne.symm hk]
  ·rfl
theorem i64_and (k:Nat) (hk:k<63) (m:Int) (hm:(BitVec.ofInt 64 m).toNat=2 ^ k - 1) (n:Int):bits .and .i64 n m=n % (2 ^ k:Nat):=by
 have key:(BitVec.ofInt 64 n &&& BitVec.ofInt 64 m).toNat=(n % ((2 ^ 64:Nat):Int)).toNat % 2 ^ k:=by
  rw [BitVec.toNat_and,BitVec.toNat_ofInt,hm,Nat.and_two_pow_sub_one_eq_mod]
 have e:((2:Nat) ^ 64:Nat)=2 ^ k * 2 ^ (64 - k):=by rw [← Nat.pow_add];congr 1;omega
 have hp:0<2 ^ k:=Nat.two_pow_pos k
 have hlt:2 ^ k≤2 ^ 62:=Nat.pow_le_pow_right (by omega) (by omega)
 have h2:((n % ((2 ^ 64:Nat):Int)).toNat % 2 ^ k:Nat)=(n % ((2 ^ k:Nat):Int)).toNat:=by
  have a1:0≤n % ((2 ^ 64:Nat):Int):=Int.emod_nonneg _ (by decide)
  have a2:0≤n % ((2 ^ k:Nat):Int):=Int.emod_nonneg _ (by omega)
  apply Int.ofNat.inj
  show (((n % ((2 ^ 64:Nat):Int)).toNat % 2 ^ k:Nat):Int)=((n % ((2 ^ k:Nat):Int)).toNat:Int)
  rw [Int.natCast_emod,Int.toNat_of_nonneg a1,Int.toNat_of_nonneg a2,e,Int.natCast_mul,Int.emod_emod_of_dvd]
  exact Int.dvd_mul_right _ _
 show IntKind.i64.wrap ((BitVec.ofInt 64 n &&& BitVec.ofInt 64 m).toNat:Nat)=_
 have a2:0≤n % ((2 ^ k:Nat):Int):=Int.emod_nonneg _ (by omega)
 have a3:n % ((2 ^ k:Nat):Int)<((2 ^ k:Nat):Int):=Int.emod_lt_of_pos _ (by omega)
 rw [key,h2,Int.toNat_of_nonneg a2,IntKind.wrap_i64]
 have:(2:Nat) ^ 62=4611686018427387904:=by decide
 omega
@[go_sem] theorem i64_and1023 (n:Int):bits .and .i64 n 1023=n % 1024:=i64_and 10 (by decide) 1023 (by decide) n
@[go_sem] theorem i64_and511 (n:Int):bits .and .i64 n 511=n % 512:=i64_and 9 (by decide) 511 (by decide) n
@[go_sem] theorem i64_and1 (n:Int):bits .and .i64 n 1=n % 2:=i64_and 1 (by decide) 1 (by decide) n
@[go_sem] theorem i64_and3 (n:Int):bits .and .i64 n 3=n % 4:=i64_and 2 (by decide) 3 (by decide) n
@[go_sem] theorem i64_and20 (n:Int):bits .and .i64 n 1048575=n % 1048576:=i64_and 20 (by decide) 1048575 (by decide) n
end ExtLaws
end Go
namespace Go.Proofs.YtogcfijlhpaeeaaGreat
theorem Kp.ext {a w:World} (h:Kp a w) (x:Later):Kp a (w.ext x):=Kp.trans h (kp_ext w x)
end Go.Proofs.YtogcfijlhpaeeaaGreat
namespace Go.Proofs.YtogcfijlhpaeeaaGreat
end Go.Proofs.YtogcfijlhpaeeaaGreat
namespace Go
open Go.Proofs.YtogcfijlhpaeeaaGreat
def World.put (w:World) (g:Nat) (cs:Array Value) (t:TypeId):World:={ w with heap:=w.heap.setIfInBounds g (.cells cs t) }
namespace ExtLaws
@[go_sem] theorem size_put (w:World) (g:Nat) (cs:Array Value) (t:TypeId):(w.put g cs t).heap.size=w.heap.size:=by simp [World.put]
theorem heap_put (w:World) (g:Nat) (cs:Array Value) (t:TypeId) (k:Nat):(w.put g cs t).heap[k]?=if k=g then (if g<w.heap.size then some (.cells cs t) else none) else w.heap[k]?:=by
 simp only [World.put,Array.getElem?_setIfInBounds]
 by_cases h:k=g
 ·subst h;simp
 ·simp [h,Ne.symm h]
@[go_sem high] theorem cell_put (w:World) (g:Nat) (cs:Array Value) (t:TypeId) (b o:Nat):(w.put g cs t).cell? ⟨b,o,none⟩=if b=g then (if g<w.heap.size then cs[o]? else none) else w.cell? ⟨b,o,none⟩:=by
 simp only [World.cell?,heap_put]
 by_cases h:b=g
 ·subst h
  by_cases h2:b<w.heap.size <;> simp [h2]
 ·simp [h]
@[go_sem high] theorem frozen_put (w:World) (g:Nat) (cs:Array Value) (t:TypeId) (b o:Nat) (s:Option Nat):(w.put g cs t).frozen? ⟨b,o,s⟩=if b=g then noFreeze else w.frozen? ⟨b,o,s⟩:=by
 unfold noFreeze
 simp only [World.frozen?,heap_put]
 by_cases h:b=g
 ·subst h
  by_cases h2:b<w.heap.size <;> simp [h2]
 ·simp [h]
@[go_sem high] theorem setCell_put (w:World) (g:Nat) (cs:Array Value) (t:TypeId) (b o:Nat) (v:Value):(w.put g cs t).setCell ⟨b,o,none⟩ v=if b=g then w.put g (cs.setIfInBounds o v) t else (w.setCell ⟨b,o,none⟩ v).put g cs t:=by
 have hh:∀ (a c:World),a.heap=c.heap→a.tape=c.tape→a.drawn=c.drawn→a.os=c.os→a.output=c.output→a=c:=by
  intro a c h1 h2 h3 h4 h5;cases a;cases c;simp_all
 split
 ·subst b
  refine hh _ _ ?_ rfl rfl rfl rfl
  apply Array.ext_getElem?
  intro k
  simp only [World.setCell,World.put,Array.getElem?_modify,Array.getElem?_setIfInBounds]
  by_cases hk:g=k
  ·subst hk
   by_cases hg:g<w.heap.size <;> simp [hg]
  ·simp [hk]
 ·rename_i hb
  refine hh _ _ ?_ rfl rfl rfl rfl
  apply Array.ext_getElem?
  intro k
  simp only [World.setCell,World.put,Array.getElem?_modify,Array.getElem?_setIfInBounds,Array.size_modify]
  by_cases hk:g=k
  ·subst hk
   simp [hb]
  ·simp [hk]
end ExtLaws
end Go
namespace Go.Proofs.YtogcfijlhpaeeaaGreat
theorem Kp.put {a w:World} (h:Kp a w) (g:Nat) (cs:Array Value) (t:TypeId) (hg:a.heap.size≤g):Kp a (w.put g cs t):=by
 have h':RowKit.Below a.heap.size a w:=h
 show RowKit.Below _ _ _
 refine ⟨h'.os,h'.tape,h'.output,by rw [ExtLaws.size_put];exact h'.size,fun k hk=>?_⟩
 rw [ExtLaws.heap_put,if_neg (by omega)]
 exact h'.block k hk
end Go.Proofs.YtogcfijlhpaeeaaGreat
namespace Go.Proofs.YtogcfijlhpaeeaaGreat
section
def Sl (w:World) (v:Value) (n k:Nat) (cs:List Value):Prop :=
 cs.length=k * n∧∃ a cap,v=.slice a k cap∧k≤cap∧cap≤maxLen∧(a=none→cap=0)∧∀ ad,a=some ad→∀ j u,cs[j]?=some u→w.cell? (ad.add j)=some u
theorem Sl.nil (w:World) (n:Nat):Sl w (.slice none 0 0) n 0 []:=⟨by simp,none,0,rfl,Nat.le_refl _,Nat.zero_le _,fun _=>rfl,fun ad h=>by cases h⟩
theorem Sl.of_own {w:World} {base e size:Nat} {v:Value} {k:Nat} {cs:List Value} (h:w.ownsRow base e size v k cs):Sl w v size k cs:=by
 refine ⟨h.1,?_⟩
 rcases h.2 with ⟨rfl,rfl⟩ | ⟨g,cap,cur,rfl,_,_,hn,hc,_,_⟩
 ·exact ⟨none,0,rfl,Nat.le_refl _,Nat.zero_le _,fun _=>rfl,fun ad h=>by cases h⟩
 ·refine ⟨some ⟨g,0,none⟩,cap,rfl,hn,hc,(fun h=>by cases h),fun ad ha j u hu=>?_⟩
  cases ha
  exact h.cells (g:=g) rfl j u hu
def byteVals (l:List UInt8):List Value:=l.map fun b=>.int .u8 b.toNat
theorem byteVals_len (l:List UInt8):(byteVals l).length=l.length:=by simp [byteVals]
theorem byteVals_get (l:List UInt8) (i:Nat) (h:i<l.length):(byteVals l)[i]?=some (.int .u8 (l[i]'h).toNat):=by simp [byteVals,h]
theorem strOfNums_bytes (l:List UInt8):strOfNums (l.map fun b=>(b.toNat:Int))=⟨l.toArray⟩:=by
 have h:=strOfNums_data (l.map fun b=>(b.toNat:Int))
 rw [List.map_map] at h
 have e:(l.map ((fun n:Int=>UInt8.ofNat n.toNat) ∘ fun b:UInt8=>(b.toNat:Int)))=l:=by
  conv=>rhs;rw [← List.map_id l]
  apply List.map_congr_left
  intro b _
  simp
 rw [e] at h
 cases hs:strOfNums (l.map fun b=>(b.toNat:Int)) with
 | mk d =>
  rw [hs] at h
  simp only at h
  rw [← h]
theorem Sl.str {P:Program} {w:World} {v:Value} {k:Nat} {l:List UInt8} (h:Sl w v 1 k (byteVals l)) {src e dst:TypeId} (hs:P.underlying src=some (.slice e)) (he:P.underlying e=some (.int .u8))
  (hd:P.underlying dst=some .string):(convert src dst v).run P w=.ok (.string ⟨l.toArray⟩) w:=by
 obtain ⟨h1,a,cap,rfl,h3,h4,h5,h6⟩:=h
 rw [byteVals_len] at h1
 cases a with
 | none =>
  have:l=[]:=List.eq_nil_of_length_eq_zero (by have:=h5 rfl;omega)
  subst this
  rw [run_convert_bytes_nil w src e hs he k cap dst hd]
  rfl
 | some ad =>
  by_cases hz:l=[]
  ·subst hz
   obtain rfl:k=0:=by simpa using h1.symm
   rw [run_convert_bytes_string w src dst e _ 0 cap hs he hd]
   simp [Conv.bytesToString,loadCells,loadCellsFrom]
   rfl
  ·have hpos:0<l.length:=List.length_pos_iff.2 hz
   have hp:ad.spot=none:=by
    have:=h6 ad rfl 0 _ (byteVals_get l 0 hpos)
    simp only [Addr.add,if_true] at this
    cases hs:ad.spot with
    | none=>rfl
    | some s =>
     exfalso
     simp only [World.cell?,hs] at this
     split at this <;> simp at this
   obtain ⟨b,off,sp⟩:=ad
   simp only at hp
   subst hp
   rw [run_convert_bytes_arg w src e hs he b off k cap (l.map fun b=>(b.toNat:Int)) (by simp;omega) (fun i hi=>by
    have:=h6 ⟨b,off,none⟩ rfl i _ (byteVals_get l i (by omega))
    have e1:(⟨b,off,none⟩:Addr).add i=⟨b,off+i,none⟩:=by unfold Addr.add;split <;> simp_all
    rw [e1] at this
    rw [this]
    simp [List.getD,show i<l.length by omega]) dst hd,strOfNums_bytes]
end
section
def Own (w:World) (base:Nat) (e:TypeId) (n:Nat) (v:Value) (k:Nat) (cs:List Value):Prop :=
 cs.length=k * n∧((k=0∧∃ b,v=.slice b 0 0) ∨
  ∃ g cap cur,v=.slice (some ⟨g,0,none⟩) k cap∧base≤g∧w.heap[g]?=some (.cells cur e (0,0))∧k≤cap∧cap≤maxLen∧cur.size=cap * n∧cur.toList.take (k * n)=cs)
theorem Own.sl {w:World} {base:Nat} {e:TypeId} {n:Nat} {v:Value} {k:Nat} {cs:List Value} (h:Own w base e n v k cs):Sl w v n k cs:=by
 refine ⟨h.1,?_⟩
 rcases h.2 with ⟨rfl,b,rfl⟩ | ⟨g,cap,cur,rfl,hb,hg,hk,hc,hs,ht⟩
 ·have:cs=[]:=List.eq_nil_of_length_eq_zero (by simpa using h.1)
  subst this
  exact ⟨b,0,rfl,Nat.le_refl _,Nat.zero_le _,fun _=>rfl,fun ad _ j u hu=>by simp at hu⟩
 ·exact (Sl.of_own (w:=w) (base:=base) (e:=e) ⟨h.1,.inr ⟨g,cap,cur,rfl,hb,hg,hk,hc,hs,ht⟩⟩).2
end
end Go.Proofs.YtogcfijlhpaeeaaGreat
namespace Go.Proofs.YtogcfijlhpaeeaaGreat
def Frag:=Nat→Option Obj
namespace Frag
def add (h k:Frag):Frag:=fun n=>match h n with | some o=>some o | none=>k n
def disj (h k:Frag):Prop:=∀ n,h n=none∨k n=none
def one (g:Nat) (o:Obj):Frag:=fun n=>if n=g then some o else none
theorem disj_symm {h k:Frag} (d:h.disj k):k.disj h:=fun n=>(d n).symm
theorem disj_add {a b c:Frag}:(a.disj (b.add c))↔a.disj b∧a.disj c:=by
 constructor
 ·intro d
  refine ⟨fun n=>?_,fun n=>?_⟩
  ·rcases d n with h | h
   ·exact .inl h
   ·right
    unfold add at h
    cases hb:b n with
    | none=>rfl
    | some o=>rw [hb] at h;cases h
  ·rcases d n with h | h
   ·exact .inl h
   ·right
    unfold add at h
    cases hb:b n with
    | none=>rw [hb] at h;exact h
    | some o=>rw [hb] at h;cases h
 ·rintro ⟨d1,d2⟩ n
  rcases d1 n with h | h
  ·exact .inl h
  ·rcases d2 n with h' | h'
   ·exact .inl h'
   ·right
    simp only [add,h,h']
theorem add_left_comm {a b c:Frag} (d:a.disj b):a.add (b.add c)=b.add (a.add c):=by
 funext n
 unfold add
 rcases d n with h | h
 ·rw [h]
 ·rw [h]
theorem one_self (g:Nat) (o:Obj):one g o g=some o:=by simp [one]
theorem one_other {g n:Nat} (o:Obj) (h:n≠g):one g o n=none:=by simp [one,h]
end Frag
def Assn:=Frag→Prop
def Sats (w:World):List Assn→Frag→Prop
 | [],F=>∀ n o,F n=some o→w.heap[n]?=some o
 | A::L,F=>∃ h:Frag,A h∧h.disj F∧Sats w L (h.add F)
namespace Sats
theorem frame {w:World}:∀ {L:List Assn} {F:Frag},Sats w L F→∀ n o,F n=some o→w.heap[n]?=some o
 | [],_,h,n,o,e=>h n o e
 | A::L,F,⟨h,_,d,s⟩,n,o,e=>by
  refine frame s n o ?_
  unfold Frag.add
  rcases d n with h' | h'
  ·rw [h'];exact e
  ·rw [h'] at e;cases e
theorem frame_left {w:World} {L:List Assn} {h F:Frag} (s:Sats w L (h.add F)):∀ n o,h n=some o→w.heap[n]?=some o:=fun n o e =>
 frame s n o (by unfold Frag.add;rw [e])
theorem pick {w:World} {A:Assn}:∀ {L:List Assn} {F:Frag} {i:Nat},L[i]?=some A→Sats w L F→∃ h:Frag,A h∧h.disj F∧Sats w (L.eraseIdx i) (h.add F)
 | [],_,_,e,_=>by simp at e
 | B::L,F,0,e,⟨h,a,d,s⟩=>by
  simp at e
  subst e
  exact ⟨h,a,d,s⟩
 | B::L,F,i+1,e,⟨h,a,d,s⟩=>by
  simp at e
  obtain ⟨k,ak,dk,sk⟩:=pick e s
  rw [Frag.disj_add] at dk
  refine ⟨k,ak,dk.2,h,a,?_,?_⟩
  ·rw [Frag.disj_add];exact ⟨Frag.disj_symm dk.1,d⟩
  ·show Sats w (L.eraseIdx i) _
   rw [Frag.add_left_comm (Frag.disj_symm dk.1)];exact sk
theorem put {w:World} {A:Assn}:∀ {L:List Assn} {F:Frag} {i:Nat},i<L.length→∀ {h:Frag},A h→h.disj F→Sats w (L.eraseIdx i) (h.add F)→Sats w (L.set i A) F
 | [],_,_,e,_,_,_,_=>by simp at e
 | B::L,F,0,e,h,a,d,s=>⟨h,a,d,s⟩
 | B::L,F,i+1,e,h,a,d,s=>by
  obtain ⟨k,ak,dk,sk⟩:=s
  rw [Frag.disj_add] at dk
  refine ⟨k,ak,dk.2,?_⟩
  refine put (by simpa using e) a ?_ ?_
  ·rw [Frag.disj_add];exact ⟨Frag.disj_symm dk.1,d⟩
  ·rw [Frag.add_left_comm (Frag.disj_symm dk.1)];exact sk
theorem world {w w':World} (hw:∀ (n:Nat) (o:Obj),w.heap[n]?=some o→w'.heap[n]?=some o):∀ {L:List Assn} {F:Frag},Sats w L F→Sats w' L F
 | [],_,s=>fun n o e=>hw n o (s n o e)
 | _::_,_,⟨h,a,d,s⟩=>⟨h,a,d,world hw s⟩
theorem less {w:World}:∀ {L:List Assn} {h F:Frag},Sats w L (h.add F)→h.disj F→Sats w L F
 | [],h,F,s,d=>fun n o e=>s n o (by
   unfold Frag.add
   rcases d n with h' | h'
   ·rw [h'];exact e
   ·rw [h'] at e;cases e)
 | A::L,h,F,⟨k,a,dk,s⟩,d=>by
  rw [Frag.disj_add] at dk
  refine ⟨k,a,dk.2,?_⟩
  rw [Frag.add_left_comm dk.1] at s
  exact less s (by rw [Frag.disj_add];exact ⟨Frag.disj_symm dk.1,d⟩)
theorem swap {w w':World} {h h':Frag} (hd:∀ n,h n=none→h' n=none) (hw:∀ (n:Nat) (o:Obj),h n=none→w.heap[n]?=some o→w'.heap[n]?=some o) (hh:∀ n o,h' n=some o→w'.heap[n]?=some o) :
  ∀ {L:List Assn} {F:Frag},h.disj F→Sats w L (h.add F)→Sats w' L (h'.add F)
 | [],F,d,s=>fun n o e=>by
  unfold Frag.add at e
  cases hn:h' n with
  | some o'=>rw [hn] at e;simp at e;subst e;exact hh n _ hn
  | none =>
   rw [hn] at e
   simp at e
   rcases d n with hl | hr
   ·exact hw n o hl (s n o (by unfold Frag.add;rw [hl];exact e))
   ·rw [hr] at e;cases e
 | A::L,F,d,⟨k,a,dk,s⟩=>by
  rw [Frag.disj_add] at dk
  refine ⟨k,a,?_,?_⟩
  ·rw [Frag.disj_add]
   refine ⟨fun n=>?_,dk.2⟩
   rcases dk.1 n with x | x
   ·exact .inl x
   ·exact .inr (hd n x)
  ·rw [Frag.add_left_comm dk.1] at s
   have:=swap hd hw hh (F:=k.add F) (by rw [Frag.disj_add];exact ⟨Frag.disj_symm dk.1,d⟩) s
   rwa [Frag.add_left_comm] at this
   intro n
   rcases dk.1 n with x | x
   ·exact .inr x
   ·exact .inl (hd n x)
theorem disj_new {w:World} {L:List Assn} {F:Frag} (s:Sats w L F) (o:Obj):(Frag.one w.heap.size o).disj F:=by
 intro n
 by_cases hn:n=w.heap.size
 ·right
  cases hf:F n with
  | none=>rfl
  | some x =>
   have:=frame s n x hf
   rw [Array.getElem?_eq_none (by omega)] at this
   cases this
 ·exact .inl (Frag.one_other o hn)
theorem alloc_add {w:World} (o:Obj):∀ {L:List Assn} {F:Frag},Sats w L F→Sats (w.alloc o) L ((Frag.one w.heap.size o).add F)
 | [],F,s=>fun n x e=>by
  unfold Frag.add at e
  by_cases hn:n=w.heap.size
  ·subst hn
   rw [Frag.one_self] at e
   simp at e
   subst e
   exact heap_alloc_new w o
  ·rw [Frag.one_other o hn] at e
   simp at e
   have:=s n x e
   have hlt:n<w.heap.size:=(Array.getElem?_eq_some_iff.1 this).1
   rw [Below.heap_alloc w o n hlt]
   exact this
 | A::L,F,⟨h,a,d,s⟩=>by
  have hn:=disj_new s o
  rw [Frag.disj_add] at hn
  refine ⟨h,a,?_,?_⟩
  ·rw [Frag.disj_add];exact ⟨Frag.disj_symm hn.1,d⟩
  ·rw [Frag.add_left_comm (Frag.disj_symm hn.1)]
   exact alloc_add o s
theorem alloc {w:World} {L:List Assn} {F:Frag} {A:Assn} (o:Obj) (s:Sats w L F) (a:A (Frag.one w.heap.size o)):Sats (w.alloc o) (A::L) F :=
 ⟨_,a,disj_new s o,alloc_add o s⟩
theorem alloc_drop {w:World} {L:List Assn} {F:Frag} (o:Obj) (s:Sats w L F):Sats (w.alloc o) L F:=less (alloc_add o s) (disj_new s o)
theorem drew {w:World} {L:List Assn} {F:Frag} (s:Sats w L F):Sats w.drew L F:=world (w:=w) (w':=w.drew) (fun _ _ h=>h) s
theorem front {w:World} {A:Assn} {L:List Assn} {F:Frag} {i:Nat} (e:L[i]?=some A) (s:Sats w L F):Sats w (A::L.eraseIdx i) F:=pick e s
end Sats
def Sub (L' L:List Assn):Prop:=∀ w F,Sats w L F→Sats w L' F
theorem Sub.refl (L:List Assn):Sub L L:=fun _ _ s=>s
theorem Sub.drop {L' L:List Assn} (A:Assn) (h:Sub L' L):Sub L' (A::L):=fun w F ⟨k,_,d,s⟩=>h w F (Sats.less s d)
theorem Sub.cons {L' L:List Assn} (A:Assn) (h:Sub L' L):Sub (A::L') (A::L):=fun w F ⟨k,a,d,s⟩=>⟨k,a,d,h w _ s⟩
theorem Sub.cons' {L' L:List Assn} {A B:Assn} (hab:∀ x,A x→B x) (h:Sub L' L):Sub (B::L') (A::L):=fun w F ⟨k,a,d,s⟩=>⟨k,hab k a,d,h w _ s⟩
theorem Sub.trans {A B C:List Assn} (h:Sub A B) (k:Sub B C):Sub A C:=fun w F s=>h w F (k w F s)
theorem Sub.front {L:List Assn} {A:Assn} (i:Nat) (e:L[i]?=some A):Sub (A::L.eraseIdx i) L:=fun _ _ s=>Sats.front e s
def Rest (w w':World):Prop:=w'.os=w.os∧w'.tape=w.tape∧w'.output=w.output
theorem Rest.refl (w:World):Rest w w:=⟨rfl,rfl,rfl⟩
theorem Rest.trans {a b c:World} (h:Rest a b) (k:Rest b c):Rest a c:=⟨k.1.trans h.1,k.2.1.trans h.2.1,k.2.2.trans h.2.2⟩
theorem Rest.drew {a b:World} (h:Rest a b):Rest a b.drew:=h
theorem Rest.alloc {a b:World} (h:Rest a b) (o:Obj):Rest a (b.alloc o):=h
theorem Rest.setCell {a b:World} (h:Rest a b) (p:Addr) (v:Value):Rest a (b.setCell p v):=h
def Agree (D:List Deferred) (n:Nat) (a:Act) (f:Nat→Value):Prop:=a.defers=D∧a.tmps.size=n∧∀ t,a.tmps.getD t undef=f t
@[reducible] def upd (f:Nat→Value) (d:Nat) (v:Value):Nat→Value:=fun t=>match Nat.beq t d with | true=>v | false=>f t
@[reducible] def evalF (f:Nat→Value):Operand→Value
 | .tmp t=>f t
 | .const v=>v
 | .global g=>.pointer (some ⟨g,0,none⟩)
 | .func g=>.func (.func g) #[] #[]
theorem upd_self (f:Nat→Value) (d:Nat) (v:Value):upd f d v d=v:=by simp [upd]
theorem upd_other (f:Nat→Value) {d t:Nat} (v:Value) (h:t≠d):upd f d v t=f t:=by
 unfold upd
 cases hb:Nat.beq t d with
 | true=>exact absurd (Nat.eq_of_beq_eq_true hb) h
 | false=>simp only [hb]
theorem Agree.eval {D:List Deferred} {n:Nat} {a:Act} {f:Nat→Value} (h:Agree D n a f):a.eval=evalF f:=by
 funext x
 cases x with
 | tmp t=>exact h.2.2 t
 | _=>rfl
theorem Agree.put {D:List Deferred} {n:Nat} {a:Act} {f:Nat→Value} (h:Agree D n a f) {d:Nat} (hd:d<n) (v:Value):Agree D n (a.put (some d) v) (upd f d v):=by
 obtain ⟨h1,h2,h3⟩:=h
 refine ⟨h1,by simpa [Act.put] using h2,fun t=>?_⟩
 simp only [Act.put]
 by_cases ht:t=d
 ·subst ht
  rw [upd_self]
  simp [Array.getD,h2,hd]
 ·rw [upd_other _ _ ht,← h3 t]
  simp only [Array.getD_eq_getD_getElem?,Array.getElem?_setIfInBounds_ne (Ne.symm ht)]
def Post:=Exit→(Nat→Value)→List Assn→Prop
def Here (D:List Deferred) (n:Nat) (F:Frag) (w0:World) (f0:Nat→Value) (ws:Nat→Bool) (a:Act) (w:World) (f:Nat→Value) (L:List Assn):Prop :=
 Rest w0 w∧Agree D n a f∧Sats w L F∧∀ t,ws t=false→f t=f0 t
def Lift (D:List Deferred) (n:Nat) (F:Frag) (w0:World) (f0:Nat→Value) (ws:Nat→Bool) (Q:Post):Exit→Act→World→Prop :=
 fun e a w=>∃ f L,Here D n F w0 f0 ws a w f L∧Q e f L
def writesL:List Oper→List Nat
 | []=>[]
 | o::l=>match o.dst with | some d=>d::writesL l | none=>writesL l
def writes:Code→List Nat
 | .region _ ops _=>writesL ops.toList
 | .seq a b=>writes a++writes b
 | .cond _ a b=>writes a++writes b
 | .block _ c=>writes c
 | .loop c=>writes c
 | .scope c=>writes c
 | .rangeFunc _ _ a b=>writes a++writes b
 | _=>[]
def Within (c:Code) (ws:Nat→Bool):Prop:=∀ d,d∈writes c→ws d=true
def Ex (P:Program) (n:Nat) (c:Code) (Q:Post) (f:Nat→Value) (L:List Assn):Prop :=
 ∀ D F w0 f0 ws a w,Here D n F w0 f0 ws a w f L→Within c ws→c.wp P (Lift D n F w0 f0 ws Q) a w
def thn (P:Program) (n:Nat) (c:Code) (Q:Post):Post
 | .normal,f,L=>Ex P n c Q f L
 | e,f,L=>Q e f L
def inb (id:Nat) (Q:Post):Post
 | .exit k,f,L=>match Nat.beq k id with | true=>Q .normal f L | false=>Q (.exit k) f L
 | e,f,L=>Q e f L
section
variable {P:Program} {n:Nat} {Q:Post} {f:Nat→Value} {L:List Assn}
theorem Ex.mono {c:Code} {Q':Post} (h:Ex P n c Q' f L) (hq:∀ e f L,Q' e f L→Q e f L):Ex P n c Q f L:=fun D F w0 f0 ws a w H hc =>
 wp_mono (h D F w0 f0 ws a w H hc) fun e a w ⟨f,L,H,q⟩=>⟨f,L,H,hq e f L q⟩
theorem Ex.sub {c:Code} {L':List Assn} (h:Ex P n c Q f L') (hs:Sub L' L):Ex P n c Q f L:=fun D F w0 f0 ws a w ⟨r,ag,s,k⟩ hc=>h D F w0 f0 ws a w ⟨r,ag,hs w F s,k⟩ hc
theorem Ex.seq {x y:Code} (h:Ex P n x (thn P n y Q) f L):Ex P n (.seq x y) Q f L:=fun D F w0 f0 ws a w H hc =>
 wp_seq (wp_mono (h D F w0 f0 ws a w H fun d hd=>hc d (List.mem_append_left _ hd)) fun e a w ⟨f,L,H,q⟩=>by
  cases e with
  | normal=>exact q D F w0 f0 ws a w H fun d hd=>hc d (List.mem_append_right _ hd)
  | _=>exact ⟨f,L,H,q⟩)
theorem Ex.skip (h:Q .normal f L):Ex P n .skip Q f L:=fun D F w0 f0 ws a w H hc=>wp_skip ⟨f,L,H,h⟩
theorem Ex.label {l:Nat} (h:Q .normal f L):Ex P n (.label l) Q f L:=fun D F w0 f0 ws a w H hc=>wp_label ⟨f,L,H,h⟩
theorem Ex.exit {id:Nat} (h:Q (.exit id) f L):Ex P n (.exit id) Q f L:=fun D F w0 f0 ws a w H hc=>wp_exit ⟨f,L,H,h⟩
theorem Ex.ret (h:Q .ret f L):Ex P n .ret Q f L:=fun D F w0 f0 ws a w H hc=>wp_ret ⟨f,L,H,h⟩
theorem Ex.block {id:Nat} {c:Code} (h:Ex P n c (inb id Q) f L):Ex P n (.block id c) Q f L:=fun D F w0 f0 ws a w H hc =>
 wp_block (wp_mono (h D F w0 f0 ws a w H hc) fun e a w ⟨f,L,H,q⟩=>by
  cases e with
  | exit k =>
   simp only [Exit.inBlock]
   by_cases hk:k=id
   ·rw [if_pos hk]
    subst hk
    refine ⟨f,L,H,?_⟩
    simp only [inb] at q
    rw [show Nat.beq k k=true by simp] at q
    exact q
   ·rw [if_neg hk]
    refine ⟨f,L,H,?_⟩
    simp only [inb] at q
    cases hb:Nat.beq k id with
    | true=>exact absurd (Nat.eq_of_beq_eq_true hb) hk
    | false=>rw [hb] at q;exact q
  | _=>exact ⟨f,L,H,q⟩)
theorem Ex.cond_t {c:Operand} {x y:Code} (hc:evalF f c=.bool true) (h:Ex P n x Q f L):Ex P n (.cond c x y) Q f L:=fun D F w0 f0 ws a w H hw =>
 wp_cond_true (by rw [H.2.1.eval];exact hc) (h D F w0 f0 ws a w H fun d hd=>hw d (List.mem_append_left _ hd))
theorem Ex.cond_f {c:Operand} {x y:Code} (hc:evalF f c=.bool false) (h:Ex P n y Q f L):Ex P n (.cond c x y) Q f L:=fun D F w0 f0 ws a w H hw =>
 wp_cond_false (by rw [H.2.1.eval];exact hc) (h D F w0 f0 ws a w H fun d hd=>hw d (List.mem_append_right _ hd))
theorem Ex.cond_b {c:Operand} {x y:Code} {b:Bool} (hc:evalF f c=.bool b) (ht:b=true→Ex P n x Q f L) (hf:b=false→Ex P n y Q f L):Ex P n (.cond c x y) Q f L:=by
 cases b with
 | true=>exact Ex.cond_t hc (ht rfl)
 | false=>exact Ex.cond_f hc (hf rfl)
theorem Ex.cond_d {c:Operand} {x y:Code} {p:Prop} [i:Decidable p] (hc:evalF f c=.bool (decide p)) (ht:p→Ex P n x Q f L) (hf:¬p→Ex P n y Q f L):Ex P n (.cond c x y) Q f L :=
 Ex.cond_b hc (fun h=>ht (of_decide_eq_true h)) (fun h=>hf (of_decide_eq_false h))
end
def upds (f:Nat→Value):List Nat→List Value→Nat→Value
 | d::ds,v::vs=>upd (upds f ds vs) d v
 | _,_=>f
theorem upds_self (f:Nat→Value):∀ (ds:List Nat),upds f ds (ds.map f)=f
 | []=>rfl
 | d::ds=>by
  show upd (upds f ds (ds.map f)) d (f d)=f
  rw [upds_self f ds]
  funext t
  by_cases h:t=d
  ·subst h;rw [upd_self]
  ·rw [upd_other _ _ h]
def havoc (f g:Nat→Value) (ws:List Nat):Nat→Value:=fun t=>match ws.any (Nat.beq t) with | true=>g t | false=>f t
theorem least_nat (p:Nat→Prop) (h:∃ m,p m):∃ m,p m∧∀ k,p k→m≤k:=by
 obtain ⟨m,hm⟩:=h
 induction m using Nat.strongRecOn with
 | _ m ih =>
  by_cases hk:∃ k,k<m∧p k
  ·obtain ⟨k,hk,pk⟩:=hk
   exact ih k hk pk
  ·refine ⟨m,hm,fun k pk=>?_⟩
   rcases Nat.lt_or_ge k m with h | h
   ·exact absurd ⟨k,h,pk⟩ hk
   ·exact h
open Classical in
noncomputable def leastOf (p:Nat→Prop):Nat:=if h:∃ m,p m then Classical.choose (least_nat p h) else 0
theorem leastOf_spec {p:Nat→Prop} {m:Nat} (h:p m):p (leastOf p)∧leastOf p≤m:=by
 have hx:∃ m,p m:=⟨m,h⟩
 unfold leastOf
 rw [dif_pos hx]
 have:=Classical.choose_spec (least_nat p hx)
 exact ⟨this.1,this.2 m h⟩
def rnd (I:Nat→List Value→List Assn→Prop) (m:Nat) (ss:List Nat) (Q:Post):Post
 | .normal,f,L=>∃ m' L',m'<m∧Sub L' L∧I m' (ss.map f) L'
 | e,f,L=>Q e f L
section
variable {P:Program} {n:Nat} {Q:Post} {f:Nat→Value} {L:List Assn}
theorem Ex.loop {c:Code} (ss:List Nat) (I:Nat→List Value→List Assn→Prop) (m0:Nat) (h0:I m0 (ss.map f) L)
  (round:∀ (m:Nat) (vs:List Value) (g:Nat→Value) (L':List Assn),I m vs L'→Ex P n c (rnd I m ss Q) (upds (havoc f g (writes c)) ss vs) L'):Ex P n (.loop c) Q f L:=fun D F w0 f0 ws a w H hc=>by
 let J:Act→World→Nat→Prop:=fun a w m=>∃ f' L',Here D n F w0 f (fun t=>(writes c).any (Nat.beq t)) a w f' L'∧I m (ss.map f') L'
 obtain ⟨r,ag,s,hf0⟩:=H
 refine wp_mono (Q:=Lift D n F w0 f (fun t=>(writes c).any (Nat.beq t)) Q) ?_ ?_
 ·refine wp_loop (fun a w=>∃ m,J a w m) (fun a w=>leastOf (J a w)) ⟨m0,f,L,⟨r,ag,s,fun _ _=>rfl⟩,h0⟩ ?_
  rintro a w ⟨m,hJ⟩
  have hl:=(leastOf_spec hJ).1
  obtain ⟨f',L',H,hI⟩:=hl
  have hf:=H.2.2.2
  have e:f'=upds (havoc f f' (writes c)) ss (ss.map f'):=by
   have:havoc f f' (writes c)=f':=by
    funext t
    unfold havoc
    cases hb:(writes c).any (Nat.beq t) with
    | true=>simp only [hb]
    | false=>simp only [hb];exact (hf t hb).symm
   rw [this,upds_self]
  have h1:=round _ _ f' L' hI
  rw [← e] at h1
  refine wp_mono (h1 D F w0 f _ a w H (fun d hd=>by simp only [List.any_eq_true];exact ⟨d,hd,by simp⟩)) ?_
  rintro e a w ⟨f2,L2,H,q⟩
  cases e with
  | normal =>
   obtain ⟨m',L3,hm',hs3,hI'⟩:=q
   have hJ':J a w m':=⟨f2,L3,⟨H.1,H.2.1,hs3 w F H.2.2.1,H.2.2.2⟩,hI'⟩
   exact ⟨⟨m',hJ'⟩,Nat.lt_of_le_of_lt (leastOf_spec hJ').2 hm'⟩
  | _=>exact ⟨f2,L2,H,q⟩
 ·rintro e a w ⟨f2,L2,⟨r,ag,s,k⟩,q⟩
  refine ⟨f2,L2,⟨r,ag,s,fun t ht=>?_⟩,q⟩
  rw [← hf0 t ht]
  refine k t ?_
  cases hb:(writes c).any (Nat.beq t) with
  | false=>exact hb
  | true =>
   simp only [List.any_eq_true] at hb
   obtain ⟨d,hd,hdt⟩:=hb
   have:=Nat.eq_of_beq_eq_true hdt
   subst this
   rw [hc t hd] at ht
   cases ht
theorem Ex.loopS {c:Code} (ss:List Nat) (I:Nat→List Value→Prop) (m0:Nat) (h0:I m0 (ss.map f))
  (round:∀ (m:Nat) (vs:List Value) (g:Nat→Value),I m vs→Ex P n c (rnd (fun m vs L'=>I m vs∧L'=L) m ss Q) (upds (havoc f g (writes c)) ss vs) L):Ex P n (.loop c) Q f L :=
 Ex.loop ss (fun m vs L'=>I m vs∧L'=L) m0 ⟨h0,rfl⟩ fun m vs g L' ⟨h,e⟩=>by subst e;exact round m vs g h
end
end Go.Proofs.YtogcfijlhpaeeaaGreat
namespace Go.Proofs.YtogcfijlhpaeeaaGreat
section
def ExL (P:Program) (n:Nat) (ops:Array Oper) (l:List Oper) (Q:Post) (f:Nat→Value) (L:List Assn):Prop :=
 ∀ D F w0 f0 ws a w,Here D n F w0 f0 ws a w f L→(∀ d,d∈writesL l→ws d=true)→wpList P ops (Lift D n F w0 f0 ws Q) l a w
def Val (P:Program) (o:Oper) (f:Nat→Value) (L:List Assn) (v:Value):Prop :=
 ∀ F w,Sats w L F→(execOp (evalF f) o).run P w=.ok (.value v) w
def Eff (P:Program) (o:Oper) (f:Nat→Value) (L:List Assn) (R:Value→List Assn→Prop):Prop :=
 ∀ F w,Sats w L F→∃ v w' L',((execOp (evalF f) o).run P w=.ok (.value v) w'∨((execOp (evalF f) o).run P w=.ok .skip w'∧v=undef))∧Rest w w'∧Sats w' L' F∧R v L'
def Fn (P:Program) (k:FuncId) (args:Array Value) (L:List Assn) (R:Value→List Assn→Prop):Prop :=
 ∀ F w0 w,Rest w0 w→Sats w L F→Calls P k args w fun e w'=>∃ v L',e=.returned v∧Rest w0 w'∧Sats w' L' F∧R v L'
def updo (f:Nat→Value):Option Nat→Value→Nat→Value
 | some d,v=>upd f d v
 | none,_=>f
def dstOk (n:Nat):Option Nat→Bool
 | some d=>Nat.blt d n
 | none=>true
theorem Agree.puto {D:List Deferred} {n:Nat} {a:Act} {f:Nat→Value} (h:Agree D n a f) {d:Option Nat} (hd:dstOk n d=true) (v:Value):Agree D n (a.put d v) (updo f d v):=by
 cases d with
 | none=>exact h
 | some d=>exact h.put (Nat.le_of_ble_eq_true hd) v
section
variable {P:Program} {n:Nat} {ops:Array Oper} {Q:Post} {f:Nat→Value} {L:List Assn} {o:Oper} {rest:List Oper}
theorem Here.puto {D:List Deferred} {F:Frag} {w0:World} {f0:Nat→Value} {ws:Nat→Bool} {a:Act} {w w':World} {L':List Assn} (h:Here D n F w0 f0 ws a w f L) (hr:Rest w w') (hs:Sats w' L' F)
  {d:Option Nat} (hd:dstOk n d=true) (hw:∀ t,d=some t→ws t=true) (v:Value):Here D n F w0 f0 ws (a.put d v) w' (updo f d v) L':=by
 refine ⟨h.1.trans hr,h.2.1.puto hd v,hs,fun t ht=>?_⟩
 cases d with
 | none=>exact h.2.2.2 t ht
 | some d =>
  have:t≠d:=by rintro rfl;rw [hw t rfl] at ht;cases ht
  show upd f d v t=_
  rw [upd_other _ _ this]
  exact h.2.2.2 t ht
theorem mem_writesL {d t:Nat} (hd:o.dst=some d):d∈writesL (o::rest):=by simp [writesL,hd]
theorem mem_writesL' {t:Nat} (h:t∈writesL rest):t∈writesL (o::rest):=by
 unfold writesL
 split
 ·exact List.mem_cons_of_mem _ h
 ·exact h
theorem ExL.nil (h:Q .normal f L):ExL P n ops [] Q f L:=fun D F w0 f0 ws a w H _=>wpList_nil ⟨f,L,H,h⟩
theorem Ex.region {id:Nat} (h:ExL P n ops ops.toList Q f L):Ex P n (.region id ops false) Q f L:=fun D F w0 f0 ws a w H hc =>
 wp_region_list (h D F w0 f0 ws a w H hc)
theorem yielded_of {D:List Deferred} {F:Frag} {w0:World} {f0:Nat→Value} {ws:Nat→Bool} {a:Act} {w:World} (H:Here D n F w0 f0 ws a w f L) {j s:Nat} {b:Bool} (hs:(ops[j]?).bind (·.dst)=some s) (hsn:Nat.blt s n=true) (hb:f s=.bool b) :
  yielded ops a.tmps j=some b:=by
 have h:=H.2.1.2.2 s
 have hl:s<a.tmps.size:=by rw [H.2.1.2.1];exact Nat.le_of_ble_eq_true hsn
 rw [hb] at h
 unfold yielded
 rw [hs]
 simp only [Option.bind_some]
 have:a.tmps[s]?=some (.bool b):=by
  rw [Array.getElem?_eq_getElem hl]
  simp [Array.getD,hl] at h
  rw [h]
 rw [this]
theorem wanted_none {y:Nat→Option Bool} (hg:o.guard=none):Region.wanted o y=true:=by simp [Region.wanted,hg]
theorem ExL.eff (hg:o.guard=none) (hd:dstOk n o.dst=true) {R:Value→List Assn→Prop} (he:Eff P o f L R) (h:∀ v L',R v L'→ExL P n ops rest Q (updo f o.dst v) L'):ExL P n ops (o::rest) Q f L:=by
 intro D F w0 f0 ws a w H hc
 refine wpList_plain hg fun K hK=>?_
 obtain ⟨v,w',L',hrun,hr,hs,hR⟩:=he F w H.2.2.1
 have hp:=H.puto hr hs hd (fun t ht=>hc t (mem_writesL (t:=0) ht)) v
 unfold Oper.wp
 rw [H.2.1.eval]
 rcases hrun with hrun | ⟨hrun,rfl⟩
 ·rw [hrun]
  exact hK _ _ (h v L' hR D F w0 f0 ws _ _ hp fun d hd=>hc d (mem_writesL' hd))
 ·rw [hrun]
  exact hK _ _ (h _ L' hR D F w0 f0 ws _ _ hp fun d hd=>hc d (mem_writesL' hd))
theorem ExL.val {v:Value} {d:Nat} (hg:o.guard=none) (ho:o.dst=some d) (hd:Nat.blt d n=true) (hv:Val P o f L v) (h:ExL P n ops rest Q (upd f d v) L):ExL P n ops (o::rest) Q f L:=by
 refine ExL.eff hg (by rw [ho];exact hd) (R:=fun u L'=>u=v∧L'=L) (fun F w s=>⟨v,w,L,.inl (hv F w s),Rest.refl w,s,rfl,rfl⟩) ?_
 rintro u L' ⟨rfl,rfl⟩
 rw [ho]
 exact h
theorem ExL.call {fn:FuncId} {args:Array Operand} {ts:Array TypeId} (hg:o.guard=none) (hd:dstOk n o.dst=true) (ho:o.op=.call { callee:=.value (.func fn),args:=args,argTypes:=ts })
  (hrun:∀ (xs:Array Value) (w:World),(callFunc fn xs).run P w=.ok (.enter fn xs) w) {R:Value→List Assn→Prop} (hf:Fn P fn (args.map (evalF f)) L R) (h:∀ v L',R v L'→ExL P n ops rest Q (updo f o.dst v) L'):ExL P n ops (o::rest) Q f L:=by
 intro D F w0 f0 ws a w H hc
 refine wpList_plain hg fun K hK=>?_
 have hx:(execOp a.eval o).run P w=.ok (.enter fn (args.map (evalF f))) w:=by
  rw [H.2.1.eval]
  unfold execOp
  rw [ho]
  simp [resolve,Deferred.ofValue,evalF,invoke,hrun]
 unfold Oper.wp
 rw [hx]
 show Calls P fn _ w _
 refine (hf F w0 w H.1 H.2.2.1).mono ?_
 rintro e w' ⟨v,L',rfl,hr,hs,hR⟩
 have hp:Here D n F w0 f0 ws (a.put o.dst v) w' (updo f o.dst v) L':=by
  have:=Here.puto (w':=w) H (Rest.refl w) H.2.2.1 hd (fun t ht=>hc t (mem_writesL (t:=0) ht)) v
  exact ⟨hr,this.2.1,hs,this.2.2.2⟩
 exact hK _ _ (h v L' hR D F w0 f0 ws _ _ hp fun d hd=>hc d (mem_writesL' hd))
theorem ExL.gskip {j s:Nat} {want b:Bool} (hg:o.guard=some (j,want)) (hs:(ops[j]?).bind (·.dst)=some s) (hsn:Nat.blt s n=true) (hb:f s=.bool b) (hne:(b == want)=false) (hd:dstOk n o.dst=true)
  (h:ExL P n ops rest Q (updo f o.dst undef) L):ExL P n ops (o::rest) Q f L:=by
 intro D F w0 f0 ws a w H hc
 have hy:=yielded_of (ops:=ops) H hs hsn hb
 refine wpList_step fun K hK=>?_
 have hw:Region.wanted o (yielded ops a.tmps)=false:=by
  simp only [Region.wanted,hg,hy]
  cases b <;> cases want <;> simp_all
 rw [hw]
 have hp:=H.puto (Rest.refl w) H.2.2.1 hd (fun t ht=>hc t (mem_writesL (t:=0) ht)) undef
 exact hK _ _ (h D F w0 f0 ws _ _ hp fun d hd=>hc d (mem_writesL' hd))
theorem ExL.gtake {j s:Nat} {want:Bool} (hg:o.guard=some (j,want)) (hs:(ops[j]?).bind (·.dst)=some s) (hsn:Nat.blt s n=true) (hb:f s=.bool want)
  (h:ExL P n ops ({ o with guard:=none }::rest) Q f L):ExL P n ops (o::rest) Q f L:=by
 intro D F w0 f0 ws a w H hc
 have hy:=yielded_of (ops:=ops) H hs hsn hb
 have hw:Region.wanted o (yielded ops a.tmps)=true:=by
  simp only [Region.wanted,hg,hy]
  simp
 have h1:=h D F w0 f0 ws a w H (by simpa [writesL] using hc)
 unfold wpList at h1 ⊢
 rw [if_pos (wanted_none rfl)] at h1
 rw [if_pos hw]
 exact h1
theorem ExL.eqv {f':Nat→Value} (he:f=f') (h:ExL P n ops rest Q f' L):ExL P n ops rest Q f L:=he ▸ h
theorem upd_eq {f:Nat→Value} {s:Nat} {v:Value} (h:f s=v):f=upd f s v:=by
 funext t
 by_cases ht:t=s
 ·subst ht;rw [upd_self,h]
 ·rw [upd_other _ _ ht]
theorem ExL.gsplit {j s:Nat} {want:Bool} {p:Prop} [i:Decidable p] (hg:o.guard=some (j,want)) (hs:(ops[j]?).bind (·.dst)=some s) (hb:f s=.bool (decide p))
  (ht:p→ExL P n ops (o::rest) Q (upd f s (.bool true)) L) (hf:¬p→ExL P n ops (o::rest) Q (upd f s (.bool false)) L):ExL P n ops (o::rest) Q f L:=by
 by_cases h:p
 ·exact ExL.eqv (upd_eq (by rw [hb,decide_eq_true h])) (ht h)
 ·exact ExL.eqv (upd_eq (by rw [hb,decide_eq_false h])) (hf h)
end
def ResV (P:Program) (fn:Func) (f:Nat→Value) (L:List Assn) (v:Value):Prop:=∀ F w (tmps:Array Value),(∀ t,tmps.getD t undef=f t)→Sats w L F→(results fn tmps).run P w=.ok v w
def fin (P:Program) (fn:Func) (R:Value→List Assn→Prop):Post
 | .normal,f,L | .ret,f,L=>∃ v L',ResV P fn f L v∧Sub L' L∧R v L'
 | _,_,_=>False
def frame0 (args:Array Value):Nat→Value:=fun t=>args.toList.getD t undef
theorem Fn.of_ex {P:Program} {k:FuncId} {fn:Func} {c:Code} {args:Array Value} {L:List Assn} {R:Value→List Assn→Prop} {n:Nat} (hf:P.funcs[k]?=some fn) (hb:fn.body=some c) (hnn:fn.ntmps=n) (hn:Nat.ble args.size n=true)
  (h:Ex P n c (fin P fn R) (frame0 args) L):Fn P k args L R:=by
 subst hnn
 have hn:=Nat.le_of_ble_eq_true hn
 intro F w0 w r s
 refine calls_of_wp hf hb ?_
 have ag:Agree [] fn.ntmps { tmps:=args++Array.replicate (fn.ntmps - args.size) undef,defers:=[] } (frame0 args):=by
  refine ⟨rfl,by simp;omega,fun t=>?_⟩
  simp only [frame0,Array.getD_eq_getD_getElem?,List.getD_eq_getElem?_getD,Array.getElem?_toList]
  by_cases ht:t<args.size
  ·rw [Array.getElem?_append_left ht]
  ·rw [Array.getElem?_append_right (by omega),Array.getElem?_replicate,Array.getElem?_eq_none (show args.size≤t by omega)]
   split <;> rfl
 refine wp_mono (h [] F w0 (frame0 args) (fun _=>true) _ w ⟨r,ag,s,fun t ht=>by cases ht⟩ (fun _ _=>rfl)) ?_
 rintro e a w ⟨f,L',⟨r,ag,s,_⟩,q⟩
 cases e with
 | normal=>obtain ⟨v,L2,hv,hs,hR⟩:=q;exact ⟨ag.1,v,hv F w a.tmps ag.2.2 s,v,L2,rfl,r,hs w F s,hR⟩
 | ret=>obtain ⟨v,L2,hv,hs,hR⟩:=q;exact ⟨ag.1,v,hv F w a.tmps ag.2.2 s,v,L2,rfl,r,hs w F s,hR⟩
 | _=>exact q.elim
theorem Fn.mono {P:Program} {k:FuncId} {args:Array Value} {L:List Assn} {R R':Value→List Assn→Prop} (h:Fn P k args L R) (hr:∀ v L',R v L'→R' v L'):Fn P k args L R':=fun F w0 w r s =>
 (h F w0 w r s).mono fun e w' ⟨v,L',he,hr',hs,hR⟩=>⟨v,L',he,hr',hs,hr v L' hR⟩
theorem Fn.sub {P:Program} {k:FuncId} {args:Array Value} {L L':List Assn} {R:Value→List Assn→Prop} (h:Fn P k args L' R) (hs:Sub L' L):Fn P k args L R:=fun F w0 w r s=>h F w0 w r (hs w F s)
theorem kp_sats {w w':World} (hk:Kp w w') {L:List Assn} {F:Frag} (s:Sats w L F):Sats w' L F :=
 Sats.world (fun n o h=>by rw [Kp.block hk n (Array.getElem?_eq_some_iff.1 h).1];exact h) s
theorem kp_rest {w w':World} (hk:Kp w w'):Rest w w':=⟨Below.os hk,Below.tape hk,Below.output hk⟩
theorem Fn.of_kp {P:Program} {k:FuncId} {args:Array Value} {L:List Assn} {v:Value} (h:∀ w,Calls P k args w fun e w'=>e=.returned v∧Kp w w'):Fn P k args L fun u L'=>u=v∧L'=L:=fun F w0 w r s =>
 (h w).mono fun e w' ⟨he,hk⟩=>⟨v,L,he,r.trans (kp_rest hk),kp_sats hk s,rfl,rfl⟩
def Base (W:World):Assn:=fun h=>∀ n,h n=W.heap[n]?
theorem base_sats (W:World):Sats W [Base W] (fun _=>none) :=
 ⟨fun n=>W.heap[n]?,fun _=>rfl,fun _=>.inr rfl,fun n o e=>by unfold Frag.add at e;cases hn:W.heap[n]? with | some x=>simp only [hn] at e;exact e | none=>simp only [hn] at e;cases e⟩
theorem base_heap {W w:World} {F:Frag} (s:Sats w [Base W] F):∀ k,k<W.heap.size→w.heap[k]?=W.heap[k]?:=by
 obtain ⟨h,a,d,s⟩:=s
 intro k hk
 have:=s k (W.heap[k]) (by unfold Frag.add;rw [a k,Array.getElem?_eq_getElem hk])
 rw [this,Array.getElem?_eq_getElem hk]
theorem yes_of_fn {P:Program} {k:FuncId} {args:Array Value} {W:World} (h:Fn P k args [Base W] fun v L'=>v=.bool true∧L'=[Base W]):Calls P k args W (Yes W) :=
 (h (fun _=>none) W W (Rest.refl W) (base_sats W)).mono fun e w' ⟨v,L',he,hr,hs,hv,hL⟩=>by
  subst hv;subst hL
  refine ⟨he,?_⟩
  show RowKit.Below _ _ _
  refine ⟨hr.1,hr.2.1,hr.2.2,?_,base_heap hs⟩
  by_cases hz:W.heap.size=0
  ·omega
  ·have:=base_heap hs (W.heap.size - 1) (by omega)
   rw [Array.getElem?_eq_getElem (show W.heap.size - 1<W.heap.size by omega)] at this
   have:=(Array.getElem?_eq_some_iff.1 this).1
   omega
end
section
section
variable {P:Program} {n:Nat} {ops:Array Oper} {Q:Post} {f:Nat→Value} {L:List Assn} {rest:List Oper} {d:Nat} {ty:TypeId} {pos:String} {af:Array Edge}
end
section
variable {P:Program} {n:Nat} {Q:Post} {f:Nat→Value} {L:List Assn} {c:Code}
theorem thn_n (h:Ex P n c Q f L):thn P n c Q .normal f L:=h
theorem thn_ret (h:Q .ret f L):thn P n c Q .ret f L:=h
theorem thn_exit {k:Nat} (h:Q (.exit k) f L):thn P n c Q (.exit k) f L:=h
theorem inb_n {id:Nat} (h:Q .normal f L):inb id Q .normal f L:=h
theorem inb_ret {id:Nat} (h:Q .ret f L):inb id Q .ret f L:=h
theorem inb_hit {id k:Nat} (hk:Nat.beq k id=true) (h:Q .normal f L):inb id Q (.exit k) f L:=by
 simp only [inb,hk];exact h
theorem inb_miss {id k:Nat} (hk:Nat.beq k id=false) (h:Q (.exit k) f L):inb id Q (.exit k) f L:=by
 simp only [inb,hk];exact h
theorem rnd_n {I:Nat→List Value→List Assn→Prop} {m:Nat} {ss:List Nat} (h:∃ m' L',m'<m∧Sub L' L∧I m' (ss.map f) L'):rnd I m ss Q .normal f L:=h
theorem rnd_ret {I:Nat→List Value→List Assn→Prop} {m:Nat} {ss:List Nat} (h:Q .ret f L):rnd I m ss Q .ret f L:=h
theorem rnd_exit {I:Nat→List Value→List Assn→Prop} {m k:Nat} {ss:List Nat} (h:Q (.exit k) f L):rnd I m ss Q (.exit k) f L:=h
end
end
section
def Free (fr:Nat×Nat) (m:Nat):Prop:=∀ o,o<m→¬ (fr.1≤o∧o<fr.2)
def Blk (g:Nat) (t:TypeId) (cs:List Value):Assn:=fun h=>∃ fr,Free fr cs.length∧h=Frag.one g (.cells cs.toArray t fr)
def Row (v:Value) (t:TypeId) (sz k:Nat) (cs:List Value):Assn:=fun h=>cs.length=k * sz ∧
 ((k=0∧(∃ b,v=.slice b 0 0)∧h=fun _=>none) ∨
  ∃ g cap cur,v=.slice (some ⟨g,0,none⟩) k cap∧h=Frag.one g (.cells cur t (0,0))∧k≤cap∧cap≤maxLen∧cur.size=cap * sz∧cur.toList.take (k * sz)=cs)
theorem cell_heap {w:World} {g o:Nat} {c:Array Value} {t:TypeId} {fr:Nat×Nat} (h:w.heap[g]?=some (.cells c t fr)):w.cell? ⟨g,o,none⟩=c[o]?:=by
 simp [World.cell?,h]
theorem frozen_heap {w:World} {g o:Nat} {c:Array Value} {t:TypeId} {fr:Nat×Nat} (h:w.heap[g]?=some (.cells c t fr)):w.frozen? ⟨g,o,none⟩=(decide (fr.1≤o) && decide (o<fr.2)):=by
 simp [World.frozen?,h]
theorem addr_add (g o m:Nat):(⟨g,o,none⟩:Addr).add m=⟨g,o+m,none⟩:=by unfold Addr.add;split <;> simp_all
theorem addr_add2 (a:Addr) (m k:Nat):(a.add m).add k=a.add (m+k):=by
 unfold Addr.add
 by_cases h1:m=0 <;> by_cases h2:k=0 <;> simp [h1,h2] <;> omega
section
variable {P:Program} {L:List Assn} {F:Frag} {w:World}
theorem blk_heap {i g:Nat} {t:TypeId} {cs:List Value} (hi:L[i]?=some (Blk g t cs)) (s:Sats w L F):∃ fr,Free fr cs.length∧w.heap[g]?=some (.cells cs.toArray t fr):=by
 obtain ⟨h,⟨fr,hfr,rfl⟩,d,s'⟩:=Sats.pick hi s
 exact ⟨fr,hfr,Sats.frame_left s' g _ (Frag.one_self g _)⟩
theorem blk_cell {i g o:Nat} {t:TypeId} {cs:List Value} {v:Value} (hi:L[i]?=some (Blk g t cs)) (hv:cs[o]?=some v) (s:Sats w L F):w.cell? ⟨g,o,none⟩=some v:=by
 obtain ⟨fr,_,h⟩:=blk_heap hi s
 rw [cell_heap h];simpa using hv
theorem setCell_heap (w:World) (a:Addr) (v:Value) (k:Nat):(w.setCell a v).heap[k]?=if k=a.block then (w.heap[k]?).map (fun o=>match o with | .cells c elem fr=>.cells (if a.spot.isSome then c else c.setIfInBounds a.off v) elem fr | o=>o) else w.heap[k]?:=by
 simp only [World.setCell,Array.getElem?_modify]
 by_cases h:a.block=k
 ·subst h;simp;rfl
 ·rw [if_neg h,if_neg (fun e=>h e.symm)]
theorem blk_store {i g o:Nat} {t:TypeId} {cs:List Value} (v:Value) (hi:L[i]?=some (Blk g t cs)) (ho:o<cs.length) (s:Sats w L F):Sats (w.setCell ⟨g,o,none⟩ v) (L.set i (Blk g t (cs.set o v))) F:=by
 obtain ⟨h,⟨fr,hfr,rfl⟩,d,s'⟩:=Sats.pick hi s
 have hg:=Sats.frame_left s' g _ (Frag.one_self g _)
 have hil:i<L.length:=(List.getElem?_eq_some_iff.1 hi).1
 have hd:(Frag.one g (.cells (cs.set o v).toArray t fr)).disj F:=by
  intro n
  by_cases hn:n=g
  ·subst hn
   rcases d n with x | x
   ·rw [Frag.one_self] at x;cases x
   ·exact .inr x
  ·exact .inl (Frag.one_other _ hn)
 refine Sats.put hil ⟨fr,by simpa using hfr,rfl⟩ hd ?_
 refine Sats.swap (w:=w) (h:=Frag.one g (.cells cs.toArray t fr)) ?_ ?_ ?_ d s'
 ·intro n hn
  by_cases e:n=g
  ·subst e;rw [Frag.one_self] at hn;cases hn
  ·exact Frag.one_other _ e
 ·intro n x hn hx
  have e:n≠g:=by rintro rfl;rw [Frag.one_self] at hn;cases hn
  rw [setCell_heap,if_neg e];exact hx
 ·intro n x hx
  by_cases e:n=g
  ·subst e
   rw [Frag.one_self] at hx
   cases hx
   rw [setCell_heap,if_pos rfl,hg]
   simp
  ·rw [Frag.one_other _ e] at hx;cases hx
theorem blk_frozen {i g o:Nat} {t:TypeId} {cs:List Value} (hi:L[i]?=some (Blk g t cs)) (ho:o<cs.length) (s:Sats w L F):w.frozen? ⟨g,o,none⟩=false:=by
 obtain ⟨fr,hfr,h⟩:=blk_heap hi s
 rw [frozen_heap h]
 have:=hfr o ho
 simp
 omega
theorem row_heap {i:Nat} {v:Value} {t:TypeId} {sz k:Nat} {cs:List Value} (hi:L[i]?=some (Row v t sz k cs)) (s:Sats w L F):cs.length=k * sz ∧
  ((k=0∧∃ b,v=.slice b 0 0)∨∃ g cap cur,v=.slice (some ⟨g,0,none⟩) k cap∧w.heap[g]?=some (.cells cur t (0,0))∧k≤cap∧cap≤maxLen∧cur.size=cap * sz∧cur.toList.take (k * sz)=cs):=by
 obtain ⟨h,⟨hl,hc⟩,d,s'⟩:=Sats.pick hi s
 refine ⟨hl,?_⟩
 rcases hc with ⟨h1,h2,_⟩ | ⟨g,cap,cur,h1,rfl,h3⟩
 ·exact .inl ⟨h1,h2⟩
 ·exact .inr ⟨g,cap,cur,h1,Sats.frame_left s' g _ (Frag.one_self g _),h3⟩
theorem row_sl {i:Nat} {v:Value} {t:TypeId} {sz k:Nat} {cs:List Value} (hi:L[i]?=some (Row v t sz k cs)) (s:Sats w L F):Sl w v sz k cs:=by
 obtain ⟨hl,h⟩:=row_heap hi s
 exact Own.sl (base:=0) (e:=t) ⟨hl,by
  rcases h with h | ⟨g,cap,cur,h1,h2,h3⟩
  ·exact .inl h
  ·exact .inr ⟨g,cap,cur,h1,Nat.zero_le _,h2,h3⟩⟩
end
def Rd (L:List Assn) (v:Value) (sz k:Nat) (cs:List Value):Prop:=∀ w F,Sats w L F→Sl w v sz k cs
section
variable {L:List Assn} {v:Value} {sz k:Nat} {cs:List Value}
theorem rd_row {t:TypeId} (i:Nat) (hi:L[i]?=some (Row v t sz k cs)):Rd L v sz k cs:=fun w F s=>row_sl hi s
theorem rd_sub {L':List Assn} (h:Rd L' v sz k cs) (hs:Sub L' L):Rd L v sz k cs:=fun w F s=>h w F (hs w F s)
theorem sl_heap {w w':World} (h:Sl w v sz k cs) (hb:∀ n,n<w.heap.size→w'.heap[n]?=w.heap[n]?):Sl w' v sz k cs:=by
 obtain ⟨h1,a,cap,h2,h3,h4,h5,h6⟩:=h
 refine ⟨h1,a,cap,h2,h3,h4,h5,fun ad ha j u hu=>?_⟩
 have:=h6 ad ha j u hu
 rw [← this]
 exact World.cell?_of_block (w:=w) (hb _ (World.block_lt_of_cell? w _ this))
theorem rd_base {W:World} (i:Nat) (hi:L[i]?=some (Base W)) (h:Sl W v sz k cs):Rd L v sz k cs:=fun w F s=>by
 obtain ⟨x,a,d,s'⟩:=Sats.pick hi s
 refine sl_heap h fun n hn=>?_
 have:=Sats.frame_left s' n (W.heap[n]) (by rw [a n,Array.getElem?_eq_getElem hn])
 rw [this,Array.getElem?_eq_getElem hn]
theorem rd_nil (L:List Assn) (sz:Nat):Rd L (.slice none 0 0) sz 0 []:=fun w F s=>Sl.nil w sz
end
end
section
def aggB (P:Program) (t:TypeId):Option Bool:=match P.underlying t with
 | some (.struct _) | some (.array _ _)=>some true
 | some _=>some false
 | none=>none
def zeroC (P:Program) (t:TypeId):Option (List Value):=((P.info? t).bind (·.zero)).map (·.cells.toList)
def fieldOff (P:Program) (s:TypeId) (i:Nat):Option Nat:=match P.underlying s with
 | some (.struct fs)=>match fs[i]? with
  | some fd=>if P.cellsOf fd.type=0 then none else some fd.offset
  | none=>none
 | _=>none
section
variable {P:Program} (w:World)
theorem run_isAgg {t:TypeId} {b:Bool} (h:aggB P t=some b):(isAgg t).run P w=.ok b w:=by
 unfold aggB at h
 cases hu:P.underlying t with
 | none=>rw [hu] at h;cases h
 | some d=>rw [hu] at h;cases d <;> simp at h <;> subst h <;> simp [isAgg,run_underlying hu]
theorem run_sizeOf' {t:TypeId} {s:Nat} (h:P.cellsOf t=s) (hs:0<s):(sizeOf t).run P w=.ok s w:=by
 unfold Program.cellsOf at h
 cases hi:P.info? t with
 | none=>rw [hi] at h;simp at h;omega
 | some i=>rw [hi] at h;simp at h;simp [sizeOf,typeInfo,hi,h]
theorem run_zeroValue {t:TypeId} {zs:List Value} (h:zeroC P t=some zs):∃ z,(zeroValue t).run P w=.ok z w∧z.cells=zs.toArray:=by
 unfold zeroC at h
 cases hi:P.info? t with
 | none=>rw [hi] at h;simp at h
 | some i =>
  rw [hi] at h
  simp at h
  obtain ⟨z,hz,rfl⟩:=h
  exact ⟨z,by simp [zeroValue,typeInfo,hi,hz],by simp⟩
theorem run_newVar (t:TypeId) (v:Value):(newVar t v).run P w=.ok ⟨w.heap.size,0,none⟩ (w.alloc (.cells v.cells t)):=by
 simp [newVar,newRow]
theorem run_loadVar1 {t:TypeId} {a:Addr} {v:Value} (hA:aggB P t=some false) (hc:w.cell? a=some v):(loadVar t a).run P w=.ok v w:=by
 simp [loadVar,run_isAgg w hA,hc]
theorem run_loadVarA {t:TypeId} {a:Addr} {cs:List Value} (hA:aggB P t=some true) (hs:P.cellsOf t=cs.length) (hp:0<cs.length) (hc:∀ j v,cs[j]?=some v→w.cell? (a.add j)=some v):(loadVar t a).run P w=.ok (.agg cs.toArray) w:=by
 simp [loadVar,run_isAgg w hA,run_sizeOf' w hs hp,run_loadCells_list w a cs hc]
theorem run_fieldAt {s:TypeId} {i off:Nat} {a:Addr} (h:fieldOff P s i=some off):(Instr.fieldAt s (.pointer (some a)) i).run P w=.ok (.pointer (some (a.add off))) w:=by
 unfold fieldOff at h
 cases hu:P.underlying s with
 | none=>rw [hu] at h;cases h
 | some d =>
  rw [hu] at h
  cases d with
  | struct fs =>
   simp only at h
   cases hf:fs[i]? with
   | none=>rw [hf] at h;cases h
   | some fd =>
    rw [hf] at h
    simp only at h
    by_cases hz:P.cellsOf fd.type=0
    ·rw [if_pos hz] at h;cases h
    ·rw [if_neg hz] at h
     cases h
     have:=run_sizeOf' (P:=P) w (t:=fd.type) rfl (by omega)
     simp [Instr.fieldAt,run_underlying hu,hf,Instr.sureAddr,fieldPlace,this,hz]
  | _=>cases h
end
section
variable {P:Program} {n:Nat} {ops:Array Oper} {Q:Post} {f:Nat→Value} {L:List Assn} {rest:List Oper} {d:Nat} {ty:TypeId} {pos:String} {af:Array Edge}
theorem st_alloc {e:TypeId} {zs:List Value} (hd:Nat.blt d n=true) (hz:zeroC P e=some zs) (h:∀ g,ExL P n ops rest Q (upd f d (.pointer (some ⟨g,0,none⟩))) (Blk g e zs::L)) :
  ExL P n ops (⟨some d,.alloc e,ty,pos,af,none⟩::rest) Q f L:=by
 refine ExL.eff rfl hd (R:=fun v L'=>∃ g,v=.pointer (some ⟨g,0,none⟩)∧L'=Blk g e zs::L) (fun F w s=>?_) ?_
 ·obtain ⟨z,hr,hc⟩:=run_zeroValue w hz
  refine ⟨_,w.alloc (.cells z.cells e),_,.inl (by simp [execOp,Instr.alloc,hr,run_newVar]),Rest.refl w,Sats.alloc _ s (A:=Blk w.heap.size e zs) ⟨(0,0),fun o _=>by simp,by rw [hc]⟩,w.heap.size,rfl,rfl⟩
 ·rintro v L' ⟨g,rfl,rfl⟩
  exact h g
theorem st_box {e:TypeId} {x:Operand} {v:Value} {cs:List Value} (hd:Nat.blt d n=true) (hx:evalF f x=v) (hc:v.cells.toList=cs) (h:∀ g,ExL P n ops rest Q (upd f d (.pointer (some ⟨g,0,none⟩))) (Blk g e cs::L)) :
  ExL P n ops (⟨some d,.box e x,ty,pos,af,none⟩::rest) Q f L:=by
 refine ExL.eff rfl hd (R:=fun v L'=>∃ g,v=.pointer (some ⟨g,0,none⟩)∧L'=Blk g e cs::L) (fun F w s=>?_) ?_
 ·refine ⟨_,w.alloc (.cells v.cells e),_,.inl (by simp [execOp,Instr.box,hx,run_newVar]),Rest.refl w,Sats.alloc _ s (A:=Blk w.heap.size e cs) ⟨(0,0),fun o _=>by simp,by rw [← hc]⟩,w.heap.size,rfl,rfl⟩
 ·rintro v L' ⟨g,rfl,rfl⟩
  exact h g
theorem take_drop_get {l:List Value} {o m j:Nat} {v:Value} (h:((l.drop o).take m)[j]?=some v):l[o+j]?=some v:=by
 rw [List.getElem?_take] at h
 split at h
 ·rwa [List.getElem?_drop] at h
 ·cases h
theorem st_store1 (i:Nat) {t bt:TypeId} {x y:Operand} {g o:Nat} {cs:List Value} {v:Value} {L':List Assn} (hx:evalF f x=.pointer (some ⟨g,o,none⟩)) (hy:evalF f y=v) (h1:v.oneCell'=true) (hi:L[i]?=some (Blk g bt cs)) (hm:P.cellsOf t=1)
  (ho:Nat.blt o cs.length=true) (hL:L.set i (Blk g bt (cs.set o v))=L') (h:ExL P n ops rest Q f L'):ExL P n ops (⟨none,.store t x y,ty,pos,af,none⟩::rest) Q f L:=by
 have ho:=Nat.le_of_ble_eq_true ho
 refine ExL.eff rfl rfl (R:=fun _ L2=>L2=L') (fun F w s=>?_) (fun v L2 e=>by subst e;exact h)
 have hcell:w.cell? ⟨g,o,none⟩=some cs[o]:=blk_cell hi (List.getElem?_eq_getElem ho) s
 have hf:=blk_frozen hi ho s
 have hcs:v.cells=#[v]:=by cases v <;> first | rfl | (simp [Value.oneCell'] at h1)
 refine ⟨_,w.setCell ⟨g,o,none⟩ v,_,.inr ⟨?_,rfl⟩,Rest.refl w,?_,rfl⟩
 ·simp [execOp,hx,hy,Instr.storeAt,Instr.sureAddr,storeVar,hcs,run_sizeOf' w hm (by omega),storeCells,run_store P w _ v _ h1,addr_add,hcell,hf]
 ·rw [← hL];exact blk_store v hi ho s
theorem splice_set (cs:List Value) (o:Nat) (v:Value) (vs:List Value) (h:o+(vs.length+1)≤cs.length) :
  (cs.set o v).take (o+1)++vs++(cs.set o v).drop (o+1+vs.length)=cs.take o++(v::vs)++cs.drop (o+(vs.length+1)):=list_seg_step cs o v vs h
theorem run_storeCells_blk {i g:Nat} {bt:TypeId} {F:Frag}:∀ (vs:List Value) (j o:Nat) (w:World) (L:List Assn) (cs:List Value),L[i]?=some (Blk g bt cs)→o+j+vs.length≤cs.length→(∀ v∈vs,v.oneCell'=true)→Sats w L F →
  ∃ w',(storeCells ⟨g,o,none⟩ vs j).run P w=.ok () w'∧Rest w w'∧Sats w' (L.set i (Blk g bt (cs.take (o+j)++vs++cs.drop (o+j+vs.length)))) F
 | [],j,o,w,L,cs,hi,hl,h1,s=>by
  refine ⟨w,by simp [storeCells],Rest.refl w,?_⟩
  have:L.set i (Blk g bt (cs.take (o+j)++[]++cs.drop (o+j+([]:List Value).length)))=L:=by
   simp only [List.append_nil,List.length_nil,Nat.add_zero,List.take_append_drop]
   exact List.ext_getElem? fun k=>by
    rw [List.getElem?_set]
    split
    ·rename_i hk;subst hk
     rw [hi]
     split
     ·rfl
     ·rename_i hx;rw [List.getElem?_eq_none (by omega)] at hi;cases hi
    ·rfl
  rw [this];exact s
 | v::vs,j,o,w,L,cs,hi,hl,h1,s=>by
  simp at hl
  have ho:o+j<cs.length:=by omega
  have hcell:w.cell? ⟨g,o+j,none⟩=some cs[o+j]:=blk_cell hi (List.getElem?_eq_getElem ho) s
  have hf:=blk_frozen hi ho s
  have hs:=blk_store v hi ho s
  have hil:i<L.length:=(List.getElem?_eq_some_iff.1 hi).1
  obtain ⟨w',hr,hre,hs'⟩:=run_storeCells_blk (i:=i) (g:=g) (bt:=bt) vs (j+1) o (w.setCell ⟨g,o+j,none⟩ v) (L.set i (Blk g bt (cs.set (o+j) v))) (cs.set (o+j) v) (by simp [hil]) (by simp;omega) (fun u hu=>h1 u (List.mem_cons_of_mem _ hu)) hs
  refine ⟨w',?_,hre,?_⟩
  ·simp [storeCells,addr_add,run_store P w _ v _ (h1 v (List.mem_cons_self ..)),hcell,hf,hr]
  ·rw [List.set_set] at hs'
   have e:=splice_set cs (o+j) v vs (by omega)
   rw [show o+(j+1)=o+j+1 by omega,e] at hs'
   simpa using hs'
theorem st_storeA (i:Nat) {t bt:TypeId} {x y:Operand} {g o:Nat} {cs vs:List Value} {L':List Assn} (hx:evalF f x=.pointer (some ⟨g,o,none⟩)) (hy:evalF f y=.agg vs.toArray) (h1:vs.all Value.oneCell'=true) (hi:L[i]?=some (Blk g bt cs)) (hm:P.cellsOf t=vs.length)
  (hp:Nat.blt 0 vs.length=true) (ho:Nat.ble (o+vs.length) cs.length=true) (hL:L.set i (Blk g bt (cs.take o++vs++cs.drop (o+vs.length)))=L') (h:ExL P n ops rest Q f L'):ExL P n ops (⟨none,.store t x y,ty,pos,af,none⟩::rest) Q f L:=by
 have ho:=Nat.le_of_ble_eq_true ho
 have hp:=Nat.le_of_ble_eq_true hp
 refine ExL.eff rfl rfl (R:=fun _ L2=>L2=L') (fun F w s=>?_) (fun v L2 e=>by subst e;exact h)
 obtain ⟨w',hr,hre,hs⟩:=run_storeCells_blk (P:=P) vs 0 o w L cs hi (by simpa using ho) (by simpa using h1) s
 refine ⟨_,w',_,.inr ⟨?_,rfl⟩,hre,hs,by simpa using hL⟩
 simp [execOp,hx,hy,Instr.storeAt,Instr.sureAddr,storeVar,Value.cells,run_sizeOf' w hm (by omega),hr]
theorem run_indexAt_arr {w:World} {t e:TypeId} {g o m sz:Nat} {k:IntKind} {j:Int} (hu:P.underlying t=some (.array m e)) (hs:P.cellsOf e=sz) (hp:0<sz) (h0:0≤j) (h1:j<m) :
  (Instr.indexAt t (.pointer (some ⟨g,o,none⟩)) (.int k j)).run P w=.ok (.pointer (some ⟨g,o+j.toNat * sz,none⟩)) w:=by
 simp [Instr.indexAt,run_underlying hu,asIntOf,Instr.sureAddr,h0,h1,run_sizeOf' w hs hp,addr_add]
end
end
section
class Rep (α:Type) where
 sz:Nat
 cells:α→List Value
 pos:0<sz
 len:∀ a,(cells a).length=sz
 one:∀ a,(cells a).all Value.oneCell'=true
instance:Rep UInt8:=⟨1,fun b=>[.int .u8 b.toNat],by decide,fun _=>rfl,fun _=>rfl⟩
instance:Rep Int:=⟨1,fun n=>[.int .i64 n],by decide,fun _=>rfl,fun _=>rfl⟩
instance:Rep Bool:=⟨1,fun n=>[.bool n],by decide,fun _=>rfl,fun _=>rfl⟩
structure Txt where
 l:List UInt8
@[reducible] def S (l:List UInt8):ByteArray:=⟨l.toArray⟩
instance:Rep Txt:=⟨1,fun t=>[.string (S t.l)],by decide,fun _=>rfl,fun _=>rfl⟩
def cellsOf {α:Type} [Rep α] (xs:List α):List Value:=xs.flatMap Rep.cells
theorem cellsOf_len {α:Type} [Rep α] (xs:List α):(cellsOf xs).length=xs.length * Rep.sz α:=by
 induction xs with
 | nil=>simp [cellsOf]
 | cons a xs ih =>
  simp only [cellsOf,List.flatMap_cons,List.length_append,List.length_cons,Rep.len] at ih ⊢
  rw [ih,Nat.add_mul];omega
theorem cellsOf_append {α:Type} [Rep α] (xs ys:List α):cellsOf (xs++ys)=cellsOf xs++cellsOf ys:=by simp [cellsOf]
theorem cellsOf_all {α:Type} [Rep α] (xs:List α):∀ u∈cellsOf xs,u.oneCell'=true:=by
 intro u hu
 simp only [cellsOf,List.mem_flatMap] at hu
 obtain ⟨a,_,ha⟩:=hu
 exact List.all_eq_true.1 (Rep.one a) u ha
theorem cellsOf_drop {α:Type} [Rep α] (xs:List α) (i:Nat):(cellsOf xs).drop (i * Rep.sz α)=cellsOf (xs.drop i):=by
 induction xs generalizing i with
 | nil=>simp [cellsOf]
 | cons a xs ih =>
  cases i with
  | zero=>simp
  | succ i =>
   have:(Rep.cells a).length=Rep.sz α:=Rep.len a
   rw [show cellsOf (a::xs)=Rep.cells a++cellsOf xs from by simp [cellsOf],List.drop_append,this,List.drop_eq_nil_of_le (by rw [this,Nat.add_mul];omega),List.nil_append]
   rw [show (i+1) * Rep.sz α - Rep.sz α=i * Rep.sz α by rw [Nat.add_mul];omega,ih]
   rfl
theorem cellsOf_take {α:Type} [Rep α] (xs:List α) (i:Nat):(cellsOf xs).take (i * Rep.sz α)=cellsOf (xs.take i):=by
 induction xs generalizing i with
 | nil=>simp [cellsOf]
 | cons a xs ih =>
  cases i with
  | zero=>simp [cellsOf]
  | succ i =>
   have:(Rep.cells a).length=Rep.sz α:=Rep.len a
   rw [show cellsOf (a::xs)=Rep.cells a++cellsOf xs from by simp [cellsOf],List.take_append,this,List.take_of_length_le (by rw [this,Nat.add_mul];omega)]
   rw [show (i+1) * Rep.sz α - Rep.sz α=i * Rep.sz α by rw [Nat.add_mul];omega,ih]
   simp [cellsOf]
theorem cellsOf_get {α:Type} [Rep α] {xs:List α} {i o:Nat} (hi:i<xs.length) (ho:o<Rep.sz α):(cellsOf xs)[i * Rep.sz α+o]?=(Rep.cells (xs[i]'hi))[o]?:=by
 have h:=cellsOf_drop xs i
 have h2:((cellsOf xs).drop (i * Rep.sz α))[o]?=(cellsOf (xs.drop i))[o]?:=by rw [h]
 rw [List.getElem?_drop] at h2
 rw [h2,List.drop_eq_getElem_cons hi]
 rw [show ∀ ys:List α,cellsOf ((xs[i]'hi)::ys)=Rep.cells (xs[i]'hi)++cellsOf ys from fun ys=>by simp [cellsOf]]
 rw [List.getElem?_append_left (by rw [Rep.len];exact ho)]
def RdT {α:Type} [Rep α] (L:List Assn) (v:Value) (xs:List α):Prop:=Rd L v (Rep.sz α) xs.length (cellsOf xs)
def RowT {α:Type} [Rep α] (v:Value) (t:TypeId) (xs:List α):Assn:=Row v t (Rep.sz α) xs.length (cellsOf xs)
theorem Sub.nil (L:List Assn):Sub [] L:=fun w F s=>Sats.frame s
section
variable {α:Type} [Rep α] {L:List Assn} {v:Value} {xs:List α}
theorem RdT.row {t:TypeId} (i:Nat) (hi:L[i]?=some (RowT v t xs)):RdT L v xs:=rd_row i hi
theorem RdT.sub {L':List Assn} (h:RdT L' v xs) (hs:Sub L' L):RdT L v xs:=rd_sub h hs
theorem RdT.nil (L:List Assn):RdT L (.slice none 0 0) ([]:List α):=rd_nil L _
theorem RdT.base {W:World} (i:Nat) (hi:L[i]?=some (Base W)) (h:Sl W v (Rep.sz α) xs.length (cellsOf xs)):RdT L v xs:=rd_base i hi h
end
def elt (v:Value) (m:Nat):Value:=match v with
 | .slice (some a) _ _=>.pointer (some (a.add m))
 | _=>undef
def subs (v:Value) (l h sz:Nat):Value:=match v with
 | .slice a n c=>.slice (if c=l then a else a.map (·.add (l * sz))) (h - l) (c - l)
 | u=>u
def subs3 (v:Value) (l h m sz:Nat):Value:=match v with
 | .slice a n c=>.slice (if m=l then a else a.map (·.add (l * sz))) (h - l) (m - l)
 | u=>u
theorem sl_sub {w:World} {v:Value} {sz k:Nat} {cs:List Value} (hs:Sl w v sz k cs) {l h m:Nat} (hm:∀ a n c,v=.slice a n c→m≤c) (hl:l≤h) (hk:h≤k) (hhm:h≤m) :
  Sl w (subs3 v l h m sz) sz (h - l) ((cs.drop (l * sz)).take ((h - l) * sz)):=by
 obtain ⟨h1,a,cap,rfl,h3,h4,h5,h6⟩:=hs
 have hmc:=hm a k cap rfl
 have hmul:h * sz≤k * sz:=Nat.mul_le_mul_right _ hk
 have hmul2:l * sz≤h * sz:=Nat.mul_le_mul_right _ hl
 have hdiff:(h - l) * sz=h * sz - l * sz:=Nat.sub_mul _ _ _
 refine ⟨by simp;omega,(if m=l then a else a.map (·.add (l * sz))),m - l,rfl,by omega,by omega,?_,?_⟩
 ·intro ha
  split at ha
  ·have:=h5 ha;omega
  ·cases a with
   | none=>have:=h5 rfl;omega
   | some ad=>simp at ha
 ·intro ad ha j u hu
  by_cases hml:m=l
  ·rw [hml] at hhm
   have:h - l=0:=by omega
   rw [this] at hu
   simp at hu
  ·rw [if_neg hml] at ha
   cases a with
   | none=>simp at ha
   | some a0 =>
    simp at ha
    subst ha
    rw [addr_add2]
    exact h6 a0 rfl _ _ (take_drop_get hu)
theorem sl_cap {w:World} {v:Value} {sz k:Nat} {cs:List Value} (hs:Sl w v sz k cs):∃ a c,v=.slice a k c∧k≤c∧c≤maxLen:=by
 obtain ⟨h1,a,cap,rfl,h3,h4,h5,h6⟩:=hs
 exact ⟨a,cap,rfl,h3,h4⟩
theorem subs_eq (v:Value) (l h sz:Nat):∀ a n c,v=.slice a n c→subs v l h sz=subs3 v l h c sz:=by
 rintro a n c rfl;rfl
theorem rd_subs {L:List Assn} {v:Value} {sz k:Nat} {cs:List Value} (hr:Rd L v sz k cs) {l h:Nat} (hl:l≤h) (hk:h≤k):Rd L (subs v l h sz) sz (h - l) ((cs.drop (l * sz)).take ((h - l) * sz)):=fun w F s=>by
 have hs:=hr w F s
 obtain ⟨a,c,rfl,hkc,_⟩:=sl_cap hs
 rw [subs_eq _ _ _ _ a k c rfl]
 exact sl_sub hs (by rintro a' n' c' e;cases e;exact Nat.le_refl _) hl hk (by omega)
theorem rd_subs3 {L:List Assn} {v:Value} {sz k:Nat} {cs:List Value} (hr:Rd L v sz k cs) {l h m:Nat} (hl:l≤h) (hm:h≤m) (hk:m≤k):Rd L (subs3 v l h m sz) sz (h - l) ((cs.drop (l * sz)).take ((h - l) * sz)):=fun w F s=>by
 have hs:=hr w F s
 obtain ⟨a,c,rfl,hkc,_⟩:=sl_cap hs
 exact sl_sub hs (by rintro a' n' c' e;cases e;omega) hl (by omega) hm
section
variable {α:Type} [Rep α] {L:List Assn} {v:Value} {xs:List α}
theorem take_drop_cells (l h:Nat):((cellsOf xs).drop (l * Rep.sz α)).take ((h - l) * Rep.sz α)=cellsOf ((xs.drop l).take (h - l)):=by
 rw [cellsOf_drop,cellsOf_take]
theorem RdT.subs (hr:RdT L v xs) {l h:Nat} (hl:l≤h) (hk:h≤xs.length):RdT L (Go.Proofs.YtogcfijlhpaeeaaGreat.subs v l h (Rep.sz α)) ((xs.drop l).take (h - l)):=by
 have:=rd_subs hr hl hk
 rw [take_drop_cells] at this
 unfold RdT
 rwa [show ((xs.drop l).take (h - l)).length=h - l by simp;omega]
theorem RdT.subs3 (hr:RdT L v xs) {l h m:Nat} (hl:l≤h) (hm:h≤m) (hk:m≤xs.length):RdT L (Go.Proofs.YtogcfijlhpaeeaaGreat.subs3 v l h m (Rep.sz α)) ((xs.drop l).take (h - l)):=by
 have:=rd_subs3 hr hl hm hk
 rw [take_drop_cells] at this
 unfold RdT
 rwa [show ((xs.drop l).take (h - l)).length=h - l by simp;omega]
end
section
variable {P:Program} {n:Nat} {ops:Array Oper} {Q:Post} {f:Nat→Value} {L:List Assn} {rest:List Oper} {d:Nat} {ty:TypeId} {pos:String} {af:Array Edge}
variable {α:Type} [Rep α] {v:Value} {xs:List α}
theorem some_of_lt {w:World} (hr:Sl w v (Rep.sz α) xs.length (cellsOf xs)) {i:Nat} (hi:i<xs.length):∃ a c,v=.slice (some a) xs.length c∧∀ j u,(cellsOf xs)[j]?=some u→w.cell? (a.add j)=some u:=by
 obtain ⟨hl,a,c,rfl,hk,hm,hn,hcell⟩:=hr
 cases a with
 | none=>have:=hn rfl;omega
 | some ad=>exact ⟨ad,c,rfl,hcell ad rfl⟩
end
end
section
theorem Sats.replace_new {w:World} {L:List Assn} {F:Frag} {A A':Assn} {i:Nat} (o:Obj) (hi:L[i]?=some A) (s:Sats w L F) (ha:A' (Frag.one w.heap.size o)):Sats (w.alloc o) (L.set i A') F:=by
 obtain ⟨h,a,d,s'⟩:=Sats.pick hi s
 have s2:=Sats.less s' d
 exact Sats.put (List.getElem?_eq_some_iff.1 hi).1 ha (Sats.disj_new s2 o) (Sats.alloc_add o s2)
theorem list_set_same {α:Type} {l:List α} {i:Nat} {a:α} (h:l[i]?=some a):l.set i a=l:=by
 apply List.ext_getElem?
 intro k
 rw [List.getElem?_set]
 split
 ·rename_i hk;subst hk
  rw [h]
  split
  ·rfl
  ·rename_i hx;rw [List.getElem?_eq_none (by omega)] at h;cases h
 ·rfl
theorem Sats.rewrite {w w':World} {L:List Assn} {F:Frag} {A':Assn} {i g:Nat} {o o':Obj} (hi:i<L.length) (hd:(Frag.one g o).disj F) (s:Sats w (L.eraseIdx i) ((Frag.one g o).add F)) (ha:A' (Frag.one g o'))
  (hw:∀ n,n≠g→w'.heap[n]?=w.heap[n]?) (hg:w'.heap[g]?=some o'):Sats w' (L.set i A') F:=by
 refine Sats.put hi ha ?_ (Sats.swap (w:=w) (h:=Frag.one g o) ?_ ?_ ?_ hd s)
 ·intro n
  by_cases hn:n=g
  ·subst hn
   rcases hd n with x | x
   ·rw [Frag.one_self] at x;cases x
   ·exact .inr x
  ·exact .inl (Frag.one_other _ hn)
 ·intro n hn
  by_cases e:n=g
  ·subst e;rw [Frag.one_self] at hn;cases hn
  ·exact Frag.one_other _ e
 ·intro n x hn hx
  have e:n≠g:=by rintro rfl;rw [Frag.one_self] at hn;cases hn
  rw [hw n e];exact hx
 ·intro n x hx
  by_cases e:n=g
  ·subst e;rw [Frag.one_self] at hx;cases hx;exact hg
  ·rw [Frag.one_other _ e] at hx;cases hx
theorem setRow_other (w:World) (g:Nat) (c:Array Value) {n:Nat} (h:n≠g):(w.setRow g c).heap[n]?=w.heap[n]?:=by
 simp only [World.setRow,Array.getElem?_modify]
 rw [if_neg (fun e=>h e.symm)]
theorem info_of_bytes {P:Program} {e:TypeId} {sz by_:Nat} {zs:List Value} (hs:P.cellsOf e=sz) (hp:0<sz) (hb:P.bytesOf e=by_) (hz:zeroC P e=some zs):∃ i z,P.info? e=some i∧i.size=sz∧i.bytes=by_∧i.zero=some z∧z.cells=zs.toArray:=by
 unfold Program.cellsOf at hs
 unfold Program.bytesOf at hb
 unfold zeroC at hz
 cases hi:P.info? e with
 | none=>rw [hi] at hs;simp at hs;omega
 | some i =>
  rw [hi] at hs hb hz
  simp at hs hb hz
  obtain ⟨z,hz,rfl⟩:=hz
  exact ⟨i,z,rfl,hs,hb,hz,by simp⟩
section
variable {P:Program} {α:Type} [Rep α] {L:List Assn} {F:Frag} {w:World}
theorem row_append {i:Nat} {v u:Value} {t ty e:TypeId} {xs ys:List α} {sz by_:Nat} {zs:List Value} (hi:L[i]?=some (RowT v e xs)) (hr:RdT L u ys) (ht:P.underlying t=some (.slice e))
  (hs:P.cellsOf e=sz) (hsz:Rep.sz α=sz) (hby:P.bytesOf e=by_) (hbp:0<by_) (hz:zeroC P e=some zs) (hzl:zs.length=sz) (hb:(xs.length+ys.length) * by_≤140737488355328) (s:Sats w L F) :
  ∃ v' w',(Builtin.append_ #[t,t] ty #[v,u]).run P w=.ok v' w'∧Rest w w'∧Sats w' (L.set i (RowT v' e (xs++ys))) F:=by
 have hp:0<sz:=by rw [← hsz];exact Rep.pos
 obtain ⟨inf,z,hinf,hsize,hbytes,hzero,hzc⟩:=info_of_bytes hs hp hby hz
 have hil:i<L.length:=(List.getElem?_eq_some_iff.1 hi).1
 have hru:=hr w F s
 obtain ⟨hl,a,cap,rfl,hmc,hcm,han,hcell⟩:=hru
 obtain ⟨hv1,hv2⟩:=row_heap hi s
 rw [hsz] at hl hv1 hv2
 have hle:xs.length+ys.length≤140737488355328:=by
  have:(xs.length+ys.length) * 1≤(xs.length+ys.length) * by_:=Nat.mul_le_mul_left _ hbp
  omega
 have hall:=cellsOf_all ys
 have hzcs:z.cells.size=sz:=by rw [hzc];simpa using hzl
 by_cases hm:ys.length=0
 ·have hys:ys=[]:=List.eq_nil_of_length_eq_zero hm
  subst hys
  refine ⟨v,w,?_,Rest.refl w,?_⟩
  ·rcases hv2 with ⟨h0,b,rfl⟩ | ⟨g,c2,cur,rfl,hg,hk,hc,hsz2,htk⟩
   ·cases b <;> cases a <;> simp [Builtin.append_,run_underlying ht,sizeOf,typeInfo,hinf,Builtin.lenOf,Builtin.firstCells,loadCells,loadCellsFrom,storeCells]
   ·cases a <;> simp [Builtin.append_,run_underlying ht,sizeOf,typeInfo,hinf,Builtin.lenOf,Builtin.firstCells,loadCells,loadCellsFrom,storeCells,hk]
  ·rw [List.append_nil,list_set_same hi];exact s
 ·cases a with
  | none=>exact absurd (han rfl) (by omega)
  | some ad =>
   have hnews:=hcell ad rfl
   rw [← hsize] at hl
   have grow:∀ (k cap0:Nat) (olds:List Value),k=xs.length→olds=cellsOf xs→cap0<k+ys.length →
     ∃ w',w'=w.drew.alloc (.cells (olds.toArray++(cellsOf ys).toArray++Builtin.zeroCells z.cells (grownCap w (k+ys.length) cap0 e - (k+ys.length))) e) ∧
     Rest w w'∧Sats w' (L.set i (RowT (.slice (some ⟨w.heap.size,0,none⟩) (k+ys.length) (grownCap w (k+ys.length) cap0 e)) e (xs++ys))) F:=by
    intro k cap0 olds hk ho hc
    refine ⟨_,rfl,Rest.refl w,?_⟩
    have hge:=grownCap_ge w (k+ys.length) cap0 e
    have hcm':grownCap w (k+ys.length) cap0 e≤maxLen:=grownCap_le_maxLen w (k+ys.length) cap0 e (by unfold maxLen;omega)
    refine Sats.replace_new (w:=w.drew) _ hi (Sats.drew s) ?_
    refine ⟨cellsOf_len _,.inr ⟨w.heap.size,_,_,by subst hk;simp,rfl,by simpa [hk] using hge,hcm',?_,?_⟩⟩
    ·subst ho
     simp only [Array.size_append,List.size_toArray,size_zeroCells,hzcs,cellsOf_len,hsz,← Nat.add_mul]
     congr 1
     omega
    ·subst ho
     simp only [Array.toList_append]
     rw [← cellsOf_append,← cellsOf_len]
     exact List.take_left
   rcases hv2 with ⟨h0,b,rfl⟩ | ⟨g,c2,cur,rfl,hg,hk,hc,hsz2,htk⟩
   ·have hxs:xs=[]:=List.eq_nil_of_length_eq_zero h0
    subst hxs
    obtain ⟨w',hw',hre,hsat⟩:=grow 0 0 [] rfl rfl (by omega)
    refine ⟨_,w',?_,hre,hsat⟩
    have hb':ys.length * inf.bytes≤140737488355328:=by rw [hbytes];simpa using hb
    rw [hw']
    cases b with
    | none =>
     have:=run_append_nil (P:=P) w t ty e inf z ht hinf hzero ad ys.length cap (cellsOf ys) hl hnews (by omega) (by omega) (by omega)
     simpa using this
    | some ba =>
     have:=run_append_grow (P:=P) w t ty e inf z ht hinf hzero ba 0 0 [] (by simp) (by simp) ad ys.length cap (cellsOf ys) hl hnews (by omega) (by omega) (growslice_fits (by omega) (by simpa using hb'))
     simpa using this
   ·by_cases hroom:xs.length+ys.length≤c2
    ·have hcl:(cellsOf xs).length=xs.length * sz:=by rw [cellsOf_len,hsz]
     have hyl:(cellsOf ys).length=ys.length * sz:=by rw [cellsOf_len,hsz]
     have hfit:xs.length * sz+(cellsOf ys).length≤cur.size:=by
      rw [hyl,hsz2,← Nat.add_mul];exact Nat.mul_le_mul_right _ hroom
     have hrun:=run_append_room (P:=P) w t ty e inf ht hinf g xs.length c2 cur hg ad ys.length cap (cellsOf ys) hl hnews hall hroom (by rw [hsize];exact hfit)
     refine ⟨_,_,hrun,Rest.refl w,?_⟩
     obtain ⟨h,⟨hl2,hcc⟩,dd,s'⟩:=Sats.pick hi s
     rcases hcc with ⟨_,⟨b,hb2⟩,_⟩ | ⟨g2,c3,cur2,hv3,rfl,_⟩
     ·simp at hb2
      omega
     ·cases hv3
      have hcur:cur2=cur:=by
       have:=Sats.frame_left s' g _ (Frag.one_self g _)
       rw [hg] at this
       cases this;rfl
      subst hcur
      rw [hsize] at *
      refine Sats.rewrite (o':=.cells ((cur2.toList.take (xs.length * sz)++cellsOf ys++cur2.toList.drop (xs.length * sz+(cellsOf ys).length)).toArray) e (0,0)) hil dd s' ?_ (fun n hn=>setRow_other w g _ hn) (setRow_heap w g cur2 _ e (0,0) hg)
      refine ⟨cellsOf_len _,.inr ⟨g,c2,_,by simp,rfl,by simpa using hroom,hc,?_,?_⟩⟩
      ·simp;rw [hsz];omega
      ·simp only [htk]
       rw [← cellsOf_append,← cellsOf_len]
       exact List.take_left
    ·obtain ⟨w',hw',hre,hsat⟩:=grow xs.length c2 (cellsOf xs) rfl rfl (by omega)
     refine ⟨_,w',?_,hre,hsat⟩
     rw [hw']
     have hb':(xs.length+ys.length) * inf.bytes≤140737488355328:=by rw [hbytes];exact hb
     have hcl:(cellsOf xs).length=xs.length * inf.size:=by rw [cellsOf_len,hsz,hsize]
     exact run_append_grow (P:=P) w t ty e inf z ht hinf hzero ⟨g,0,none⟩ xs.length c2 (cellsOf xs) hcl (fun j u hj=>by
      rw [addr_add,cell_heap hg,← htk] at *
      rw [List.getElem?_take] at hj
      split at hj
      ·simpa using hj
      ·cases hj) ad ys.length cap (cellsOf ys) hl hnews (by omega) (by omega) (growslice_fits (by omega) hb')
end
theorem Sats.add_empty {w:World} {L:List Assn} {F:Frag} {A:Assn} (s:Sats w L F) (ha:A (fun _=>none)):Sats w (A::L) F :=
 ⟨fun _=>none,ha,fun _=>.inl rfl,by
  have:Frag.add (fun _=>none) F=F:=by funext n;rfl
  rw [this];exact s⟩
theorem rowT_nil {α:Type} [Rep α] (b:Option Addr) (e:TypeId):RowT (.slice b 0 0) e ([]:List α) (fun _=>none):=⟨by simp [cellsOf],.inl ⟨rfl,⟨b,rfl⟩,rfl⟩⟩
section
variable {P:Program} {n:Nat} {ops:Array Oper} {Q:Post} {f:Nat→Value} {L:List Assn} {rest:List Oper} {d:Nat} {ty:TypeId} {pos:String} {af:Array Edge}
variable {α:Type} [Rep α] {v:Value} {xs ys:List α}
theorem st_slice0 {t e:TypeId} {sz:Nat} (hd:Nat.blt d n=true) (ht:P.underlying t=some (.slice e)) (hs:P.cellsOf e=sz) (hp:Nat.blt 0 sz=true)
  (h:∀ g,ExL P n ops rest Q (upd f d (.slice (some ⟨g,0,none⟩) 0 0)) L):ExL P n ops (⟨some d,.buildSlice t 0 #[],ty,pos,af,none⟩::rest) Q f L:=by
 refine ExL.eff rfl hd (R:=fun v L'=>∃ g,v=.slice (some ⟨g,0,none⟩) 0 0∧L'=L) (fun F w s=>?_) ?_
 ·refine ⟨_,w.alloc (.cells #[] e),_,.inl ?_,Rest.refl w,Sats.alloc_drop _ s,w.heap.size,rfl,rfl⟩
  simp [execOp,Instr.buildSlice,run_underlying ht,run_sizeOf' w hs (Nat.le_of_ble_eq_true hp),Instr.fill,newRow,Array.range_zero']
 ·rintro v L' ⟨g,rfl,rfl⟩
  exact h g
end
end
section
theorem wrap_i64 {n:Int} (h1:-9223372036854775808≤n) (h2:n≤9223372036854775807):IntKind.i64.wrap n=n:=by rw [IntKind.wrap_i64];omega
theorem wrap_u8 {n:Int} (h1:0≤n) (h2:n≤255):IntKind.u8.wrap n=n:=by
 simp [IntKind.wrap,IntKind.bits,IntKind.signed];omega
theorem wrap_u32 {n:Int} (h1:0≤n) (h2:n≤4294967295):IntKind.u32.wrap n=n:=by
 simp [IntKind.wrap,IntKind.bits,IntKind.signed];omega
theorem wrap_u64 {n:Int} (h1:0≤n) (h2:n≤18446744073709551615):IntKind.u64.wrap n=n:=by
 simp [IntKind.wrap,IntKind.bits,IntKind.signed];omega
theorem S_size (a:List UInt8):(S a).size=a.length:=by simp [S,ByteArray.size]
theorem S_inj {a b:List UInt8}:S a=S b↔a=b:=by simp [S]
theorem S_toList (a:List UInt8):(S a).toList=a:=by rw [ByteArray.toList_eq]
theorem S_of (s:ByteArray):s=S s.data.toList:=by simp [S]
section
variable {P:Program} {n:Nat} {ops:Array Oper} {Q:Post} {f:Nat→Value} {L:List Assn} {rest:List Oper} {d:Nat} {ty:TypeId} {pos:String} {af:Array Edge}
theorem run_eqGuard {op:BinOp} {t:TypeId} {x y:Operand} {a b:Value} (hne:(op matches .eql | .neq)=false) (w:World):(eqGuard op t x y a b).run P w=.ok () w:=by
 cases op <;> first | (simp at hne;done) | (simp [eqGuard])
end
end
section
def yieldF (ops:Array Oper) (f:Nat→Value) (j:Nat):Option Bool:=match (ops[j]?).bind (·.dst) with
 | some s=>match f s with | .bool b=>some b | _=>none
 | none=>none
def wantF (ops:Array Oper) (f:Nat→Value) (o:Oper):Bool:=Region.wanted o (yieldF ops f)
theorem Agree.yield {D:List Deferred} {n:Nat} {a:Act} {f:Nat→Value} (h:Agree D n a f) (ops:Array Oper):yielded ops a.tmps=yieldF ops f:=by
 funext j
 unfold yielded yieldF
 cases (ops[j]?).bind (·.dst) with
 | none=>rfl
 | some s =>
  have hs:=h.2.2 s
  simp only [Option.bind_some]
  rw [← hs]
  by_cases hl:s<a.tmps.size
  ·simp [Array.getD,hl]
   cases a.tmps[s] <;> rfl
  ·simp [Array.getD,hl,undef]
theorem exec_updo {ops:Array Oper} (f:Nat→Value) (o:Oper) (hs:∀ cs b,o.op≠.select cs b) (dst:Option Nat) (v:Value) (h:∀ d,dst=some d→d ∉ o.looksAt ops):execOp (evalF (updo f dst v)) o=execOp (evalF f) o:=by
 refine execOp_congr o hs fun x hx=>?_
 cases x with
 | tmp t =>
  cases dst with
  | none=>rfl
  | some d =>
   show upd f d v t=f t
   refine upd_other _ _ ?_
   rintro rfl
   exact h t rfl (List.mem_append_left _ (List.mem_filterMap.2 ⟨.tmp t,by simpa using hx,rfl⟩))
 | _=>rfl
theorem want_updo {ops:Array Oper} (f:Nat→Value) (o:Oper) (dst:Option Nat) (v:Value) (h:∀ d,dst=some d→d ∉ o.looksAt ops):wantF ops (updo f dst v) o=wantF ops f o:=by
 cases dst with
 | none=>rfl
 | some d =>
  unfold wantF Region.wanted
  cases hg:o.guard with
  | none=>rfl
  | some gw =>
   obtain ⟨g,want⟩:=gw
   simp only
   have:yieldF ops (upd f d v) g=yieldF ops f g:=by
    unfold yieldF
    cases hs:(ops[g]?).bind (·.dst) with
    | none=>rfl
    | some s =>
     simp only
     rw [upd_other]
     rintro rfl
     exact h s rfl (List.mem_append_right _ (by simp [hg,hs]))
   show (yieldF ops (upd f d v) g == some want)=_
   rw [this]
theorem updo_comm (f:Nat→Value) {x y:Option Nat} (v u:Value) (h:∀ d,x=some d→y≠some d):updo (updo f x v) y u=updo (updo f y u) x v:=by
 cases x with
 | none=>rfl
 | some d =>
  cases y with
  | none=>rfl
  | some e =>
   have hne:e≠d:=fun he=>h d rfl (he ▸ rfl)
   funext t
   show upd (upd f d v) e u t=upd (upd f e u) d v t
   by_cases h1:t=e
   ·subst h1;rw [upd_self,upd_other _ _ hne,upd_self]
   ·by_cases h2:t=d
    ·subst h2;rw [upd_other _ _ h1,upd_self,upd_self]
    ·rw [upd_other _ _ h1,upd_other _ _ h2,upd_other _ _ h2,upd_other _ _ h1]
def Fac (Lb L:List Assn):Prop:=∀ w F,Sats w L F→∃ H,Sats w Lb H∧True
theorem Fac.refl (L:List Assn):Fac L L:=fun w F s=>⟨F,s,trivial⟩
theorem Fac.of {Lb L:List Assn} (h:Sub Lb L):Fac Lb L:=fun w F s=>⟨F,h w F s,trivial⟩
theorem Fac.cons {Lb L:List Assn} (A:Assn) (h:Fac Lb L):Fac Lb (A::L):=fun w F ⟨k,a,d,s⟩ =>
 let ⟨H,s1,_⟩:=h w _ s
 ⟨H,s1,trivial⟩
def Pt (g:Nat) (o:Obj):Assn:=fun h=>h=Frag.one g o
section
variable (P:Program) (n:Nat) (ops:Array Oper) (kd:Nat→Nat) (Lb:List Assn)
def LW (o:Oper) (f:Nat→Value) (w:World) (K:Value→World→Prop):Prop:=match (execOp (evalF f) o).run P w with
 | .ok (.value v) w'=>K v w'
 | .ok .skip w'=>K undef w'
 | .ok (.enter k args) w'=>Calls P k args w' fun e w''=>∃ v,e=.returned v∧K v w''
 | .ok (.row r args) w'=>Rows P r args w' K
 | _=>False
def YA (f:Nat→Value) (o:Oper) (obj:Obj) (mk:Nat→Value):Prop:=∀ w,(execOp (evalF f) o).run P w=.ok (.value (mk w.heap.size)) (w.alloc obj)
def Mix (Z:(Nat→Value)→List Assn→Prop):List (Nat×Oper)→(Nat→Value)→List Assn→Prop
 | [],f,L=>(∃ D F w a,Agree D n a f∧Sats w L F)→∃ L2,Sub L2 L∧Z f L2
 | (i,o)::l,f,L=>(∃ D F w a,Agree D n a f∧Sats w L F) →
  if wantF ops f o=true then
   if kd i=0 then ∃ v,Val P o f Lb v∧Mix Z l (updo f o.dst v) L
   else if kd i=1 then ∃ obj mk,YA P f o obj mk∧∀ g,Mix Z l (updo f o.dst (mk g)) (Pt g obj::L)
   else ∀ F w0 w,Rest w0 w→Sats w L F→LW P o f w fun v w'=>∃ L2,Fac Lb L2∧Rest w0 w'∧Sats w' L2 F∧Mix Z l (updo f o.dst v) L2
  else Mix Z l (updo f o.dst undef) L
end
section
variable {P:Program} {n:Nat} {ops:Array Oper} {kd:Nat→Nat} {Lb:List Assn}
theorem LW.mono {o:Oper} {f:Nat→Value} {w:World} {K K':Value→World→Prop} (h:LW P o f w K) (hk:∀ v w,K v w→K' v w):LW P o f w K':=by
 unfold LW at *
 split
 ·rename_i v w' e;simp only [e] at h;exact hk _ _ h
 ·rename_i w' e;simp only [e] at h;exact hk _ _ h
 ·rename_i k args w' e;simp only [e] at h;exact h.mono fun e w ⟨v,he,hv⟩=>⟨v,he,hk _ _ hv⟩
 ·rename_i r args w' e;simp only [e] at h;exact h.mono hk
 ·split at h
  all_goals first | (rename_i h1 h2 h3 h4 _ _ e;exact absurd e (h1 _ _)) | skip
  all_goals first | exact h.elim | (simp_all)
theorem LW.some {o:Oper} {f:Nat→Value} {w:World} {K:Value→World→Prop} (h:LW P o f w K):∃ v w',K v w':=by
 unfold LW at h
 split at h
 ·exact ⟨_,_,h⟩
 ·exact ⟨_,_,h⟩
 ·obtain ⟨e,w',fr,⟨v,_,hk⟩,_⟩:=h []
  exact ⟨v,w',hk⟩
 ·obtain ⟨v,w',hk,_⟩:=h default []
  exact ⟨v,w',hk⟩
 ·exact h.elim
theorem LW.congr {o:Oper} {f f':Nat→Value} (he:execOp (evalF f') o=execOp (evalF f) o) (w:World) (K:Value→World→Prop):LW P o f' w K=LW P o f w K:=by
 unfold LW;rw [he]
theorem Val.unique {f:Nat→Value} {o:Oper} {v v':Value} {L:List Assn} (h:Val P o f L v) (h':Val P o f L v') {w:World} {F:Frag} (s:Sats w L F):v=v':=by
 have h1:=h F w s
 rw [h' F w s] at h1
 cases h1;rfl
theorem Val.congr {f f':Nat→Value} {o:Oper} {v:Value} {L:List Assn} (he:execOp (evalF f') o=execOp (evalF f) o):Val P o f' L v↔Val P o f L v:=by
 unfold Val;rw [he]
theorem YA.congr {f f':Nat→Value} {o:Oper} {obj:Obj} {mk:Nat→Value} (he:execOp (evalF f') o=execOp (evalF f) o):YA P f' o obj mk↔YA P f o obj mk:=by
 unfold YA;rw [he]
theorem YA.unique {f:Nat→Value} {o:Oper} {obj obj':Obj} {mk mk':Nat→Value} (h:YA P f o obj mk) (h':YA P f o obj' mk') (w:World):obj=obj'∧mk w.heap.size=mk' w.heap.size:=by
 have h1:=h w
 rw [h' w] at h1
 simp only [Result.ok.injEq,Next.value.injEq] at h1
 refine ⟨?_,h1.1.symm⟩
 have h2:=congrArg (fun x:World=>x.heap[w.heap.size]?) h1.2
 simp only [heap_alloc_new] at h2
 cases h2;rfl
theorem world_of_size (w:World) (g:Nat):∃ w':World,w'.heap.size=g:=⟨{ w with heap:=Array.replicate g default },by simp⟩
theorem YA.unique' {f:Nat→Value} {o:Oper} {obj obj':Obj} {mk mk':Nat→Value} (h:YA P f o obj mk) (h':YA P f o obj' mk') (g:Nat):obj=obj'∧mk g=mk' g:=by
 obtain ⟨w,rfl⟩:=world_of_size default g
 exact YA.unique h h' w
variable {Z:(Nat→Value)→List Assn→Prop}
theorem Mix.sub:∀ {l:List (Nat×Oper)} {f:Nat→Value} {L1 L2:List Assn},Sub L2 L1→Mix P n ops kd Lb Z l f L2→Mix P n ops kd Lb Z l f L1
 | [],f,L1,L2,hs,h=>fun ⟨D,F,w,a,ag,s⟩=>let ⟨L3,h1,h2⟩:=h ⟨D,F,w,a,ag,hs w F s⟩;⟨L3,Sub.trans h1 hs,h2⟩
 | (i,o)::l,f,L1,L2,hs,h=>by
  rintro ⟨D,F,w,a,ag,s⟩
  have hb:=h ⟨D,F,w,a,ag,hs w F s⟩
  split
  ·rename_i hw
   rw [if_pos hw] at hb
   split
   ·rename_i hk;rw [if_pos hk] at hb
    obtain ⟨v,hv,hm⟩:=hb
    exact ⟨v,hv,Mix.sub hs hm⟩
   ·rename_i hk;rw [if_neg hk] at hb
    split
    ·rename_i hk2;rw [if_pos hk2] at hb
     obtain ⟨obj,mk,hv,hm⟩:=hb
     exact ⟨obj,mk,hv,fun g=>Mix.sub (Sub.cons _ hs) (hm g)⟩
    ·rename_i hk2;rw [if_neg hk2] at hb
     exact fun F w0 w r s=>hb F w0 w r (hs w F s)
  ·rename_i hw
   rw [if_neg hw] at hb
   exact Mix.sub hs hb
theorem Mix.tail {x:Nat×Oper} {l l':List (Nat×Oper)} (hl:∀ f L,Fac Lb L→Mix P n ops kd Lb Z l f L→Mix P n ops kd Lb Z l' f L) {f:Nat→Value} {L:List Assn} (hf:Fac Lb L) (h:Mix P n ops kd Lb Z (x::l) f L):Mix P n ops kd Lb Z (x::l') f L:=by
 obtain ⟨i,o⟩:=x
 intro W
 have hb:=h W
 split
 ·rename_i hw
  rw [if_pos hw] at hb
  split
  ·rename_i hk;rw [if_pos hk] at hb
   obtain ⟨v,hv,hm⟩:=hb
   exact ⟨v,hv,hl _ _ hf hm⟩
  ·rename_i hk;rw [if_neg hk] at hb
   split
   ·rename_i hk2;rw [if_pos hk2] at hb
    obtain ⟨obj,mk,hv,hm⟩:=hb
    exact ⟨obj,mk,hv,fun g=>hl _ _ (Fac.cons _ hf) (hm g)⟩
   ·rename_i hk2;rw [if_neg hk2] at hb
    exact fun F w0 w r s=>(hb F w0 w r s).mono fun v w' ⟨L2,h1,h2,h3,h4⟩=>⟨L2,h1,h2,h3,hl _ _ h1 h4⟩
 ·rename_i hw
  rw [if_neg hw] at hb
  exact hl _ _ hf hb
theorem Mix.wit:∀ {l:List (Nat×Oper)} {f:Nat→Value} {L:List Assn},((∃ D F w a,Agree D n a f∧Sats w L F)→Mix P n ops kd Lb Z l f L)→Mix P n ops kd Lb Z l f L
 | [],_,_,h=>fun W=>h W W
 | (_,_)::_,_,_,h=>fun W=>h W W
theorem agree_updo {D:List Deferred} {a:Act} {f:Nat→Value} (ag:Agree D n a f) {d:Option Nat} (hd:dstOk n d=true) (v:Value):∃ a',Agree D n a' (updo f d v):=⟨_,ag.puto hd v⟩
theorem Mix.swap {k i:Nat} {p o:Oper} {l:List (Nat×Oper)} (hsp:∀ cs b,p.op≠.select cs b) (hso:∀ cs b,o.op≠.select cs b) (hap:p.apart ops o=true) (hdp:dstOk n p.dst=true) (hdo:dstOk n o.dst=true)
  (hkk:kd i=0∨kd k=0∨kd i=1) {f:Nat→Value} {L:List Assn} (hf:Fac Lb L) (h:Mix P n ops kd Lb Z ((k,p)::(i,o)::l) f L):Mix P n ops kd Lb Z ((i,o)::(k,p)::l) f L:=by
 obtain ⟨a1,a2,a3⟩:=Oper.apart_spec hap
 have ep:∀ f v,execOp (evalF (updo f o.dst v)) p=execOp (evalF f) p:=fun f v=>exec_updo f p hsp o.dst v a3
 have eo:∀ f v,execOp (evalF (updo f p.dst v)) o=execOp (evalF f) o:=fun f v=>exec_updo f o hso p.dst v a1
 have wp:∀ f v,wantF ops (updo f o.dst v) p=wantF ops f p:=fun f v=>want_updo f p o.dst v a3
 have wo:∀ f v,wantF ops (updo f p.dst v) o=wantF ops f o:=fun f v=>want_updo f o p.dst v a1
 have cm:∀ f v u,updo (updo f p.dst v) o.dst u=updo (updo f o.dst u) p.dst v:=fun f v u=>updo_comm f v u a2
 rintro ⟨D,F,w,a,ag,s⟩
 have hb:=h ⟨D,F,w,a,ag,s⟩
 obtain ⟨H,sH,_⟩:=hf w F s
 by_cases hwp:wantF ops f p=true
 case neg =>
  rw [if_neg hwp] at hb
  obtain ⟨a',ag'⟩:=agree_updo ag hdp undef
  have hb2:=hb ⟨D,F,w,a',ag',s⟩
  rw [wo] at hb2
  have skip:∀ u L,Mix P n ops kd Lb Z l (updo (updo f p.dst undef) o.dst u) L→Mix P n ops kd Lb Z ((k,p)::l) (updo f o.dst u) L:=fun u L hm _=>by
   rw [wp,if_neg hwp,← cm];exact hm
  split
  ·rename_i hw
   rw [if_pos hw] at hb2
   split
   ·rename_i hk;rw [if_pos hk] at hb2
    obtain ⟨v,hv,hm⟩:=hb2
    exact ⟨v,(Val.congr (eo _ _)).1 hv,skip _ _ hm⟩
   ·rename_i hk;rw [if_neg hk] at hb2
    split
    ·rename_i hk2;rw [if_pos hk2] at hb2
     obtain ⟨obj,mk,hv,hm⟩:=hb2
     exact ⟨obj,mk,(YA.congr (eo _ _)).1 hv,fun g=>skip _ _ (hm g)⟩
    ·rename_i hk2;rw [if_neg hk2] at hb2
     intro F' w0 w' r s'
     have:=hb2 F' w0 w' r s'
     rw [LW.congr (eo _ _)] at this
     exact this.mono fun v w' ⟨L2,h1,h2,h3,h4⟩=>⟨L2,h1,h2,h3,skip _ _ h4⟩
  ·rename_i hw
   rw [if_neg hw] at hb2
   exact skip _ _ hb2
 case pos =>
  rw [if_pos hwp] at hb
  by_cases k0:kd k=0
  ·-- p only reads
   rw [if_pos k0] at hb
   obtain ⟨vp,hvp,hb⟩:=hb
   obtain ⟨a',ag'⟩:=agree_updo ag hdp vp
   have hb2:=hb ⟨D,F,w,a',ag',s⟩
   rw [wo] at hb2
   have skip:∀ u L,Mix P n ops kd Lb Z l (updo (updo f p.dst vp) o.dst u) L→Mix P n ops kd Lb Z ((k,p)::l) (updo f o.dst u) L:=fun u L hm _=>by
    rw [wp,if_pos hwp,if_pos k0]
    exact ⟨vp,(Val.congr (ep _ _)).2 hvp,by rw [← cm];exact hm⟩
   split
   ·rename_i hw
    rw [if_pos hw] at hb2
    split
    ·rename_i hk;rw [if_pos hk] at hb2
     obtain ⟨v,hv,hm⟩:=hb2
     exact ⟨v,(Val.congr (eo _ _)).1 hv,skip _ _ hm⟩
    ·rename_i hk;rw [if_neg hk] at hb2
     split
     ·rename_i hk2;rw [if_pos hk2] at hb2
      obtain ⟨obj,mk,hv,hm⟩:=hb2
      exact ⟨obj,mk,(YA.congr (eo _ _)).1 hv,fun g=>skip _ _ (hm g)⟩
     ·rename_i hk2;rw [if_neg hk2] at hb2
      intro F' w0 w' r s'
      have:=hb2 F' w0 w' r s'
      rw [LW.congr (eo _ _)] at this
      exact this.mono fun v w' ⟨L2,h1,h2,h3,h4⟩=>⟨L2,h1,h2,h3,skip _ _ h4⟩
   ·rename_i hw
    rw [if_neg hw] at hb2
    exact skip _ _ hb2
  ·rw [if_neg k0] at hb
   by_cases k1:kd k=1
   ·-- p makes a block
    rw [if_pos k1] at hb
    obtain ⟨op,mp,hvp,hb⟩:=hb
    have get:∀ (F:Frag) (w:World),Sats w L F→Sats (w.alloc op) (Pt w.heap.size op::L) F:=fun F w s=>Sats.alloc op s rfl
    obtain ⟨a',ag'⟩:=agree_updo ag hdp (mp w.heap.size)
    have hb2:=hb w.heap.size ⟨D,F,w.alloc op,a',ag',get F w s⟩
    rw [wo] at hb2
    split
    ·rename_i hw
     rw [if_pos hw] at hb2
     split
     ·rename_i hk;rw [if_pos hk] at hb2
      obtain ⟨v,hv,_⟩:=hb2
      have hv':=(Val.congr (eo _ _)).1 hv
      refine ⟨v,hv',fun W=>?_⟩
      rw [wp,if_pos hwp,if_neg k0,if_pos k1]
      refine ⟨op,mp,(YA.congr (ep _ _)).2 hvp,fun g=>Mix.wit ?_⟩
      rintro ⟨D',F',w',a2,ag2,s'⟩
      obtain ⟨a3,ag3⟩:=agree_updo ag hdp (mp g)
      have hb3:=hb g ⟨D,F',w',a3,ag3,s'⟩
      rw [wo,if_pos hw,if_pos hk] at hb3
      obtain ⟨v2,hv2,hm⟩:=hb3
      obtain ⟨H',sH',_⟩:=(Fac.cons (Pt g op) hf) w' F' s'
      rw [← cm,Val.unique hv' ((Val.congr (eo _ _)).1 hv2) sH']
      exact hm
     ·rename_i hk;rw [if_neg hk] at hb2
      have hk2:kd i=1:=by rcases hkk with x | x | x <;> first | exact absurd x hk | exact absurd x k0 | exact x
      rw [if_pos hk2] at hb2
      rw [if_pos hk2]
      obtain ⟨oo,mo,hvo,_⟩:=hb2
      have hvo':=(YA.congr (eo _ _)).1 hvo
      refine ⟨oo,mo,hvo',fun g2=>?_⟩
      intro W
      rw [wp,if_pos hwp,if_neg k0,if_pos k1]
      refine ⟨op,mp,(YA.congr (ep _ _)).2 hvp,fun g=>Mix.wit ?_⟩
      rintro ⟨D',F',w',a2,ag2,s'⟩
      obtain ⟨a3,ag3⟩:=agree_updo ag hdp (mp g)
      have hb3:=hb g ⟨D,F',w',a3,ag3,(Sub.cons _ (Sub.drop _ (Sub.refl L))) w' F' s'⟩
      rw [wo,if_pos hw,if_neg hk,if_pos hk2] at hb3
      obtain ⟨o3,m3,hv3,hm⟩:=hb3
      obtain ⟨e1,e2⟩:=YA.unique' hvo' ((YA.congr (eo _ _)).1 hv3) g2
      rw [← cm,e1,e2]
      exact Mix.sub (Sub.front 1 rfl) (hm g2)
    ·rename_i hw
     rw [if_neg hw] at hb2
     intro W
     rw [wp,if_pos hwp,if_neg k0,if_pos k1]
     refine ⟨op,mp,(YA.congr (ep _ _)).2 hvp,fun g=>Mix.wit ?_⟩
     rintro ⟨D',F',w',a2,ag2,s'⟩
     obtain ⟨a3,ag3⟩:=agree_updo ag hdp (mp g)
     have hb3:=hb g ⟨D,F',w',a3,ag3,s'⟩
     rw [wo,if_neg hw] at hb3
     rw [← cm]
     exact hb3
   ·-- p acts
    rw [if_neg k1] at hb
    obtain ⟨u1,w1,L1,hf1,hr1,s1,hm1⟩:=(hb F w w (Rest.refl w) s).some
    obtain ⟨a',ag'⟩:=agree_updo ag hdp u1
    have hb2:=hm1 ⟨D,F,w1,a',ag',s1⟩
    rw [wo] at hb2
    split
    ·rename_i hw
     rw [if_pos hw] at hb2
     split
     ·rename_i hk;rw [if_pos hk] at hb2
      obtain ⟨v,hv,_⟩:=hb2
      have hv':=(Val.congr (eo _ _)).1 hv
      refine ⟨v,hv',fun W=>?_⟩
      rw [wp,if_pos hwp,if_neg k0,if_neg k1]
      intro F' w0' w' r' s'
      rw [LW.congr (ep _ _)]
      refine (hb F' w0' w' r' s').mono fun u w2 ⟨L2,h1,h2,h3,h4⟩=>⟨L2,h1,h2,h3,Mix.wit ?_⟩
      rintro ⟨D',F2,w3,a2,ag2,s2⟩
      obtain ⟨a3,ag3⟩:=agree_updo ag hdp u
      have hb3:=h4 ⟨D,F2,w3,a3,ag3,s2⟩
      rw [wo,if_pos hw,if_pos hk] at hb3
      obtain ⟨v2,hv2,hm⟩:=hb3
      obtain ⟨H',sH',_⟩:=h1 w3 F2 s2
      rw [← cm,Val.unique hv' ((Val.congr (eo _ _)).1 hv2) sH']
      exact hm
     ·rename_i hk;rw [if_neg hk] at hb2
      have hk2:kd i=1:=by rcases hkk with x | x | x <;> first | exact absurd x hk | exact absurd x k0 | exact x
      rw [if_pos hk2] at hb2
      rw [if_pos hk2]
      obtain ⟨oo,mo,hvo,_⟩:=hb2
      have hvo':=(YA.congr (eo _ _)).1 hvo
      refine ⟨oo,mo,hvo',fun g2=>?_⟩
      intro W
      rw [wp,if_pos hwp,if_neg k0,if_neg k1]
      rintro F' w0' w' r' ⟨x,hx,dx,s'⟩
      rw [LW.congr (ep _ _)]
      refine (hb _ w0' w' r' s').mono fun u w2 ⟨L2,h1,h2,h3,h4⟩=>⟨Pt g2 oo::L2,Fac.cons _ h1,h2,⟨x,hx,dx,h3⟩,Mix.wit ?_⟩
      rintro ⟨D',F2,w3,a2,ag2,s2⟩
      obtain ⟨a3,ag3⟩:=agree_updo ag hdp u
      have hb3:=h4 ⟨D,F2,w3,a3,ag3,(Sub.drop _ (Sub.refl L2)) w3 F2 s2⟩
      rw [wo,if_pos hw,if_neg hk,if_pos hk2] at hb3
      obtain ⟨o3,m3,hv3,hm⟩:=hb3
      obtain ⟨e1,e2⟩:=YA.unique' hvo' ((YA.congr (eo _ _)).1 hv3) g2
      rw [← cm,e1,e2]
      exact hm g2
    ·rename_i hw
     rw [if_neg hw] at hb2
     intro W
     rw [wp,if_pos hwp,if_neg k0,if_neg k1]
     intro F' w0' w' r' s'
     rw [LW.congr (ep _ _)]
     refine (hb F' w0' w' r' s').mono fun u w2 ⟨L2,h1,h2,h3,h4⟩=>⟨L2,h1,h2,h3,Mix.wit ?_⟩
     rintro ⟨D',F2,w3,a2,ag2,s2⟩
     obtain ⟨a3,ag3⟩:=agree_updo ag hdp u
     have hb3:=h4 ⟨D,F2,w3,a3,ag3,s2⟩
     rw [wo,if_neg hw] at hb3
     rw [← cm]
     exact hb3
end
end
section
def edgeOn (ops:Array Oper) (j k:Nat):Bool:=match ops[j]? with
 | some o=>o.after.any fun e=>Region.binds .any e && Nat.beq e.on k
 | none=>false
def waits (ops:Array Oper):Nat→Nat→Nat→Bool
 | 0,j,k=>edgeOn ops j k
 | d+1,j,k=>edgeOn ops j k || match ops[j]? with
  | some o=>o.after.any fun e=>Region.binds .any e && waits ops d e.on k
  | none=>false
def apartAt (ops:Array Oper) (k j:Nat):Bool:=match ops[k]?,ops[j]? with
 | some p,some o=>p.apart ops o
 | _,_=>true
def loudK (x:Nat):Bool:=match x with
 | 0=>false
 | 1=>false
 | _=>true
def mixOk (n:Nat) (ops:Array Oper) (kd:Nat→Nat) (m:Nat):Bool :=
 Region.noSelect ops &&
 (List.range ops.size).all (fun j=>match ops[j]? with | some o=>(o.after.all fun e=>!Region.binds .any e || Nat.blt e.on j) && dstOk n o.dst | none=>true) &&
 (List.range m).all (fun j=>(List.range j).all fun k=>edgeOn ops j k || apartAt ops k j) &&
 (List.range m).all (fun j=>!loudK (kd j) || (List.range j).all fun k=>Nat.beq (kd k) 0 || waits ops 4 j k || (List.range j).any fun x=>Nat.blt k x && loudK (kd x)) &&
 (List.range ops.size).all (fun j=>Nat.blt j m || match Nat.beq j m with | true=>(List.range m).all fun k=>edgeOn ops j k | false=>edgeOn ops j (j - 1)) &&
 Nat.ble m ops.size
def idx:Nat→List Oper→List (Nat×Oper)
 | _,[]=>[]
 | k,o::l=>(k,o)::idx (k+1) l
section
variable {P:Program} {n:Nat} {ops:Array Oper} {kd:Nat→Nat} {Lb:List Assn} {m:Nat}
theorem edgeOn_spec {j k:Nat}:edgeOn ops j k=true↔∃ o,ops[j]?=some o∧∃ e∈o.after,Region.binds .any e=true∧e.on=k:=by
 unfold edgeOn
 cases ho:ops[j]? with
 | none=>simp
 | some o =>
  simp only [← Array.any_toList,List.any_eq_true,Array.mem_toList_iff,Bool.and_eq_true,Option.some.injEq,exists_eq_left']
  exact ⟨fun ⟨e,h1,h2,h3⟩=>⟨e,h1,h2,Nat.eq_of_beq_eq_true h3⟩,fun ⟨e,h1,h2,h3⟩=>⟨e,h1,h2,by rw [h3];simp⟩⟩
structure Inv (ops:Array Oper) (m:Nat) (listed:Array Bool) (l:List (Nat×Oper)):Prop where
 inc:l.Pairwise fun x y=>x.1<y.1
 mem:∀ x∈l,ops[x.1]?=some x.2∧x.1<m∧listed.getD x.1 true=false
 all:∀ i,i<m→listed.getD i true=false→∃ o,(i,o)∈l
 back:∀ i,m≤i→i<ops.size→listed.getD i true=false
 size:listed.size=ops.size
 closed:∀ x o,ops[x]?=some o→listed.getD x false=true→∀ e∈o.after,Region.binds .any e=true→listed.getD e.on false=true
theorem getD_ft {listed:Array Bool} {i:Nat} (h:listed.getD i false=true):listed.getD i true=true:=by
 by_cases hl:i<listed.size
 ·simp [Array.getD,hl] at h ⊢;exact h
 ·simp [Array.getD,hl]
theorem waits_listed {listed:Array Bool} {l:List (Nat×Oper)} (I:Inv ops m listed l):∀ (d j k:Nat),waits ops d j k=true→(listed.getD j false=true∨j∈Region.ready .any ops listed)→listed.getD k false=true:=by
 have direct:∀ (j k:Nat) (o:Oper) (e:Edge),ops[j]?=some o→e∈o.after→Region.binds .any e=true→e.on=k→(listed.getD j false=true∨j∈Region.ready .any ops listed)→listed.getD k false=true:=by
  intro j k o e ho he hb hk h
  subst hk
  rcases h with h | h
  ·exact I.closed j o ho h e he hb
  ·obtain ⟨_,o',ho',hall⟩:=mem_ready.1 h
   rw [ho] at ho';cases ho'
   exact hall e he hb
 intro d
 induction d with
 | zero =>
  intro j k hw h
  obtain ⟨o,ho,e,he,hb,hk⟩:=edgeOn_spec.1 hw
  exact direct j k o e ho he hb hk h
 | succ d ih =>
  intro j k hw h
  simp only [waits,Bool.or_eq_true] at hw
  rcases hw with hw | hw
  ·obtain ⟨o,ho,e,he,hb,hk⟩:=edgeOn_spec.1 hw
   exact direct j k o e ho he hb hk h
  ·cases ho:ops[j]? with
   | none=>rw [ho] at hw;simp at hw
   | some o =>
    rw [ho] at hw
    simp only [← Array.any_toList,List.any_eq_true,Array.mem_toList_iff,Bool.and_eq_true] at hw
    obtain ⟨e,he,hb,hw⟩:=hw
    exact ih e.on k hw (.inl (direct j e.on o e ho he hb rfl h))
theorem loud_listed {listed:Array Bool} {l:List (Nat×Oper)} (I:Inv ops m listed l)
  (hc:∀ j,j<m→loudK (kd j)=true→∀ k,k<j→kd k=0∨waits ops 4 j k=true∨∃ x,x<j∧k<x∧loudK (kd x)=true) :
  ∀ (d j k:Nat),j - k≤d→k<j→j<m→loudK (kd j)=true→kd k≠0→(listed.getD j false=true∨j∈Region.ready .any ops listed)→listed.getD k false=true:=by
 intro d
 induction d with
 | zero=>intro j k h1 h2;omega
 | succ d ih =>
  intro j k h1 h2 hj hl hk h
  rcases hc j hj hl k h2 with h0 | h0 | ⟨x,hx,hkx,hlx⟩
  ·exact absurd h0 hk
  ·exact waits_listed I 4 j k h0 h
  ·have hx0:kd x≠0:=by intro e;rw [e] at hlx;simp [loudK] at hlx
   have:=ih j x (by omega) hx hj hl hx0 h
   exact ih x k (by omega) hkx (by omega) hlx hk (.inl this)
variable {Z:(Nat→Value)→List Assn→Prop}
theorem Mix.front {i:Nat} {o:Oper} {l2:List (Nat×Oper)} (hso:∀ cs b,o.op≠.select cs b) (hdo:dstOk n o.dst=true):∀ (l1:List (Nat×Oper)),(∀ x∈l1,(∀ cs b,x.2.op≠.select cs b)∧x.2.apart ops o=true∧dstOk n x.2.dst=true∧(kd i=0∨kd x.1=0∨kd i=1)) →
  ∀ {f:Nat→Value} {L:List Assn},Fac Lb L→Mix P n ops kd Lb Z (l1++(i,o)::l2) f L→Mix P n ops kd Lb Z ((i,o)::(l1++l2)) f L
 | [],_,f,L,_,h=>h
 | (k,p)::l1,hall,f,L,hf,h=>by
  obtain ⟨h1,h2,h3,h4⟩:=hall (k,p) (List.mem_cons_self ..)
  refine Mix.swap h1 hso h2 h3 hdo h4 hf ?_
  exact Mix.tail (fun f L hf h=>Mix.front hso hdo l1 (fun x hx=>hall x (List.mem_cons_of_mem _ hx)) hf h) hf h
theorem Inv.step {listed:Array Bool} {l1 l2:List (Nat×Oper)} {i:Nat} {o:Oper} (I:Inv ops m listed (l1++(i,o)::l2)) (hi:i∈Region.ready .any ops listed):Inv ops m (listed.setIfInBounds i true) (l1++l2):=by
 have hinc:=I.inc
 rw [List.pairwise_append,List.pairwise_cons] at hinc
 obtain ⟨p1,⟨p2,p3⟩,p4⟩:=hinc
 obtain ⟨hmi,him,hli⟩:=I.mem (i,o) (by simp)
 refine ⟨?_,?_,?_,?_,?_,?_⟩
 ·rw [List.pairwise_append]
  exact ⟨p1,p3,fun a ha b hb=>p4 a ha b (List.mem_cons_of_mem _ hb)⟩
 ·intro x hx
  have hx':x∈l1++(i,o)::l2:=by
   rw [List.mem_append] at hx ⊢
   rcases hx with h | h
   ·exact .inl h
   ·exact .inr (List.mem_cons_of_mem _ h)
  obtain ⟨h1,h2,h3⟩:=I.mem x hx'
  refine ⟨h1,h2,?_⟩
  have hne:i≠x.1:=by
   rw [List.mem_append] at hx
   rcases hx with h | h
   ·have:=p4 x h (i,o) (List.mem_cons_self ..);simp at this;omega
   ·have:=p2 x h;simp at this;omega
  rw [getD_set_ne true hne];exact h3
 ·intro j hj hl
  by_cases hji:i=j
  ·subst hji
   have hs:i<listed.size:=by rw [I.size];exact (Array.getElem?_eq_some_iff.1 hmi).1
   simp [Array.getD,hs] at hl
  ·rw [getD_set_ne true hji] at hl
   obtain ⟨o',h⟩:=I.all j hj hl
   refine ⟨o',?_⟩
   rw [List.mem_append,List.mem_cons] at h
   rw [List.mem_append]
   rcases h with h | h | h
   ·exact .inl h
   ·cases h;exact absurd rfl hji
   ·exact .inr h
 ·intro j h1 h2
  rw [getD_set_ne true (by simp at him;omega)]
  exact I.back j h1 h2
 ·simpa using I.size
 ·intro x o' ho hl e he hb
  by_cases hxi:i=x
  ·subst hxi
   obtain ⟨_,o2,ho2,hall⟩:=mem_ready.1 hi
   rw [ho] at ho2;cases ho2
   exact getD_set_true (hall e he hb)
  ·rw [getD_set_ne false hxi] at hl
   exact getD_set_true (I.closed x o' ho hl e he hb)
theorem wpAny_tail {Q:Exit→Act→World→Prop}:∀ (tl:List Oper) (m:Nat) (listed:Array Bool) (a:Act) (w:World),(∀ j,tl[j]?=ops[m+j]?)→m+tl.length=ops.size→listed.size=ops.size→(∀ i,i<m→listed.getD i false=true)→(∀ i,m≤i→i<ops.size→listed.getD i true=false) →
  (∀ j o,ops[j]?=some o→∀ e∈o.after,Region.binds .any e=true→e.on<j)→(∀ j,m<j→j<ops.size→edgeOn ops j (j - 1)=true)→wpList P ops Q tl a w→wpAny P .any ops Q tl.length listed a w
 | [],m,listed,a,w,htl,hlen,hsz,hl,hb,hlex,hed,h=>by
  refine ⟨?_,h⟩
  rw [List.eq_nil_iff_forall_not_mem]
  intro i hi
  obtain ⟨h0,o,ho,_⟩:=mem_ready.1 hi
  have hi':=(Array.getElem?_eq_some_iff.1 ho).1
  have:=hl i (by simp at hlen;omega)
  rw [getD_ft this] at h0
  cases h0
 | o::tl,m,listed,a,w,htl,hlen,hsz,hl,hb,hlex,hed,h=>by
  have hm:m<ops.size:=by simp at hlen;omega
  have ho:ops[m]?=some o:=by simpa using (htl 0).symm
  have hrm:m∈Region.ready .any ops listed:=mem_ready.2 ⟨hb m (Nat.le_refl _) hm,o,ho,fun e he hbn=>hl _ (hlex m o ho e he hbn)⟩
  refine ⟨fun h0=>(by rw [h0] at hrm;cases hrm),fun i hi=>?_⟩
  have him:i=m:=by
   obtain ⟨h0,o',ho',hall⟩:=mem_ready.1 hi
   have hi':=(Array.getElem?_eq_some_iff.1 ho').1
   rcases Nat.lt_trichotomy i m with hlt | he | hgt
   ·have:=hl i hlt;rw [getD_ft this] at h0;cases h0
   ·exact he
   ·obtain ⟨o2,ho2,e,he,hbn,hek⟩:=edgeOn_spec.1 (hed i hgt hi')
    rw [ho'] at ho2;cases ho2
    have h1:=hall e he hbn
    rw [hek] at h1
    have:=hb (i - 1) (by omega) (by omega)
    rw [getD_ft h1] at this
    cases this
  subst him
  have ih:∀ a w,wpList P ops Q tl a w→wpAny P .any ops Q tl.length (listed.setIfInBounds i true) a w:=fun a w h=>by
   refine wpAny_tail tl (i+1) _ a w (fun j=>by have:=htl (j+1);simpa [Nat.add_assoc,Nat.add_comm 1 j] using this) (by simp at hlen ⊢;omega) (by simpa using hsz) ?_ ?_ hlex (fun j h1 h2=>hed j (by omega) h2) h
   ·intro k hk
    by_cases hki:i=k
    ·subst hki;simp [Array.getD,hsz,hm]
    ·rw [getD_set_ne false hki];exact hl k (by omega)
   ·intro k h1 h2
    rw [getD_set_ne true (by omega)];exact hb k (by omega) h2
  unfold wpOp
  rw [ho]
  simp only
  unfold wpList at h
  split
  ·rename_i hw;rw [if_pos hw] at h;exact h.imp (Oper.wp_mono ih) id
  ·rename_i hw;rw [if_neg hw] at h;exact ih _ _ h
theorem mem_writesL_iff {t:Nat}:∀ {l:List Oper},t∈writesL l↔∃ o∈l,o.dst=some t
 | []=>by simp [writesL]
 | o::l=>by
  unfold writesL
  have ih:=mem_writesL_iff (t:=t) (l:=l)
  cases hd:o.dst with
  | none=>simp [ih,hd]
  | some d=>simp [ih,hd,eq_comm]
theorem mem_split_l {α:Type} {x:α} {l:List α} (h:x∈l):∃ l1 l2,l=l1++x::l2:=List.append_of_mem h
theorem wpAny_mix {Q:Post} {D:List Deferred} {F:Frag} {w0:World} {f0:Nat→Value} {ws:Nat→Bool} (hok:mixOk n ops kd m=true) (hws:∀ d,d∈writesL ops.toList→ws d=true) :
  ∀ (c:Nat) (l:List (Nat×Oper)) (listed:Array Bool) (a:Act) (w:World) (f:Nat→Value) (L:List Assn),l.length=c→Inv ops m listed l→Here D n F w0 f0 ws a w f L→Fac Lb L →
   Mix P n ops kd Lb (fun f L=>ExL P n ops (ops.toList.drop m) Q f L) l f L→wpAny P .any ops (Lift D n F w0 f0 ws Q) (l.length+(ops.size - m)) listed a w:=by
 have hk0:=hok
 simp only [mixOk,Bool.and_eq_true,List.all_eq_true,List.mem_range,Bool.or_eq_true,Bool.not_eq_true'] at hk0
 obtain ⟨⟨⟨⟨⟨c1,c2⟩,c3⟩,c4⟩,c5⟩,c6⟩:=hk0
 have hm:=Nat.le_of_ble_eq_true c6
 have hsel:∀ (j:Nat) (o:Oper),ops[j]?=some o→∀ cs b,o.op≠.select cs b:=fun j o h cs b=>Region.noSelect_spec c1 j o cs b h
 have hlex:∀ j o,ops[j]?=some o→∀ e∈o.after,Region.binds .any e=true→e.on<j:=fun j o ho e he hb=>by
  have:=c2 j (Array.getElem?_eq_some_iff.1 ho).1
  rw [ho] at this
  simp only [Bool.and_eq_true] at this
  have h1:=this.1
  rw [← Array.all_toList,List.all_eq_true] at h1
  have h2:=h1 e (Array.mem_toList_iff.2 he)
  rw [hb] at h2
  simp at h2
  exact h2
 have hdst:∀ (j:Nat) (o:Oper),ops[j]?=some o→dstOk n o.dst=true:=fun j o ho=>by
  have:=c2 j (Array.getElem?_eq_some_iff.1 ho).1
  rw [ho] at this
  simp only [Bool.and_eq_true] at this
  exact this.2
 have hwr:∀ (j:Nat) (o:Oper),ops[j]?=some o→∀ t,o.dst=some t→ws t=true:=fun j o ho t ht =>
  hws t (mem_writesL_iff.2 ⟨o,Array.mem_toList_iff.2 (Array.mem_of_getElem? ho),ht⟩)
 have hloud:∀ j,j<m→loudK (kd j)=true→∀ k,k<j→kd k=0∨waits ops 4 j k=true∨∃ x,x<j∧k<x∧loudK (kd x)=true:=fun j hj hl k hk=>by
  rcases c4 j hj with h | h
  ·rw [hl] at h;cases h
  ·rcases h k hk with (h | h) | h
   ·exact .inl (Nat.eq_of_beq_eq_true h)
   ·exact .inr (.inl h)
   ·simp only [List.any_eq_true,List.mem_range,Bool.and_eq_true] at h
    obtain ⟨x,hx,hkx,hlx⟩:=h
    exact .inr (.inr ⟨x,hx,by simpa using hkx,hlx⟩)
 have htail1:m<ops.size→∀ k,k<m→edgeOn ops m k=true:=fun h2 k hk=>by
  rcases c5 m h2 with h | h
  ·have:=Nat.le_of_ble_eq_true h;omega
  ·rw [Nat.beq_refl] at h
   exact List.all_eq_true.1 h k (List.mem_range.2 hk)
 have htail:∀ j,m<j→j<ops.size→edgeOn ops j (j - 1)=true:=fun j h1 h2=>by
  rcases c5 j h2 with h | h
  ·have:=Nat.le_of_ble_eq_true h;omega
  ·have:Nat.beq j m=false:=by cases hq:Nat.beq j m with | false=>rfl | true=>(have:=Nat.eq_of_beq_eq_true hq;omega)
   rw [this] at h
   exact h
 intro c
 induction c with
 | zero =>
  intro l listed a w f L hc I H hf hM
  have hl:l=[]:=List.eq_nil_of_length_eq_zero hc
  subst hl
  obtain ⟨L2,hs,hx⟩:=hM ⟨D,F,w,a,H.2.1,H.2.2.1⟩
  have hw:=hx D F w0 f0 ws a w ⟨H.1,H.2.1,hs w F H.2.2.1,H.2.2.2⟩ (fun d hd=>by
   obtain ⟨o,ho,hod⟩:=mem_writesL_iff.1 hd
   exact hws d (mem_writesL_iff.2 ⟨o,List.mem_of_mem_drop ho,hod⟩))
  have:=wpAny_tail (P:=P) (ops:=ops) (Q:=Lift D n F w0 f0 ws Q) (ops.toList.drop m) m listed a w (fun j=>by simp) (by simp;omega) I.size (fun i hi=>by
   cases hb:listed.getD i false with
   | true=>rfl
   | false =>
    have hit:listed.getD i true=false:=by
     have hs2:i<listed.size:=by rw [I.size];omega
     simp [Array.getD,hs2] at hb ⊢;exact hb
    obtain ⟨o,ho⟩:=I.all i hi hit
    cases ho) I.back hlex htail hw
  simpa using this
 | succ c ih =>
  intro l listed a w f L hc I H hf hM
  obtain ⟨x0,lt,rfl⟩:∃ x0 lt,l=x0::lt:=by
   cases l with
   | nil=>simp at hc
   | cons x0 lt=>exact ⟨x0,lt,rfl⟩
  obtain ⟨h01,h02,h03⟩:=I.mem x0 (List.mem_cons_self ..)
  have hlow:∀ k,k<x0.1→listed.getD k false=true:=fun k hk=>by
   cases hb:listed.getD k false with
   | true=>rfl
   | false =>
    have hs2:k<listed.size:=by rw [I.size];omega
    have hit:listed.getD k true=false:=by simp [Array.getD,hs2] at hb ⊢;exact hb
    obtain ⟨o,ho⟩:=I.all k (by omega) hit
    rcases List.mem_cons.1 ho with e | e
    ·rw [← e] at hk;simp at hk
    ·have:=(List.pairwise_cons.1 I.inc).1 _ e
     simp at this;omega
  have hr0:x0.1∈Region.ready .any ops listed:=mem_ready.2 ⟨h03,x0.2,h01,fun e he hb=>hlow _ (hlex _ _ h01 e he hb)⟩
  have hlen:(x0::lt).length+(ops.size - m)=lt.length+(ops.size - m)+1:=by simp;omega
  rw [hlen]
  refine ⟨fun h0=>(by rw [h0] at hr0;cases hr0),fun i hi=>?_⟩
  obtain ⟨hli,o,ho,hall⟩:=mem_ready.1 hi
  have hisz:=(Array.getElem?_eq_some_iff.1 ho).1
  have him:i<m:=by
   rcases Nat.lt_or_ge i m with h | h
   ·exact h
   ·exfalso
    rcases Nat.eq_or_lt_of_le h with h | h
    ·subst h
     obtain ⟨o2,ho2,e,he,hbn,hek⟩:=edgeOn_spec.1 (htail1 hisz x0.1 (by omega))
     rw [ho] at ho2;cases ho2
     have h1:=hall e he hbn
     rw [hek] at h1
     rw [getD_ft h1] at h03
     cases h03
    ·obtain ⟨o2,ho2,e,he,hbn,hek⟩:=edgeOn_spec.1 (htail i h hisz)
     rw [ho] at ho2;cases ho2
     have h1:=hall e he hbn
     rw [hek] at h1
     have:=I.back (i - 1) (by omega) (by omega)
     rw [getD_ft h1] at this
     cases this
  obtain ⟨o',hmem⟩:=I.all i him hli
  obtain ⟨hoo,_,_⟩:=I.mem _ hmem
  simp only at hoo
  rw [ho] at hoo
  cases hoo
  obtain ⟨l1,l2,hl⟩:=mem_split_l hmem
  rw [hl] at I hM hc
  have hinc:=I.inc
  rw [List.pairwise_append,List.pairwise_cons] at hinc
  have hM':=Mix.front (hsel i o ho) (hdst i o ho) l1 (fun y hy=>by
   obtain ⟨y1,y2,y3⟩:=I.mem y (List.mem_append_left _ hy)
   have hlt:y.1<i:=hinc.2.2 y hy (i,o) (List.mem_cons_self ..)
   have hne:edgeOn ops i y.1=false:=by
    cases hb:edgeOn ops i y.1 with
    | false=>rfl
    | true =>
     obtain ⟨o2,ho2,e,he,hbn,hek⟩:=edgeOn_spec.1 hb
     rw [ho] at ho2;cases ho2
     have h1:=hall e he hbn
     rw [hek] at h1
     rw [getD_ft h1] at y3
     cases y3
   refine ⟨hsel _ _ y1,?_,hdst _ _ y1,?_⟩
   ·have:=c3 i him y.1 hlt
    rw [hne] at this
    rcases this with h | h
    ·cases h
    ·unfold apartAt at h
     rw [y1,ho] at h
     exact h
   ·by_cases k0:kd y.1=0
    ·exact .inr (.inl k0)
    ·cases hlk:loudK (kd i) with
     | false =>
      unfold loudK at hlk
      split at hlk
      ·rename_i h;exact .inl h
      ·rename_i h;exact .inr (.inr h)
      ·cases hlk
     | true =>
      have:=loud_listed I hloud (i - y.1) i y.1 (Nat.le_refl _) hlt him hlk k0 (.inr hi)
      rw [getD_ft this] at y3
      cases y3) hf hM
  have I':=I.step hi
  have hlc:(l1++l2).length=c:=by simp at hc ⊢;omega
  have hlt2:lt.length=(l1++l2).length:=by
   have:(x0::lt).length=(l1++(i,o)::l2).length:=by rw [hl]
   simp at this ⊢;omega
  rw [hlt2]
  have hb:=hM' ⟨D,F,w,a,H.2.1,H.2.2.1⟩
  have hwant:Region.wanted o (yielded ops a.tmps)=wantF ops f o:=by rw [H.2.1.yield ops];rfl
  unfold wpOp
  rw [ho]
  simp only
  rw [hwant]
  have next:∀ (v:Value) (w':World) (L':List Assn),Rest w w'→Sats w' L' F→Fac Lb L'→Mix P n ops kd Lb (fun f L=>ExL P n ops (ops.toList.drop m) Q f L) (l1++l2) (updo f o.dst v) L' →
    wpAny P .any ops (Lift D n F w0 f0 ws Q) ((l1++l2).length+(ops.size - m)) (listed.setIfInBounds i true) (a.put o.dst v) w':=fun v w' L' hr hs hf' hm' =>
   ih (l1++l2) _ _ w' _ L' hlc I' (H.puto hr hs (hdst i o ho) (hwr i o ho) v) hf' hm'
  split
  ·rename_i hw
   rw [if_pos hw] at hb
   refine .inl ?_
   unfold Oper.wp
   rw [H.2.1.eval]
   by_cases k0:kd i=0
   ·rw [if_pos k0] at hb
    obtain ⟨v,hv,hm'⟩:=hb
    obtain ⟨HH,sH,hback⟩:=hf w F H.2.2.1
    rw [hv HH w sH]
    exact next v w L (Rest.refl w) H.2.2.1 hf hm'
   ·rw [if_neg k0] at hb
    by_cases k1:kd i=1
    ·rw [if_pos k1] at hb
     obtain ⟨obj,mk,hv,hm'⟩:=hb
     rw [hv w]
     exact next _ _ (Pt w.heap.size obj::L) (Rest.refl w) (Sats.alloc obj H.2.2.1 rfl) (Fac.cons _ hf) (hm' w.heap.size)
    ·rw [if_neg k1] at hb
     have hlw:=hb F w0 w H.1 H.2.2.1
     have fin:∀ v w',(∃ L2,Fac Lb L2∧Rest w0 w'∧Sats w' L2 F∧Mix P n ops kd Lb (fun f L=>ExL P n ops (ops.toList.drop m) Q f L) (l1++l2) (updo f o.dst v) L2) →
       wpAny P .any ops (Lift D n F w0 f0 ws Q) ((l1++l2).length+(ops.size - m)) (listed.setIfInBounds i true) (a.put o.dst v) w':=by
      rintro v w' ⟨L2,h1,h2,h3,h4⟩
      have hp:=Here.puto (w':=w) H (Rest.refl w) H.2.2.1 (hdst i o ho) (hwr i o ho) v
      exact ih (l1++l2) _ _ w' _ L2 hlc I' ⟨h2,hp.2.1,h3,hp.2.2.2⟩ h1 h4
     unfold LW at hlw
     generalize (execOp (evalF f) o).run P w=r at hlw ⊢
     cases r with
     | halt x w'=>exact hlw.elim
     | ok nx w' =>
      cases nx with
      | value v=>exact fin v w' hlw
      | skip=>exact fin undef w' hlw
      | enter k args =>
       show Calls P k args w' _
       exact Calls.mono hlw fun e w2 ⟨v,he,hv⟩=>by subst he;exact fin v w2 hv
      | row r args =>
       show Rows P r args w' _
       exact Rows.mono hlw fun v w2 hv=>fin v w2 hv
      | _=>exact hlw.elim
  ·rename_i hw
   rw [if_neg hw] at hb
   exact next undef w L (Rest.refl w) H.2.2.1 hf hb
theorem idx_mem:∀ {l:List Oper} {k:Nat} {x:Nat×Oper},x∈idx k l→k≤x.1∧x.1<k+l.length∧l[x.1 - k]?=some x.2
 | [],_,_,h=>by cases h
 | o::l,k,x,h=>by
  rcases List.mem_cons.1 h with e | e
  ·subst e;simp
  ·obtain ⟨h1,h2,h3⟩:=idx_mem e
   refine ⟨by omega,by simp;omega,?_⟩
   rw [show x.1 - k=(x.1 - (k+1))+1 by omega]
   simpa using h3
theorem idx_get:∀ {l:List Oper} {k i:Nat} {o:Oper},l[i]?=some o→(k+i,o)∈idx k l
 | [],_,_,_,h=>by simp at h
 | p::l,k,0,o,h=>by simp at h;subst h;exact List.mem_cons_self ..
 | p::l,k,i+1,o,h=>by
  have:=idx_get (k:=k+1) (show l[i]?=some o by simpa using h)
  rw [show k+(i+1)=k+1+i by omega]
  exact List.mem_cons_of_mem _ this
theorem idx_inc:∀ {l:List Oper} {k:Nat},(idx k l).Pairwise fun x y=>x.1<y.1
 | [],_=>List.Pairwise.nil
 | o::l,k=>List.pairwise_cons.2 ⟨fun y hy=>by have:=(idx_mem hy).1;simp;omega,idx_inc⟩
theorem Ex.mix {Q:Post} {f:Nat→Value} {L:List Assn} {id:Nat} (m:Nat) (kd:Nat→Nat) (Lb:List Assn) (hm:P.follows .mixedOrders=true) (hok:mixOk n ops kd m=true) (hf:Fac Lb L)
  (h:Mix P n ops kd Lb (fun f L=>ExL P n ops (ops.toList.drop m) Q f L) (idx 0 (ops.toList.take m)) f L):Ex P n (.region id ops true) Q f L:=fun D F w0 f0 ws a w H hc=>by
 have hk0:=hok
 simp only [mixOk,Bool.and_eq_true] at hk0
 have hms:=Nat.le_of_ble_eq_true hk0.2
 refine wp_region_any hm ?_
 have hl:(idx 0 (ops.toList.take m)).length=m:=by
  have:∀ (l:List Oper) k,(idx k l).length=l.length:=by
   intro l
   induction l with
   | nil=>intro k;rfl
   | cons o l ih=>intro k;simp [idx,ih]
  rw [this];simp;omega
 have:=wpAny_mix (P:=P) (Q:=Q) (F:=F) (w0:=w0) (f0:=f0) (ws:=ws) hok hc m (idx 0 (ops.toList.take m)) (Array.replicate ops.size false) a w.drew f L hl ⟨idx_inc,?_,?_,?_,by simp,?_⟩ ⟨H.1,H.2.1,Sats.drew H.2.2.1,H.2.2.2⟩ hf h
 ·rw [hl,show m+(ops.size - m)=ops.size by omega] at this
  exact this
 ·intro x hx
  obtain ⟨h1,h2,h3⟩:=idx_mem hx
  simp at h2 h3
  rw [List.getElem?_take] at h3
  split at h3
  ·refine ⟨by simpa using h3,by omega,?_⟩
   simp [Array.getD];omega
  ·cases h3
 ·intro i hi _
  have hs:i<ops.size:=by omega
  refine ⟨ops[i],?_⟩
  have:=idx_get (k:=0) (l:=ops.toList.take m) (i:=i) (o:=ops[i]) (by rw [List.getElem?_take,if_pos hi];simp [hs])
  simpa using this
 ·intro i _ hi
  simp [Array.getD,hi]
 ·intro x o ho hx
  exfalso
  have hs:=(Array.getElem?_eq_some_iff.1 ho).1
  simp [Array.getD,hs] at hx
section
variable {Z:(Nat→Value)→List Assn→Prop} {f:Nat→Value} {L:List Assn} {i:Nat} {o:Oper} {l:List (Nat×Oper)}
def mxEnd (P:Program) (n:Nat) (kd:Nat→Nat) (ops:Array Oper) (Lb:List Assn) (Z:(Nat→Value)→List Assn→Prop) (l:List (Nat×Oper)):Post
 | .normal,f,L=>Fac Lb L∧Mix P n ops kd Lb Z l f L
 | _,_,_=>False
theorem mx_nil (h:Z f L):Mix P n ops kd Lb Z [] f L:=fun _=>⟨L,Sub.refl L,h⟩
theorem mx_val {v:Value} {d:Nat} (hk:kd i=0) (hg:o.guard=none) (ho:o.dst=some d) (hv:Val P o f Lb v) (h:Mix P n ops kd Lb Z l (upd f d v) L):Mix P n ops kd Lb Z ((i,o)::l) f L:=fun _=>by
 have hw:wantF ops f o=true:=wanted_none hg
 rw [if_pos hw,if_pos hk]
 exact ⟨v,hv,by rw [ho];exact h⟩
theorem yieldF_of {j s:Nat} {b:Bool} (hs:(ops[j]?).bind (·.dst)=some s) (hb:f s=.bool b):yieldF ops f j=some b:=by
 unfold yieldF;rw [hs];simp only [hb]
theorem mx_gskip {j s:Nat} {want b:Bool} (hg:o.guard=some (j,want)) (hs:(ops[j]?).bind (·.dst)=some s) (hb:f s=.bool b) (hne:(b == want)=false) (h:Mix P n ops kd Lb Z l (updo f o.dst undef) L):Mix P n ops kd Lb Z ((i,o)::l) f L:=fun _=>by
 have hw:wantF ops f o=false:=by
  unfold wantF Region.wanted
  rw [hg]
  simp only [yieldF_of hs hb]
  cases b <;> cases want <;> simp_all
 rw [hw]
 exact h
theorem mx_gtake {j s:Nat} {want:Bool} (hg:o.guard=some (j,want)) (hs:(ops[j]?).bind (·.dst)=some s) (hb:f s=.bool want) (h:Mix P n ops kd Lb Z ((i,{ o with guard:=none })::l) f L):Mix P n ops kd Lb Z ((i,o)::l) f L:=fun W=>by
 have hw:wantF ops f o=true:=by
  unfold wantF Region.wanted
  rw [hg]
  simp only [yieldF_of hs hb]
  simp
 have h1:=h W
 have hw':wantF ops f { o with guard:=none }=true:=wanted_none rfl
 rw [hw'] at h1
 rw [hw]
 exact h1
theorem mx_eqv {f':Nat→Value} (he:f=f') (h:Mix P n ops kd Lb Z l f' L):Mix P n ops kd Lb Z l f L:=he ▸ h
theorem mx_gsplit {j s:Nat} {want:Bool} {p:Prop} [Decidable p] (hg:o.guard=some (j,want)) (hs:(ops[j]?).bind (·.dst)=some s) (hb:f s=.bool (decide p))
  (ht:p→Mix P n ops kd Lb Z ((i,o)::l) (upd f s (.bool true)) L) (hf:¬p→Mix P n ops kd Lb Z ((i,o)::l) (upd f s (.bool false)) L):Mix P n ops kd Lb Z ((i,o)::l) f L:=by
 by_cases h:p
 ·exact mx_eqv (upd_eq (by rw [hb,decide_eq_true h])) (ht h)
 ·exact mx_eqv (upd_eq (by rw [hb,decide_eq_false h])) (hf h)
theorem mx_act (hk:loudK (kd i)=true) (hg:o.guard=none) (hdo:dstOk n o.dst=true) (h:ExL P n ops [o] (mxEnd P n kd ops Lb Z l) f L):Mix P n ops kd Lb Z ((i,o)::l) f L:=fun ⟨D,_,_,a,ag,_⟩=>by
 have hw:wantF ops f o=true:=wanted_none hg
 have k0:kd i≠0:=fun e=>by rw [e] at hk;simp [loudK] at hk
 have k1:kd i≠1:=fun e=>by rw [e] at hk;simp [loudK] at hk
 rw [if_pos hw,if_neg k0,if_neg k1]
 intro F w0 w r s
 have h1:=h D F w0 f (fun _=>true) a w ⟨r,ag,s,fun t ht=>by cases ht⟩ (fun _ _=>rfl)
 unfold wpList at h1
 rw [if_pos (wanted_none hg)] at h1
 have fin:∀ (a2:Act) (w2:World),Lift D n F w0 f (fun _=>true) (mxEnd P n kd ops Lb Z l) .normal a2 w2→∃ f2 L2,Agree D n a2 f2∧Rest w0 w2∧Sats w2 L2 F∧Fac Lb L2∧Mix P n ops kd Lb Z l f2 L2:=fun a2 w2 ⟨f2,L2,⟨r2,ag2,s2,_⟩,q1,q2⟩=>⟨f2,L2,ag2,r2,s2,q1,q2⟩
 have same:∀ (v:Value) (f2:Nat→Value),Agree D n (a.put o.dst v) f2→f2=updo f o.dst v:=fun v f2 ag2=>by
  funext t
  rw [← ag2.2.2 t,(ag.puto hdo v).2.2 t]
 have fin2:∀ (v:Value) (w2:World),Lift D n F w0 f (fun _=>true) (mxEnd P n kd ops Lb Z l) .normal (a.put o.dst v) w2→∃ L2,Fac Lb L2∧Rest w0 w2∧Sats w2 L2 F∧Mix P n ops kd Lb Z l (updo f o.dst v) L2:=fun v w2 hl=>by
  obtain ⟨f2,L2,ag2,r2,s2,hf2,hm2⟩:=fin _ _ hl
  rw [same v f2 ag2] at hm2
  exact ⟨L2,hf2,r2,s2,hm2⟩
 rcases h1 with h1 | ⟨_,a2,w2,_,_,_,hq⟩
 ·unfold Oper.wp at h1
  rw [ag.eval] at h1
  unfold LW
  generalize (execOp (evalF f) o).run P w=rr at h1 ⊢
  cases rr with
  | halt x w' =>
   cases x with
   | panic v=>obtain ⟨_,_,_,hq⟩:=h1;exact hq.elim
   | _=>exact h1.elim
  | ok nx w' =>
   cases nx with
   | value v=>exact fin2 v w' h1
   | skip=>exact fin2 undef w' h1
   | defer dd =>
    obtain ⟨f2,L2,hh,_⟩:=(show Lift D n F w0 f (fun _=>true) (mxEnd P n kd ops Lb Z l) .normal _ _ from h1)
    have:=hh.2.1.1
    have e2:=ag.1
    cases hd:o.dst <;> simp [Act.put,hd,e2] at this
   | enter k args =>
    show Calls P k args w' _
    refine Calls.mono h1 fun e w2 he=>?_
    cases e with
    | returned v=>exact ⟨v,rfl,fin2 v w2 he⟩
    | panicked c=>obtain ⟨_,_,_,hq⟩:=he;exact hq.elim
    | outgrown=>obtain ⟨_,_,_,_,_,hq⟩:=he;exact hq.elim
   | row r args =>
    show Rows P r args w' _
    exact Rows.mono h1 fun v w2 hv=>fin2 v w2 hv
   | _=>exact h1.elim
 ·exact hq.elim
theorem mxEnd_n (hf:Fac Lb L) (h:Mix P n ops kd Lb Z l f L):mxEnd P n kd ops Lb Z l .normal f L:=⟨hf,h⟩
theorem mx_new {d:Nat} {obj:Obj} {mk:Nat→Value} (A:Nat→Assn) (hk:kd i=1) (hg:o.guard=none) (ho:o.dst=some d) (hv:YA P f o obj mk) (ha:∀ g,A g (Frag.one g obj)) (h:∀ g,Mix P n ops kd Lb Z l (upd f d (mk g)) (A g::L)):Mix P n ops kd Lb Z ((i,o)::l) f L:=fun _=>by
 have hw:wantF ops f o=true:=wanted_none hg
 rw [if_pos hw,if_neg (by rw [hk];decide),if_pos hk]
 refine ⟨obj,mk,hv,fun g=>?_⟩
 rw [ho]
 exact Mix.sub (Sub.cons' (fun x hx=>by rw [show x=Frag.one g obj from hx];exact ha g) (Sub.refl L)) (h g)
end
end
end
section
section
variable {P:Program} {f:Nat→Value} {L:List Assn} {d:Nat} {ty:TypeId} {pos:String} {af:Array Edge} {gd:Option (Nat×Bool)}
theorem vl_eqv {op:BinOp} {xt yt:TypeId} {x y:Operand} {a b v:Value} (hx:evalF f x=a) (hy:evalF f y=b) (hg:∀ w,(eqGuard op xt x y a b).run P w=.ok () w) (hr:∀ w,(binOp op xt a b).run P w=.ok v w)
  : Val P ⟨some d,.binOp op xt x y yt,ty,pos,af,gd⟩ f L v:=(fun F w s=>by simp [execOp,hx,hy,hg,hr])
theorem vl_bin {op:BinOp} {xt yt:TypeId} {x y:Operand} {a b v:Value} (hx:evalF f x=a) (hy:evalF f y=b) (hne:(op matches .eql | .neq)=false) (hr:∀ w,(binOp op xt a b).run P w=.ok v w)
  : Val P ⟨some d,.binOp op xt x y yt,ty,pos,af,gd⟩ f L v:=vl_eqv  hx hy (run_eqGuard hne) hr
theorem vl_add64 {xt yt:TypeId} {x y:Operand} {a b:Int} (hx:evalF f x=.int .i64 a) (hy:evalF f y=.int .i64 b) (h1:-9223372036854775808≤a+b) (h2:a+b≤9223372036854775807)
  : Val P ⟨some d,.binOp .add xt x y yt,ty,pos,af,gd⟩ f L (.int .i64 (a+b)):=vl_bin  hx hy rfl (fun w=>by simp [binOp,Op.intArith,wrap_i64 h1 h2])
theorem vl_sub64 {xt yt:TypeId} {x y:Operand} {a b:Int} (hx:evalF f x=.int .i64 a) (hy:evalF f y=.int .i64 b) (h1:-9223372036854775808≤a - b) (h2:a - b≤9223372036854775807)
  : Val P ⟨some d,.binOp .sub xt x y yt,ty,pos,af,gd⟩ f L (.int .i64 (a - b)):=vl_bin  hx hy rfl (fun w=>by simp [binOp,Op.intArith,wrap_i64 h1 h2])
theorem vl_mul64 {xt yt:TypeId} {x y:Operand} {a b:Int} (hx:evalF f x=.int .i64 a) (hy:evalF f y=.int .i64 b) (h1:-9223372036854775808≤a * b) (h2:a * b≤9223372036854775807)
  : Val P ⟨some d,.binOp .mul xt x y yt,ty,pos,af,gd⟩ f L (.int .i64 (a * b)):=vl_bin  hx hy rfl (fun w=>by simp [binOp,Op.intArith,wrap_i64 h1 h2])
theorem vl_addw {k:IntKind} {xt yt:TypeId} {x y:Operand} {a b:Int} (hx:evalF f x=.int k a) (hy:evalF f y=.int k b)
  : Val P ⟨some d,.binOp .add xt x y yt,ty,pos,af,gd⟩ f L (.int k (k.wrap (a+b))):=vl_bin  hx hy rfl (fun w=>by simp [binOp,Op.intArith])
theorem vl_subw {k:IntKind} {xt yt:TypeId} {x y:Operand} {a b:Int} (hx:evalF f x=.int k a) (hy:evalF f y=.int k b)
  : Val P ⟨some d,.binOp .sub xt x y yt,ty,pos,af,gd⟩ f L (.int k (k.wrap (a - b))):=vl_bin  hx hy rfl (fun w=>by simp [binOp,Op.intArith])
theorem vl_rem0 {k:IntKind} {xt yt:TypeId} {x y:Operand} {a b:Int} (hx:evalF f x=.int k a) (hy:evalF f y=.int k b) (ha:0≤a) (hb:0<b)
  : Val P ⟨some d,.binOp .rem xt x y yt,ty,pos,af,gd⟩ f L (.int k (a % b)):=vl_bin  hx hy rfl (fun w=>by simp [binOp,Op.intDiv,show b≠0 by omega,Int.tmod_eq_emod_of_nonneg ha])
theorem vl_remt {k:IntKind} {xt yt:TypeId} {x y:Operand} {a b:Int} (hx:evalF f x=.int k a) (hy:evalF f y=.int k b) (hb:b≠0)
  : Val P ⟨some d,.binOp .rem xt x y yt,ty,pos,af,gd⟩ f L (.int k (a.tmod b)):=vl_bin  hx hy rfl (fun w=>by simp [binOp,Op.intDiv,hb])
theorem vl_quo0 {xt yt:TypeId} {x y:Operand} {a b:Int} (hx:evalF f x=.int .i64 a) (hy:evalF f y=.int .i64 b) (ha:0≤a) (hb:0<b) (h2:a / b≤9223372036854775807)
  : Val P ⟨some d,.binOp .quo xt x y yt,ty,pos,af,gd⟩ f L (.int .i64 (a / b)):=by
 have h0:0≤a / b:=Int.ediv_nonneg ha (by omega)
 refine vl_bin hx hy rfl (fun w=>?_)
 simp [binOp,Op.intDiv,show b≠0 by omega,Int.tdiv_eq_ediv_of_nonneg ha,wrap_i64 (show -9223372036854775808≤a / b by omega) h2]
theorem vl_bits {op:BinOp} {k:IntKind} {xt yt:TypeId} {x y:Operand} {a b:Int} (hx:evalF f x=.int k a) (hy:evalF f y=.int k b) (ho:(op matches .and | .or | .xor | .andNot)=true)
  : Val P ⟨some d,.binOp op xt x y yt,ty,pos,af,gd⟩ f L (.int k (bits op k a b)):=by
 refine vl_bin hx hy (by cases op <;> simp_all) (fun w=>?_)
 cases op <;> first | (simp at ho;done) | (simp [binOp,Op.intBits,bits])
theorem vl_shl {k k':IntKind} {xt yt:TypeId} {x y:Operand} {a b:Int} (hx:evalF f x=.int k a) (hy:evalF f y=.int k' b) (hb:0≤b)
  : Val P ⟨some d,.binOp .shl xt x y yt,ty,pos,af,gd⟩ f L (.int k (k.wrap (a * 2 ^ (min b.toNat k.bits)))):=vl_bin  hx hy rfl (fun w=>by simp [binOp,Op.shift,show ¬ b<0 by omega])
theorem vl_shr {k k':IntKind} {xt yt:TypeId} {x y:Operand} {a b:Int} (hx:evalF f x=.int k a) (hy:evalF f y=.int k' b) (hb:0≤b)
  : Val P ⟨some d,.binOp .shr xt x y yt,ty,pos,af,gd⟩ f L (.int k (a.fdiv (2 ^ (min b.toNat k.bits)))):=vl_bin  hx hy rfl (fun w=>by simp [binOp,Op.shift,show ¬ b<0 by omega])
theorem vl_not_d {t:TypeId} {x:Operand} {p:Prop} [i:Decidable p] (hx:evalF f x=.bool (decide p)):Val P ⟨some d,.unOp .not t x,ty,pos,af,gd⟩ f L (.bool (decide (¬p))):=(fun F w s=>by simp [execOp,hx,Op.unary])
theorem vl_not {t:TypeId} {x:Operand} {b:Bool} (hx:evalF f x=.bool b):Val P ⟨some d,.unOp .not t x,ty,pos,af,gd⟩ f L (.bool (!b)):=(fun F w s=>by simp [execOp,hx,Op.unary])
theorem vl_not_t {t:TypeId} {x:Operand} (hx:evalF f x=.bool true):Val P ⟨some d,.unOp .not t x,ty,pos,af,gd⟩ f L (.bool false):=vl_not  hx
theorem vl_not_f {t:TypeId} {x:Operand} (hx:evalF f x=.bool false):Val P ⟨some d,.unOp .not t x,ty,pos,af,gd⟩ f L (.bool true):=vl_not  hx
theorem vl_eql_b {xt yt:TypeId} {x y:Operand} {a b:Bool} (hx:evalF f x=.bool a) (hy:evalF f y=.bool b) (hu:P.underlying xt=some .bool)
  : Val P ⟨some d,.binOp .eql xt x y yt,ty,pos,af,gd⟩ f L (.bool (decide (a=b))):=vl_eqv  hx hy (fun w=>by simp [eqGuard]) (fun w=>by
  have h1:(Op.equal xt (.bool a) (.bool b)).run P w=.ok (decide (a=b)) w:=by
   show (Op.equalIn (9999+1) xt (.bool a) (.bool b)).run P w=_
   rw [run_equalIn_bool' w 9999 xt a b hu];cases a <;> cases b <;> rfl
  simp only [binOp,Sem.run_bind,h1,Result.andThen_ok,Sem.run_pure])
theorem vl_neq_b {xt yt:TypeId} {x y:Operand} {a b:Bool} (hx:evalF f x=.bool a) (hy:evalF f y=.bool b) (hu:P.underlying xt=some .bool)
  : Val P ⟨some d,.binOp .neq xt x y yt,ty,pos,af,gd⟩ f L (.bool (decide (a≠b))):=vl_eqv  hx hy (fun w=>by simp [eqGuard]) (fun w=>by
  have h1:(Op.equal xt (.bool a) (.bool b)).run P w=.ok (decide (a=b)) w:=by
   show (Op.equalIn (9999+1) xt (.bool a) (.bool b)).run P w=_
   rw [run_equalIn_bool' w 9999 xt a b hu];cases a <;> cases b <;> rfl
  simp only [binOp,Sem.run_bind,h1,Result.andThen_ok,Sem.run_pure]
  cases a <;> cases b <;> rfl)
theorem vl_eql_s {xt yt:TypeId} {x y:Operand} {a b:List UInt8} (hx:evalF f x=.string (S a)) (hy:evalF f y=.string (S b))
  : Val P ⟨some d,.binOp .eql xt x y yt,ty,pos,af,gd⟩ f L (.bool (decide (a=b))):=vl_eqv  hx hy (fun w=>by simp [eqGuard]) (fun w=>by
  simp only [binOp,Op.stringOp,S_toList]
  rw [show (a == b)=decide (a=b) by by_cases h:a=b <;> simp [h]]
  rfl)
theorem vl_neq_s {xt yt:TypeId} {x y:Operand} {a b:List UInt8} (hx:evalF f x=.string (S a)) (hy:evalF f y=.string (S b))
  : Val P ⟨some d,.binOp .neq xt x y yt,ty,pos,af,gd⟩ f L (.bool (decide (a≠b))):=vl_eqv  hx hy (fun w=>by simp [eqGuard]) (fun w=>by
  simp only [binOp,Op.stringOp,S_toList]
  rw [show (!(a == b))=decide (a≠b) by by_cases h:a=b <;> simp [h]]
  rfl)
theorem vl_len_s {x:Operand} {t:TypeId} {a:List UInt8} (hx:evalF f x=.string (S a)) (hu:P.underlying t=some .string):Val P ⟨some d,.call ⟨.builtin .len,#[x],#[t]⟩,ty,pos,af,gd⟩ f L (.int .i64 a.length):=(fun F w s=>by simp [execOp,resolve,invoke,builtin,hx,Builtin.len_,run_underlying hu,goInt,S_size])
theorem vl_min {x y:Operand} {ts:Array TypeId} {k k':IntKind} {a b:Int} (hx:evalF f x=.int k a) (hy:evalF f y=.int k' b):Val P ⟨some d,.call ⟨.builtin .min,#[x,y],ts⟩,ty,pos,af,gd⟩ f L (.int k (min a b)):=(fun F w s=>by
  simp [execOp,resolve,invoke,builtin,hx,hy,Builtin.min_,Builtin.min2]
  omega)
theorem vl_max {x y:Operand} {ts:Array TypeId} {k k':IntKind} {a b:Int} (hx:evalF f x=.int k a) (hy:evalF f y=.int k' b):Val P ⟨some d,.call ⟨.builtin .max,#[x,y],ts⟩,ty,pos,af,gd⟩ f L (.int k (max a b)):=(fun F w s=>by
  simp [execOp,resolve,invoke,builtin,hx,hy,Builtin.max_,Builtin.max2]
  omega)
theorem vl_conv {src dst:TypeId} {x:Operand} {k k':IntKind} {a r:Int} {ds:TypeDesc} (hx:evalF f x=.int k a) (hs:P.underlying src=some ds) (hu:P.underlying dst=some (.int k')) (hr:k'.wrap a=r)
  : Val P ⟨some d,.convert src dst x,ty,pos,af,gd⟩ f L (.int k' r):=(fun F w s=>by simp [execOp,hx,convert,run_underlying hs,run_underlying hu,Conv.intToInt,hr])
theorem vl_extract {x:Operand} {vs:Array Value} {i:Nat} {v:Value} (hx:evalF f x=.tuple vs) (hv:vs[i]?=some v):Val P ⟨some d,.extract x i,ty,pos,af,gd⟩ f L v:=(fun F w s=>by simp [execOp,hx,Instr.extract,hv])
theorem vl_nil_eq {xt yt e:TypeId} {x y:Operand} {a:Addr} (hx:evalF f x=.pointer (some a)) (hy:evalF f y=.pointer none) (hu:P.underlying xt=some (.pointer e)):Val P ⟨some d,.binOp .eql xt x y yt,ty,pos,af,gd⟩ f L (.bool false):=vl_eqv  hx hy (fun w=>by simp [eqGuard]) (fun w=>by
  have h1:(Op.equal xt (.pointer (some a)) (.pointer none)).run P w=.ok false w:=by
   show (Op.equalIn (9999+1) xt (.pointer (some a)) (.pointer none)).run P w=_
   rw [Op.equalIn]
   simp [run_underlying hu]
  simp only [binOp,Sem.run_bind,h1,Result.andThen_ok,Sem.run_pure])
theorem vl_move {x:Operand} {v:Value} (hx:evalF f x=v):Val P ⟨some d,.move x,ty,pos,af,gd⟩ f L v:=(fun F w s=>by rw [← hx];rfl)
theorem vl_assign {x:Operand} {v:Value} (hx:evalF f x=v):Val P ⟨some d,.assign x,ty,pos,af,gd⟩ f L v:=(fun F w s=>by rw [← hx];rfl)
theorem vl_pick_t {c x y:Operand} {v:Value} (hc:evalF f c=.bool true) (hx:evalF f x=v):Val P ⟨some d,.pick c x y,ty,pos,af,gd⟩ f L v:=(fun F w s=>by rw [← hx];simp [execOp,hc,asBool])
theorem vl_pick_f {c x y:Operand} {v:Value} (hc:evalF f c=.bool false) (hy:evalF f y=v):Val P ⟨some d,.pick c x y,ty,pos,af,gd⟩ f L v:=(fun F w s=>by rw [← hy];simp [execOp,hc,asBool])
theorem vl_cmp {op:BinOp} {xt yt:TypeId} {x y:Operand} {k:IntKind} {a b:Int} (p:Prop) [i:Decidable p] (hx:evalF f x=.int k a) (hy:evalF f y=.int k b)
  (hr:(binOp op xt (.int k a) (.int k b))=pure (.bool (decide p))):Val P ⟨some d,.binOp op xt x y yt,ty,pos,af,gd⟩ f L (.bool (decide p)):=(fun F w s=>by cases op <;> simp [execOp,hx,hy,eqGuard,hr])
theorem vl_lss {xt yt:TypeId} {x y:Operand} {k:IntKind} {a b:Int} (hx:evalF f x=.int k a) (hy:evalF f y=.int k b)
  : Val P ⟨some d,.binOp .lss xt x y yt,ty,pos,af,gd⟩ f L (.bool (decide (a<b))):=vl_cmp (a<b)  hx hy (by simp [binOp,Op.intCmp])
theorem vl_leq {xt yt:TypeId} {x y:Operand} {k:IntKind} {a b:Int} (hx:evalF f x=.int k a) (hy:evalF f y=.int k b)
  : Val P ⟨some d,.binOp .leq xt x y yt,ty,pos,af,gd⟩ f L (.bool (decide (a≤b))):=vl_cmp (a≤b)  hx hy (by simp [binOp,Op.intCmp])
theorem vl_gtr {xt yt:TypeId} {x y:Operand} {k:IntKind} {a b:Int} (hx:evalF f x=.int k a) (hy:evalF f y=.int k b)
  : Val P ⟨some d,.binOp .gtr xt x y yt,ty,pos,af,gd⟩ f L (.bool (decide (b<a))):=vl_cmp (b<a)  hx hy (by simp [binOp,Op.intCmp])
theorem vl_geq {xt yt:TypeId} {x y:Operand} {k:IntKind} {a b:Int} (hx:evalF f x=.int k a) (hy:evalF f y=.int k b)
  : Val P ⟨some d,.binOp .geq xt x y yt,ty,pos,af,gd⟩ f L (.bool (decide (b≤a))):=vl_cmp (b≤a)  hx hy (by simp [binOp,Op.intCmp])
theorem vl_eql {xt yt:TypeId} {x y:Operand} {k:IntKind} {a b:Int} (hx:evalF f x=.int k a) (hy:evalF f y=.int k b)
  : Val P ⟨some d,.binOp .eql xt x y yt,ty,pos,af,gd⟩ f L (.bool (decide (a=b))):=vl_cmp (a=b)  hx hy (by simp [binOp,Op.intCmp];rfl)
theorem vl_neq {xt yt:TypeId} {x y:Operand} {k:IntKind} {a b:Int} (hx:evalF f x=.int k a) (hy:evalF f y=.int k b)
  : Val P ⟨some d,.binOp .neq xt x y yt,ty,pos,af,gd⟩ f L (.bool (decide (a≠b))):=vl_cmp (a≠b)  hx hy (by simp [binOp,Op.intCmp];rfl)
theorem vl_load1 (i:Nat) {t bt:TypeId} {x:Operand} {g o:Nat} {cs:List Value} {v:Value} (hx:evalF f x=.pointer (some ⟨g,o,none⟩)) (hi:L[i]?=some (Blk g bt cs)) (hA:aggB P t=some false) (hv:cs[o]?=some v)
  : Val P ⟨some d,.load t x,ty,pos,af,gd⟩ f L v:=(fun F w s=>by simp [execOp,hx,Instr.loadAt,Instr.sureAddr,run_loadVar1 w hA (blk_cell hi hv s)])
theorem vl_loadA (i:Nat) {t bt:TypeId} {x:Operand} {g o m:Nat} {cs vs:List Value} (hx:evalF f x=.pointer (some ⟨g,o,none⟩)) (hi:L[i]?=some (Blk g bt cs)) (hA:aggB P t=some true) (hm:P.cellsOf t=m) (hp:Nat.blt 0 m=true)
  (hl:Nat.ble (o+m) cs.length=true) (hv:(cs.drop o).take m=vs):Val P ⟨some d,.load t x,ty,pos,af,gd⟩ f L (.agg vs.toArray):=by
 have hp:=Nat.le_of_ble_eq_true hp
 have hl:=Nat.le_of_ble_eq_true hl
 have hlen:vs.length=m:=by rw [← hv];simp;omega
 intro F w s
 have:=run_loadVarA (P:=P) w (t:=t) (a:=⟨g,o,none⟩) (cs:=vs) hA (by rw [hm,hlen]) (by omega) (fun j u hj=>by
  rw [addr_add]
  rw [← hv] at hj
  exact blk_cell hi (take_drop_get hj) s)
 simp [execOp,hx,Instr.loadAt,Instr.sureAddr,this]
theorem vl_field {s:TypeId} {x:Operand} {g o fi off:Nat} (hx:evalF f x=.pointer (some ⟨g,o,none⟩)) (hf:fieldOff P s fi=some off)
  : Val P ⟨some d,.fieldAddr s x fi,ty,pos,af,gd⟩ f L (.pointer (some ⟨g,o+off,none⟩)):=(fun F w s=>by simp [execOp,hx,run_fieldAt w hf,addr_add])
theorem vl_nilCheck {x:Operand} {a:Addr} (hx:evalF f x=.pointer (some a)):Val P ⟨some d,.nilCheck x,ty,pos,af,gd⟩ f L (.pointer (some a)):=(fun F w s=>by simp [execOp,hx])
theorem vl_idxA {t e:TypeId} {x y:Operand} {g o m sz:Nat} {k:IntKind} {j:Int} (hx:evalF f x=.pointer (some ⟨g,o,none⟩)) (hy:evalF f y=.int k j) (hu:P.underlying t=some (.array m e)) (hs:P.cellsOf e=sz) (hp:Nat.blt 0 sz=true)
  (h0:0≤j) (h1:j<(m:Int)):Val P ⟨some d,.indexAddr t x y,ty,pos,af,gd⟩ f L (.pointer (some ⟨g,o+j.toNat * sz,none⟩)):=(fun F w s=>by simp [execOp,hx,hy,run_indexAt_arr hu hs (Nat.le_of_ble_eq_true hp) h0 h1])
variable {α:Type} [Rep α] {v:Value} {xs:List α}
theorem vl_len {x:Operand} {t e:TypeId} (hx:evalF f x=v) (hu:P.underlying t=some (.slice e)) (hr:RdT L v xs):Val P ⟨some d,.call ⟨.builtin .len,#[x],#[t]⟩,ty,pos,af,gd⟩ f L (.int .i64 xs.length):=(fun F w s=>by
  obtain ⟨a,c,rfl,_,_⟩:=sl_cap (hr w F s)
  simp [execOp,resolve,invoke,builtin,hx,Builtin.len_,run_underlying hu,goInt])
theorem vl_idxS {t e:TypeId} {x y:Operand} {k:IntKind} {j sz:Nat} (hx:evalF f x=v) (hy:evalF f y=.int k (j:Int)) (hu:P.underlying t=some (.slice e)) (hr:RdT L v xs) (hs:P.cellsOf e=sz) (hsz:Rep.sz α=sz)
  (h1:j<xs.length):Val P ⟨some d,.indexAddr t x y,ty,pos,af,gd⟩ f L (elt v (j * sz+0)):=(fun F w s=>by
  have hp:0<sz:=by rw [← hsz];exact Rep.pos
  obtain ⟨hl,a,c,rfl,hk,hm,hn,hcell⟩:=hr w F s
  cases a with
  | none=>have:=hn rfl;omega
  | some ad =>
   have h1':(j:Int)<(xs.length:Int):=by omega
   simp [execOp,hx,hy,Instr.indexAt,run_underlying hu,asIntOf,h1,run_sizeOf' w hs hp,elt])
theorem vl_idxSi {t e:TypeId} {x y:Operand} {k:IntKind} {j:Int} {sz:Nat} (hx:evalF f x=v) (hy:evalF f y=.int k j) (hu:P.underlying t=some (.slice e)) (hr:RdT L v xs) (hs:P.cellsOf e=sz) (hsz:Rep.sz α=sz)
  (h0:0≤j) (h1:j<(xs.length:Int)):Val P ⟨some d,.indexAddr t x y,ty,pos,af,gd⟩ f L (elt v (j.toNat * sz+0)):=by
 obtain ⟨m,rfl⟩:=Int.eq_ofNat_of_zero_le h0
 have:=vl_idxS (ty:=ty) (pos:=pos) (af:=af) (gd:=gd) (d:=d) hx hy hu hr hs hsz (by omega)
 simpa using this
theorem vl_fieldS {s:TypeId} {x:Operand} {i sz o fi off:Nat} (hx:evalF f x=elt v (i * sz+o)) (hr:RdT L v xs) (hi:i<xs.length) (hf:fieldOff P s fi=some off)
  : Val P ⟨some d,.fieldAddr s x fi,ty,pos,af,gd⟩ f L (elt v (i * sz+(o+off))):=(fun F w s=>by
  obtain ⟨a,c,rfl,_⟩:=some_of_lt (hr w F s) hi
  simp [execOp,hx,elt,run_fieldAt w hf,addr_add2,Nat.add_assoc])
theorem vl_idxE {t e:TypeId} {x y:Operand} {k:IntKind} {i sz o m es:Nat} {j:Int} (hx:evalF f x=elt v (i * sz+o)) (hy:evalF f y=.int k j) (hu:P.underlying t=some (.array m e)) (hs:P.cellsOf e=es) (hp:Nat.blt 0 es=true) (hr:RdT L v xs) (hi:i<xs.length)
  (h0:0≤j) (h1:j<(m:Int)):Val P ⟨some d,.indexAddr t x y,ty,pos,af,gd⟩ f L (elt v (i * sz+(o+j.toNat * es))):=(fun F w s=>by
  obtain ⟨a,c,rfl,_⟩:=some_of_lt (hr w F s) hi
  simp [execOp,hx,hy,elt,Instr.indexAt,run_underlying hu,asIntOf,Instr.sureAddr,h0,h1,run_sizeOf' w hs (Nat.le_of_ble_eq_true hp),addr_add2,Nat.add_assoc])
theorem vl_loadS1 {t:TypeId} {x:Operand} {i sz o:Nat} {u:Value} (hx:evalF f x=elt v (i * sz+o)) (hA:aggB P t=some false) (hr:RdT L v xs) (hi:i<xs.length) (hsz:Rep.sz α=sz) (hv:(Rep.cells (xs[i]'hi))[o]?=some u)
  : Val P ⟨some d,.load t x,ty,pos,af,gd⟩ f L u:=(fun F w s=>by
  obtain ⟨a,c,rfl,hcell⟩:=some_of_lt (hr w F s) hi
  have ho:o<Rep.sz α:=by rw [← Rep.len (xs[i]'hi)];exact (List.getElem?_eq_some_iff.1 hv).1
  have:=hcell (i * sz+o) u (by rw [← hsz,cellsOf_get hi ho,hv])
  simp [execOp,hx,elt,Instr.loadAt,Instr.sureAddr,run_loadVar1 w hA this])
theorem vl_loadSA {t:TypeId} {x:Operand} {i sz o m:Nat} {us:List Value} (hx:evalF f x=elt v (i * sz+o)) (hA:aggB P t=some true) (hm:P.cellsOf t=m) (hp:Nat.blt 0 m=true) (hr:RdT L v xs) (hi:i<xs.length) (hsz:Rep.sz α=sz) (hle:Nat.ble (o+m) sz=true)
  (hv:((Rep.cells (xs[i]'hi)).drop o).take m=us):Val P ⟨some d,.load t x,ty,pos,af,gd⟩ f L (.agg us.toArray):=(fun F w s=>by
  obtain ⟨a,c,rfl,hcell⟩:=some_of_lt (hr w F s) hi
  have hle:=Nat.le_of_ble_eq_true hle
  have hp:=Nat.le_of_ble_eq_true hp
  have hlen:us.length=m:=by rw [← hv];simp [Rep.len];omega
  have:=run_loadVarA (P:=P) w (t:=t) (a:=a.add (i * sz+o)) (cs:=us) hA (by rw [hm,hlen]) (by omega) (fun j u hj=>by
   rw [addr_add2]
   rw [← hv] at hj
   have hj':=take_drop_get hj
   have ho:o+j<Rep.sz α:=by rw [← Rep.len (xs[i]'hi)];exact (List.getElem?_eq_some_iff.1 hj').1
   exact hcell _ u (by rw [← hsz,Nat.add_assoc,cellsOf_get hi ho,hj']))
  simp [execOp,hx,elt,Instr.loadAt,Instr.sureAddr,this])
end
end
section
theorem cells_one {v:Value} (h:v.oneCell'=true):v.cells=#[v]:=by cases v <;> first | rfl | (simp [Value.oneCell'] at h)
section
variable {P:Program} {n:Nat} {ops:Array Oper} {Q:Post} {f:Nat→Value} {L:List Assn} {rest:List Oper} {d:Nat} {ty:TypeId} {pos:String} {af:Array Edge} {gd:Option (Nat×Bool)}
theorem vl_loadW (i:Nat) {t bt:TypeId} {x:Operand} {g:Nat} {cs:List Value} (hx:evalF f x=.pointer (some ⟨g,0,none⟩)) (hi:L[i]?=some (Blk g bt cs)) (hA:aggB P t=some true) (hm:P.cellsOf t=cs.length) (hp:Nat.blt 0 cs.length=true) :
  Val P ⟨some d,.load t x,ty,pos,af,gd⟩ f L (.agg cs.toArray) :=
 vl_loadA i hx hi hA hm hp (by simp) (by simp)
theorem st_boxA {e:TypeId} {x:Operand} {cs:List Value} (hd:Nat.blt d n=true) (hx:evalF f x=.agg cs.toArray) (h:∀ g,ExL P n ops rest Q (upd f d (.pointer (some ⟨g,0,none⟩))) (Blk g e cs::L)) :
  ExL P n ops (⟨some d,.box e x,ty,pos,af,none⟩::rest) Q f L:=st_box hd hx (by simp [Value.cells]) h
theorem st_box1 {e:TypeId} {x:Operand} {v:Value} (hd:Nat.blt d n=true) (hx:evalF f x=v) (h1:v.oneCell'=true) (h:∀ g,ExL P n ops rest Q (upd f d (.pointer (some ⟨g,0,none⟩))) (Blk g e [v]::L)) :
  ExL P n ops (⟨some d,.box e x,ty,pos,af,none⟩::rest) Q f L:=st_box hd hx (by rw [cells_one h1]) h
def Evs (f:Nat→Value):List (Nat×Operand)→List (Nat×List Value)→Prop
 | [],[]=>True
 | (i,x)::l,(j,vs)::ps=>i=j∧(evalF f x).cells.toList=vs∧Evs f l ps
 | _,_=>False
theorem evs_nil:Evs f [] []:=trivial
theorem evs_one {i:Nat} {x:Operand} {v:Value} {l:List (Nat×Operand)} {ps:List (Nat×List Value)} (h:evalF f x=v) (h1:v.oneCell'=true) (t:Evs f l ps):Evs f ((i,x)::l) ((i,[v])::ps):=⟨rfl,by rw [h,cells_one h1],t⟩
theorem evs_agg {i:Nat} {x:Operand} {cs:List Value} {l:List (Nat×Operand)} {ps:List (Nat×List Value)} (h:evalF f x=.agg cs.toArray) (t:Evs f l ps):Evs f ((i,x)::l) ((i,cs)::ps):=⟨rfl,by rw [h];simp [Value.cells],t⟩
def over (cs:List Value) (o:Nat) (vs:List Value):List Value:=cs.take o++vs++cs.drop (o+vs.length)
def lay (off:Nat→Option (Nat×Nat)):List Value→List (Nat×List Value)→Option (List Value)
 | cs,[]=>some cs
 | cs,(i,vs)::ps=>match off i with
  | some (o,sz)=>match Nat.beq vs.length sz && Nat.ble (o+sz) cs.length with
   | true=>lay off (over cs o vs) ps
   | false=>none
  | none=>none
theorem foldl_over:∀ (vs:List Value) (cs:Array Value) (o k:Nat),o+k+vs.length≤cs.size→((vs.zipIdx k).foldl (fun (cs:Array Value) (x:Value×Nat)=>cs.setIfInBounds (o+x.2) x.1) cs).toList=over cs.toList (o+k) vs
 | [],cs,o,k,h=>by simp [over]
 | v::vs,cs,o,k,h=>by
  simp only [List.zipIdx_cons,List.foldl_cons]
  rw [foldl_over vs _ o (k+1) (by simp at h ⊢;omega)]
  simp only [over,Array.toList_setIfInBounds]
  rw [show o+(k+1)=o+k+1 by omega]
  exact splice_set cs.toList (o+k) v vs (by simp at h ⊢;omega)
theorem fill_lay (place:Nat→Option (Nat×Nat)):∀ (ps:List (Nat×Value)) (cs:Array Value) (vs:List Value),lay place cs.toList (ps.map fun p=>(p.1,p.2.cells.toList))=some vs→Instr.fill place cs ps=some vs.toArray
 | [],cs,vs,h=>by simp [lay] at h;subst h;simp [Instr.fill]
 | (i,v)::ps,cs,vs,h=>by
  simp only [List.map_cons,lay] at h
  simp only [Instr.fill]
  cases hp:place i with
  | none=>rw [hp] at h;cases h
  | some os =>
   obtain ⟨o,sz⟩:=os
   rw [hp] at h
   simp only at h
   split at h
   ·rename_i hb
    simp only [Bool.and_eq_true] at hb
    have h1:=Nat.eq_of_beq_eq_true hb.1
    have h2:=Nat.le_of_ble_eq_true hb.2
    simp at h1 h2
    simp only
    rw [if_neg (by simp;omega)]
    refine fill_lay place ps _ vs ?_
    rw [← h]
    congr 1
    rw [← Array.foldl_toList,Array.toList_zipIdx]
    have:=foldl_over v.cells.toList cs o 0 (by simp;omega)
    simpa using this
   ·cases h
def offS (P:Program) (t:TypeId) (i:Nat):Option (Nat×Nat):=match P.underlying t with
 | some (.struct fs)=>(fs[i]?).map fun fd=>(fd.offset,P.cellsOf fd.type)
 | some (.array _ e)=>some (i * P.cellsOf e,P.cellsOf e)
 | _=>none
theorem evs_map {f:Nat→Value}:∀ {l:List (Nat×Operand)} {ps:List (Nat×List Value)},Evs f l ps→(l.map fun p=>(p.1,evalF f p.2)).map (fun p=>(p.1,p.2.cells.toList))=ps
 | [],[],_=>rfl
 | (i,x)::l,(j,vs)::ps,⟨h1,h2,h3⟩=>by
  simp only [List.map_cons]
  rw [evs_map h3,h1,h2]
theorem mapM_run {α β:Type} {w:World} (g:α→Sem β) (k:α→β):∀ (l:List α),(∀ x∈l,(g x).run P w=.ok (k x) w)→(l.mapM g).run P w=.ok (l.map k) w
 | [],_=>rfl
 | x::l,h=>by
  simp only [List.mapM_cons,Sem.run_bind,h x (List.mem_cons_self ..),Result.andThen_ok,mapM_run g k l (fun y hy=>h y (List.mem_cons_of_mem _ hy)),Sem.run_pure,List.map_cons]
theorem vl_build {t:TypeId} {fs:Array Field} {parts:List (Nat×Operand)} {zs vs:List Value} {ps:List (Nat×List Value)} (hu:P.underlying t=some (.struct fs)) (hp:(fs.toList.all fun fd=>Nat.blt 0 (P.cellsOf fd.type))=true) (hz:zeroC P t=some zs)
  (he:Evs f parts ps) (hl:lay (offS P t) zs ps=some vs):Val P ⟨some d,.build t parts.toArray,ty,pos,af,gd⟩ f L (.agg vs.toArray):=fun F w s=>by
 obtain ⟨z,hr,hc⟩:=run_zeroValue w hz
 have hall:∀ fd∈fs.toList,0<P.cellsOf fd.type:=fun fd hfd=>Nat.le_of_ble_eq_true (List.all_eq_true.1 hp fd hfd)
 have hm:=mapM_run (P:=P) (w:=w) (fun fd:Field=>(do pure (fd.offset,← sizeOf fd.type):Sem (Nat×Nat))) (fun fd=>(fd.offset,P.cellsOf fd.type)) fs.toList (fun fd hfd=>by
  have h1:=run_sizeOf' (P:=P) w (t:=fd.type) rfl (hall fd hfd)
  simp only [Sem.run_bind,h1,Result.andThen_ok,Sem.run_pure])
 have hfill:=fill_lay (offS P t) (parts.map fun p=>(p.1,evalF f p.2)) z.cells vs (by rw [hc,evs_map he];simpa using hl)
 have hoff:(fun i=>((fs.toList.map fun fd=>(fd.offset,P.cellsOf fd.type)).toArray)[i]?)=offS P t:=by
  funext i
  unfold offS
  rw [hu]
  simp
 have hmm:(fs.mapM fun fd=>(do pure (fd.offset,← sizeOf fd.type):Sem (Nat×Nat))).run P w=.ok (fs.toList.map fun fd=>(fd.offset,P.cellsOf fd.type)).toArray w:=by
  rw [Array.mapM_eq_mapM_toList,Sem.run_map,hm]
  rfl
 have hpl:(parts.toArray.map fun (p:Nat×Operand)=>(p.1,evalF f p.2)).toList=parts.map fun p=>(p.1,evalF f p.2):=by simp
 simp only [execOp,Instr.build,Sem.run_bind,hr,Result.andThen_ok,run_underlying hu,hmm,hpl,hoff,hfill,Sem.run_pure]
theorem vl_buildA {t e:TypeId} {m es:Nat} {parts:List (Nat×Operand)} {zs vs:List Value} {ps:List (Nat×List Value)} (hu:P.underlying t=some (.array m e)) (hs:P.cellsOf e=es) (hp:Nat.blt 0 es=true) (hz:zeroC P t=some zs)
  (he:Evs f parts ps) (hl:lay (offS P t) zs ps=some vs):Val P ⟨some d,.build t parts.toArray,ty,pos,af,gd⟩ f L (.agg vs.toArray):=fun F w s=>by
 obtain ⟨z,hr,hc⟩:=run_zeroValue w hz
 have hfill:=fill_lay (offS P t) (parts.map fun p=>(p.1,evalF f p.2)) z.cells vs (by rw [hc,evs_map he];simpa using hl)
 have hoff:(fun i=>some (i * es,es))=offS P t:=by
  funext i
  unfold offS
  rw [hu]
  simp [hs]
 have hpl:(parts.toArray.map fun (p:Nat×Operand)=>(p.1,evalF f p.2)).toList=parts.map fun p=>(p.1,evalF f p.2):=by simp
 simp only [execOp,Instr.build,Sem.run_bind,hr,Result.andThen_ok,run_underlying hu,run_sizeOf' w hs (Nat.le_of_ble_eq_true hp),hpl,hoff,hfill,Sem.run_pure]
theorem vl_idxStr {t:TypeId} {x y:Operand} {k:IntKind} {a:List UInt8} {j:Nat} (hx:evalF f x=.string (S a)) (hy:evalF f y=.int k (j:Int)) (hu:P.underlying t=some .string) (hj:j<a.length) :
  Val P ⟨some d,.index t x y,ty,pos,af,gd⟩ f L (.int .u8 (a[j]'hj).toNat):=fun F w s=>by
 have hg:(S a)[j]?=some (a[j]'hj):=by
  show ((S a).data[j]?)=_
  simp [S,hj]
 simp [execOp,hx,hy,Instr.index,run_underlying hu,asIntOf,hg]
end
theorem vint {k:IntKind} {a b:Int} (h:a=b):Value.int k a=Value.int k b:=by rw [h]
theorem vbool {a b:Bool} (h:a=b):Value.bool a=Value.bool b:=by rw [h]
theorem lcons {α:Type} {a b:α} {l l':List α} (h:a=b) (t:l=l'):a::l=b::l':=by rw [h,t]
def seqL:List Value→Option (List Value)
 | []=>some []
 | a::l=>match seqL l with
  | some l'=>some (a::l')
  | none=>none
theorem seqL_some:∀ (l:List Value),seqL l=some l
 | []=>rfl
 | a::l=>by simp only [seqL,seqL_some l]
theorem seqL_eq {l l':List Value} (h:seqL l=some l'):l=l':=by rw [seqL_some] at h;cases h;rfl
section
variable {P:Program} {n:Nat} {ops:Array Oper} {Q:Post} {f:Nat→Value} {L:List Assn} {rest:List Oper} {d:Nat} {ty:TypeId} {pos:String} {af:Array Edge} {gd:Option (Nat×Bool)}
theorem st_new_ {e:TypeId} {zs:List Value} (hd:Nat.blt d n=true) (hz:((zeroC P e).bind seqL)=some zs) (h:∀ g,ExL P n ops rest Q (upd f d (.pointer (some ⟨g,0,none⟩))) (Blk g e zs::L)) :
  ExL P n ops (⟨some d,.alloc e,ty,pos,af,none⟩::rest) Q f L:=by
 refine st_alloc hd ?_ h
 cases hc:zeroC P e with
 | none=>rw [hc] at hz;cases hz
 | some z=>rw [hc] at hz;rw [← seqL_eq hz]
theorem st_store1_ (i:Nat) {t bt:TypeId} {x y:Operand} {g o:Nat} {cs cs':List Value} {v:Value} {L':List Assn} (hx:evalF f x=.pointer (some ⟨g,o,none⟩)) (hi:L[i]?=some (Blk g bt cs)) (hy:evalF f y=v) (h1:v.oneCell'=true) (hm:P.cellsOf t=1)
  (ho:Nat.blt o cs.length=true) (hc:seqL (cs.set o v)=some cs') (hL:L.set i (Blk g bt cs')=L') (h:ExL P n ops rest Q f L'):ExL P n ops (⟨none,.store t x y,ty,pos,af,none⟩::rest) Q f L :=
 st_store1 i hx hy h1 hi hm ho (by rw [seqL_eq hc,hL]) h
theorem st_storeA_ (i:Nat) {t bt:TypeId} {x y:Operand} {g o:Nat} {cs vs cs':List Value} {L':List Assn} (hx:evalF f x=.pointer (some ⟨g,o,none⟩)) (hi:L[i]?=some (Blk g bt cs)) (hy:evalF f y=.agg vs.toArray) (h1:vs.all Value.oneCell'=true) (hm:P.cellsOf t=vs.length)
  (hp:Nat.blt 0 vs.length=true) (ho:Nat.ble (o+vs.length) cs.length=true) (hc:seqL (cs.take o++vs++cs.drop (o+vs.length))=some cs') (hL:L.set i (Blk g bt cs')=L') (h:ExL P n ops rest Q f L'):ExL P n ops (⟨none,.store t x y,ty,pos,af,none⟩::rest) Q f L :=
 st_storeA i hx hy h1 hi hm hp ho (by rw [seqL_eq hc,hL]) h
theorem st_storeW_ (i:Nat) {t bt:TypeId} {x y:Operand} {g:Nat} {cs vs:List Value} {L':List Assn} (hx:evalF f x=.pointer (some ⟨g,0,none⟩)) (hi:L[i]?=some (Blk g bt cs)) (hy:evalF f y=.agg vs.toArray) (h1:vs.all Value.oneCell'=true) (hm:P.cellsOf t=vs.length)
  (hp:Nat.blt 0 vs.length=true) (ho:Nat.beq vs.length cs.length=true) (hL:L.set i (Blk g bt vs)=L') (h:ExL P n ops rest Q f L'):ExL P n ops (⟨none,.store t x y,ty,pos,af,none⟩::rest) Q f L:=by
 have ho:=Nat.eq_of_beq_eq_true ho
 refine st_storeA i hx hy h1 hi hm hp (by simp;omega) ?_ h
 rw [← hL,List.take_zero,List.nil_append,List.drop_eq_nil_of_le (by omega),List.append_nil]
theorem vl_loadA_ (i:Nat) {t bt:TypeId} {x:Operand} {g o m:Nat} {cs vs:List Value} (hx:evalF f x=.pointer (some ⟨g,o,none⟩)) (hi:L[i]?=some (Blk g bt cs)) (hA:aggB P t=some true) (hm:P.cellsOf t=m) (hp:Nat.blt 0 m=true)
  (hl:Nat.ble (o+m) cs.length=true) (hv:seqL ((cs.drop o).take m)=some vs):Val P ⟨some d,.load t x,ty,pos,af,gd⟩ f L (.agg vs.toArray):=vl_loadA i hx hi hA hm hp hl (seqL_eq hv)
theorem vl_loadSA_ {α:Type} [Rep α] {v:Value} {xs:List α} {t:TypeId} {x:Operand} {i sz o m:Nat} {us:List Value} (hx:evalF f x=elt v (i * sz+o)) (hA:aggB P t=some true) (hm:P.cellsOf t=m) (hp:Nat.blt 0 m=true) (hr:RdT L v xs) (hi:i<xs.length) (hsz:Rep.sz α=sz) (hle:Nat.ble (o+m) sz=true)
  (hv:seqL (((Rep.cells (xs[i]'hi)).drop o).take m)=some us):Val P ⟨some d,.load t x,ty,pos,af,gd⟩ f L (.agg us.toArray):=vl_loadSA hx hA hm hp hr hi hsz hle (seqL_eq hv)
theorem vl_loadSW {α:Type} [Rep α] {v:Value} {xs:List α} {t:TypeId} {x:Operand} {i sz:Nat} (hx:evalF f x=elt v (i * sz+0)) (hA:aggB P t=some true) (hm:P.cellsOf t=sz) (hr:RdT L v xs) (hi:i<xs.length) (hsz:Rep.sz α=sz) :
  Val P ⟨some d,.load t x,ty,pos,af,gd⟩ f L (.agg (Rep.cells (xs[i]'hi)).toArray):=vl_loadSA hx hA hm (by
   have:=Rep.pos (α:=α);rw [hsz] at this;cases sz <;> first | omega | rfl) hr hi hsz (by simp) (by rw [List.drop_zero,List.take_of_length_le (by rw [Rep.len,hsz];exact Nat.le_refl _)])
theorem vl_build_ {t:TypeId} {fs:Array Field} {parts:List (Nat×Operand)} {zs vs:List Value} {ps:List (Nat×List Value)} (hu:P.underlying t=some (.struct fs)) (hp:(fs.toList.all fun fd=>Nat.blt 0 (P.cellsOf fd.type))=true) (hz:zeroC P t=some zs)
  (he:Evs f parts ps) (hl:((lay (offS P t) zs ps).bind seqL)=some vs):Val P ⟨some d,.build t parts.toArray,ty,pos,af,gd⟩ f L (.agg vs.toArray):=vl_build hu hp hz he (by
 cases hc:lay (offS P t) zs ps with
 | none=>rw [hc] at hl;cases hl
 | some z=>rw [hc] at hl;rw [← seqL_eq hl])
theorem vl_buildA_ {t e:TypeId} {m es:Nat} {parts:List (Nat×Operand)} {zs vs:List Value} {ps:List (Nat×List Value)} (hu:P.underlying t=some (.array m e)) (hs:P.cellsOf e=es) (hp:Nat.blt 0 es=true) (hz:zeroC P t=some zs)
  (he:Evs f parts ps) (hl:((lay (offS P t) zs ps).bind seqL)=some vs):Val P ⟨some d,.build t parts.toArray,ty,pos,af,gd⟩ f L (.agg vs.toArray):=vl_buildA hu hs hp hz he (by
 cases hc:lay (offS P t) zs ps with
 | none=>rw [hc] at hl;cases hl
 | some z=>rw [hc] at hl;rw [← seqL_eq hl])
end
def kdOf (ops:Array Oper) (i:Nat):Nat:=match ops[i]? with
 | some o=>match o.op with
  | .alloc _=>1
  | .box ..=>1
  | .buildSlice ..=>1
  | .store ..=>2
  | .mapUpdate ..=>2
  | .insert ..=>2
  | .makeSlice ..=>2
  | .makeMap ..=>2
  | .lookup ..=>2
  | .next ..=>2
  | .range ..=>2
  | .call c=>match c.callee with
   | .builtin .len=>0
   | .builtin .cap=>0
   | .builtin .min=>0
   | .builtin .max=>0
   | _=>2
  | _=>0
 | none=>0
def tailOf (ops:Array Oper):Nat→Nat
 | 0=>0
 | m+1=>match (List.range m).all fun k=>edgeOn ops m k with
  | true=>tailOf ops m
  | false=>m+1
theorem wrapB_i64 (b:UInt8):IntKind.i64.wrap (b.toNat:Int)=b.toNat:=wrap_i64 (by omega) (by have:=b.toNat_lt;omega)
section
variable {P:Program} {n:Nat} {ops:Array Oper} {Q:Post} {f:Nat→Value} {L:List Assn}
theorem Ex.mixA {id:Nat} (m:Nat) (Lb:List Assn) (hm:P.follows .mixedOrders=true) (hok:mixOk n ops (kdOf ops) m=true) (hf:Fac Lb L)
  (h:Mix P n ops (kdOf ops) Lb (fun f L=>ExL P n ops (ops.toList.drop m) Q f L) (idx 0 (ops.toList.take m)) f L):Ex P n (.region id ops true) Q f L :=
 Ex.mix m _ Lb hm hok hf h
variable {kd:Nat→Nat} {Lb:List Assn} {Z:(Nat→Value)→List Assn→Prop} {i:Nat} {l:List (Nat×Oper)} {d:Nat} {ty:TypeId} {pos:String} {af:Array Edge}
theorem mx_alloc {e:TypeId} {zs:List Value} (hk:kd i=1) (hz:((zeroC P e).bind seqL)=some zs) (h:∀ g,Mix P n ops kd Lb Z l (upd f d (.pointer (some ⟨g,0,none⟩))) (Blk g e zs::L)):Mix P n ops kd Lb Z ((i,⟨some d,.alloc e,ty,pos,af,none⟩)::l) f L:=by
 have hz':zeroC P e=some zs:=by
  cases hc:zeroC P e with
  | none=>rw [hc] at hz;cases hz
  | some z=>rw [hc] at hz;rw [← seqL_eq hz]
 refine mx_new (obj:=.cells zs.toArray e) (mk:=fun g=>.pointer (some ⟨g,0,none⟩)) (fun g=>Blk g e zs) hk rfl rfl (fun w=>?_) (fun g=>⟨(0,0),fun o _=>by simp,rfl⟩) h
 obtain ⟨z,hr,hc⟩:=run_zeroValue w hz'
 simp [execOp,Instr.alloc,hr,run_newVar,hc]
end
section
variable {P:Program} {n:Nat} {ops:Array Oper} {Q:Post} {f:Nat→Value} {L:List Assn} {rest:List Oper} {d:Nat} {ty:TypeId} {pos:String} {af:Array Edge} {gd:Option (Nat×Bool)}
theorem vl_rem0e {k:IntKind} {xt yt:TypeId} {x y:Operand} {a b r:Int} (hx:evalF f x=.int k a) (hy:evalF f y=.int k b) (he:a % b=r) (ha:0≤a) (hb:0<b) :
  Val P ⟨some d,.binOp .rem xt x y yt,ty,pos,af,gd⟩ f L (.int k r):=by rw [← he];exact vl_rem0 hx hy ha hb
theorem vl_addu8 {xt yt:TypeId} {x y:Operand} {a b:Int} (hx:evalF f x=.int .u8 a) (hy:evalF f y=.int .u8 b) (h1:0≤a+b) (h2:a+b≤255) :
  Val P ⟨some d,.binOp .add xt x y yt,ty,pos,af,gd⟩ f L (.int .u8 (a+b)):=by
 have:=vl_addw (P:=P) (d:=d) (ty:=ty) (pos:=pos) (af:=af) (gd:=gd) (xt:=xt) (yt:=yt) (L:=L) hx hy
 rwa [wrap_u8 h1 h2] at this
theorem vl_lss_t {xt yt:TypeId} {x y:Operand} {k:IntKind} {a b:Int} (hx:evalF f x=.int k a) (hy:evalF f y=.int k b) (hp:a<b):Val P ⟨some d,.binOp .lss xt x y yt,ty,pos,af,gd⟩ f L (.bool true):=by
 have:=vl_lss (P:=P) (d:=d) (ty:=ty) (pos:=pos) (af:=af) (gd:=gd) (xt:=xt) (yt:=yt) (L:=L) hx hy
 rwa [decide_eq_true hp] at this
theorem vl_lss_f {xt yt:TypeId} {x y:Operand} {k:IntKind} {a b:Int} (hx:evalF f x=.int k a) (hy:evalF f y=.int k b) (hp:¬ (a<b)):Val P ⟨some d,.binOp .lss xt x y yt,ty,pos,af,gd⟩ f L (.bool false):=by
 have:=vl_lss (P:=P) (d:=d) (ty:=ty) (pos:=pos) (af:=af) (gd:=gd) (xt:=xt) (yt:=yt) (L:=L) hx hy
 rwa [decide_eq_false hp] at this
theorem vl_leq_t {xt yt:TypeId} {x y:Operand} {k:IntKind} {a b:Int} (hx:evalF f x=.int k a) (hy:evalF f y=.int k b) (hp:a≤b):Val P ⟨some d,.binOp .leq xt x y yt,ty,pos,af,gd⟩ f L (.bool true):=by
 have:=vl_leq (P:=P) (d:=d) (ty:=ty) (pos:=pos) (af:=af) (gd:=gd) (xt:=xt) (yt:=yt) (L:=L) hx hy
 rwa [decide_eq_true hp] at this
theorem vl_leq_f {xt yt:TypeId} {x y:Operand} {k:IntKind} {a b:Int} (hx:evalF f x=.int k a) (hy:evalF f y=.int k b) (hp:¬ (a≤b)):Val P ⟨some d,.binOp .leq xt x y yt,ty,pos,af,gd⟩ f L (.bool false):=by
 have:=vl_leq (P:=P) (d:=d) (ty:=ty) (pos:=pos) (af:=af) (gd:=gd) (xt:=xt) (yt:=yt) (L:=L) hx hy
 rwa [decide_eq_false hp] at this
theorem vl_gtr_t {xt yt:TypeId} {x y:Operand} {k:IntKind} {a b:Int} (hx:evalF f x=.int k a) (hy:evalF f y=.int k b) (hp:b<a):Val P ⟨some d,.binOp .gtr xt x y yt,ty,pos,af,gd⟩ f L (.bool true):=by
 have:=vl_gtr (P:=P) (d:=d) (ty:=ty) (pos:=pos) (af:=af) (gd:=gd) (xt:=xt) (yt:=yt) (L:=L) hx hy
 rwa [decide_eq_true hp] at this
theorem vl_gtr_f {xt yt:TypeId} {x y:Operand} {k:IntKind} {a b:Int} (hx:evalF f x=.int k a) (hy:evalF f y=.int k b) (hp:¬ (b<a)):Val P ⟨some d,.binOp .gtr xt x y yt,ty,pos,af,gd⟩ f L (.bool false):=by
 have:=vl_gtr (P:=P) (d:=d) (ty:=ty) (pos:=pos) (af:=af) (gd:=gd) (xt:=xt) (yt:=yt) (L:=L) hx hy
 rwa [decide_eq_false hp] at this
theorem vl_geq_t {xt yt:TypeId} {x y:Operand} {k:IntKind} {a b:Int} (hx:evalF f x=.int k a) (hy:evalF f y=.int k b) (hp:b≤a):Val P ⟨some d,.binOp .geq xt x y yt,ty,pos,af,gd⟩ f L (.bool true):=by
 have:=vl_geq (P:=P) (d:=d) (ty:=ty) (pos:=pos) (af:=af) (gd:=gd) (xt:=xt) (yt:=yt) (L:=L) hx hy
 rwa [decide_eq_true hp] at this
theorem vl_geq_f {xt yt:TypeId} {x y:Operand} {k:IntKind} {a b:Int} (hx:evalF f x=.int k a) (hy:evalF f y=.int k b) (hp:¬ (b≤a)):Val P ⟨some d,.binOp .geq xt x y yt,ty,pos,af,gd⟩ f L (.bool false):=by
 have:=vl_geq (P:=P) (d:=d) (ty:=ty) (pos:=pos) (af:=af) (gd:=gd) (xt:=xt) (yt:=yt) (L:=L) hx hy
 rwa [decide_eq_false hp] at this
theorem vl_eql_t {xt yt:TypeId} {x y:Operand} {k:IntKind} {a b:Int} (hx:evalF f x=.int k a) (hy:evalF f y=.int k b) (hp:a=b):Val P ⟨some d,.binOp .eql xt x y yt,ty,pos,af,gd⟩ f L (.bool true):=by
 have:=vl_eql (P:=P) (d:=d) (ty:=ty) (pos:=pos) (af:=af) (gd:=gd) (xt:=xt) (yt:=yt) (L:=L) hx hy
 rwa [decide_eq_true hp] at this
theorem vl_eql_f {xt yt:TypeId} {x y:Operand} {k:IntKind} {a b:Int} (hx:evalF f x=.int k a) (hy:evalF f y=.int k b) (hp:¬ (a=b)):Val P ⟨some d,.binOp .eql xt x y yt,ty,pos,af,gd⟩ f L (.bool false):=by
 have:=vl_eql (P:=P) (d:=d) (ty:=ty) (pos:=pos) (af:=af) (gd:=gd) (xt:=xt) (yt:=yt) (L:=L) hx hy
 rwa [decide_eq_false hp] at this
theorem vl_neq_t {xt yt:TypeId} {x y:Operand} {k:IntKind} {a b:Int} (hx:evalF f x=.int k a) (hy:evalF f y=.int k b) (hp:a≠b):Val P ⟨some d,.binOp .neq xt x y yt,ty,pos,af,gd⟩ f L (.bool true):=by
 have:=vl_neq (P:=P) (d:=d) (ty:=ty) (pos:=pos) (af:=af) (gd:=gd) (xt:=xt) (yt:=yt) (L:=L) hx hy
 rwa [decide_eq_true hp] at this
theorem vl_neq_f {xt yt:TypeId} {x y:Operand} {k:IntKind} {a b:Int} (hx:evalF f x=.int k a) (hy:evalF f y=.int k b) (hp:¬ (a≠b)):Val P ⟨some d,.binOp .neq xt x y yt,ty,pos,af,gd⟩ f L (.bool false):=by
 have:=vl_neq (P:=P) (d:=d) (ty:=ty) (pos:=pos) (af:=af) (gd:=gd) (xt:=xt) (yt:=yt) (L:=L) hx hy
 rwa [decide_eq_false hp] at this
theorem vl_eql_st {xt yt:TypeId} {x y:Operand} {a b:List UInt8} (hx:evalF f x=.string (S a)) (hy:evalF f y=.string (S b)) (hp:a=b):Val P ⟨some d,.binOp .eql xt x y yt,ty,pos,af,gd⟩ f L (.bool true):=by
 have:=vl_eql_s (P:=P) (d:=d) (ty:=ty) (pos:=pos) (af:=af) (gd:=gd) (xt:=xt) (yt:=yt) (L:=L) hx hy
 rwa [decide_eq_true hp] at this
theorem vl_eql_sf {xt yt:TypeId} {x y:Operand} {a b:List UInt8} (hx:evalF f x=.string (S a)) (hy:evalF f y=.string (S b)) (hp:¬ (a=b)):Val P ⟨some d,.binOp .eql xt x y yt,ty,pos,af,gd⟩ f L (.bool false):=by
 have:=vl_eql_s (P:=P) (d:=d) (ty:=ty) (pos:=pos) (af:=af) (gd:=gd) (xt:=xt) (yt:=yt) (L:=L) hx hy
 rwa [decide_eq_false hp] at this
theorem vl_neq_bl {xt yt:TypeId} {x y:Operand} {a b r:Bool} (hx:evalF f x=.bool a) (hy:evalF f y=.bool b) (hu:P.underlying xt=some .bool) (hr:decide (a≠b)=r):Val P ⟨some d,.binOp .neq xt x y yt,ty,pos,af,gd⟩ f L (.bool r):=by
 rw [← hr];exact vl_neq_b hx hy hu
theorem vl_neq_st {xt yt:TypeId} {x y:Operand} {a b:List UInt8} (hx:evalF f x=.string (S a)) (hy:evalF f y=.string (S b)) (hp:a≠b):Val P ⟨some d,.binOp .neq xt x y yt,ty,pos,af,gd⟩ f L (.bool true):=by
 have:=vl_neq_s (P:=P) (d:=d) (ty:=ty) (pos:=pos) (af:=af) (gd:=gd) (xt:=xt) (yt:=yt) (L:=L) hx hy
 rwa [decide_eq_true hp] at this
theorem vl_neq_sf {xt yt:TypeId} {x y:Operand} {a b:List UInt8} (hx:evalF f x=.string (S a)) (hy:evalF f y=.string (S b)) (hp:¬ (a≠b)):Val P ⟨some d,.binOp .neq xt x y yt,ty,pos,af,gd⟩ f L (.bool false):=by
 have:=vl_neq_s (P:=P) (d:=d) (ty:=ty) (pos:=pos) (af:=af) (gd:=gd) (xt:=xt) (yt:=yt) (L:=L) hx hy
 rwa [decide_eq_false hp] at this
theorem vl_field_ {s:TypeId} {x:Operand} {g o fi off o':Nat} (hx:evalF f x=.pointer (some ⟨g,o,none⟩)) (hf:fieldOff P s fi=some off) (ho:o+off=o'):Val P ⟨some d,.fieldAddr s x fi,ty,pos,af,gd⟩ f L (.pointer (some ⟨g,o',none⟩)):=by
 rw [← ho];exact vl_field hx hf
theorem vl_fieldS_ {α:Type} [Rep α] {v:Value} {xs:List α} {s:TypeId} {x:Operand} {i sz o fi off o':Nat} (hx:evalF f x=elt v (i * sz+o)) (hr:RdT L v xs) (hi:i<xs.length) (hf:fieldOff P s fi=some off) (ho:o+off=o'):Val P ⟨some d,.fieldAddr s x fi,ty,pos,af,gd⟩ f L (elt v (i * sz+o')):=by
 rw [← ho];exact vl_fieldS hx hr hi hf
end
theorem st_call {P:Program} {n:Nat} {ops:Array Oper} {Q:Post} {f:Nat→Value} {L:List Assn} {rest:List Oper} {d:Option Nat} {ty:TypeId} {pos:String} {af:Array Edge} {fn:FuncId} {xs:List Operand} {vs:List Value} {ts:Array TypeId} {R:Value→List Assn→Prop}
  (hd:dstOk n d=true) (hrun:∀ (xs:Array Value) (w:World),(callFunc fn xs).run P w=.ok (.enter fn xs) w) (hf:Fn P fn vs.toArray L R) (ha:xs.map (evalF f)=vs) (h:∀ v L',R v L'→ExL P n ops rest Q (updo f d v) L') :
  ExL P n ops (⟨d,.call ⟨.value (.func fn),xs.toArray,ts⟩,ty,pos,af,none⟩::rest) Q f L :=
 ExL.call rfl hd rfl hrun (by rw [List.map_toArray,ha];exact hf) h
section
variable {P:Program} {f:Nat→Value} {L:List Assn} {v:Value} {dd:Option Nat} {ty:TypeId} {pos:String} {af:Array Edge} {gd:Option (Nat×Bool)}
theorem isLoad {t:TypeId} {x:Operand} (h:Val P ⟨dd,.load t x,ty,pos,af,gd⟩ f L v):Val P ⟨dd,.load t x,ty,pos,af,gd⟩ f L v:=h
theorem isField {t:TypeId} {x:Operand} {i:Nat} (h:Val P ⟨dd,.fieldAddr t x i,ty,pos,af,gd⟩ f L v):Val P ⟨dd,.fieldAddr t x i,ty,pos,af,gd⟩ f L v:=h
theorem isIdx {t:TypeId} {x y:Operand} (h:Val P ⟨dd,.indexAddr t x y,ty,pos,af,gd⟩ f L v):Val P ⟨dd,.indexAddr t x y,ty,pos,af,gd⟩ f L v:=h
theorem isBin {op:BinOp} {t u:TypeId} {x y:Operand} (h:Val P ⟨dd,.binOp op t x y u,ty,pos,af,gd⟩ f L v):Val P ⟨dd,.binOp op t x y u,ty,pos,af,gd⟩ f L v:=h
theorem isCall {b:Builtin} {xs:Array Operand} {ts:Array TypeId} (h:Val P ⟨dd,.call ⟨.builtin b,xs,ts⟩,ty,pos,af,gd⟩ f L v):Val P ⟨dd,.call ⟨.builtin b,xs,ts⟩,ty,pos,af,gd⟩ f L v:=h
theorem isSlice {t:TypeId} {x:Operand} {a b c:Option Operand} (h:Val P ⟨dd,.slice t x a b c,ty,pos,af,gd⟩ f L v):Val P ⟨dd,.slice t x a b c,ty,pos,af,gd⟩ f L v:=h
theorem isLss {t u:TypeId} {x y:Operand} (h:Val P ⟨dd,.binOp .lss t x y u,ty,pos,af,gd⟩ f L v):Val P ⟨dd,.binOp .lss t x y u,ty,pos,af,gd⟩ f L v:=h
theorem isEql {t u:TypeId} {x y:Operand} (h:Val P ⟨dd,.binOp .eql t x y u,ty,pos,af,gd⟩ f L v):Val P ⟨dd,.binOp .eql t x y u,ty,pos,af,gd⟩ f L v:=h
theorem isNeq {t u:TypeId} {x y:Operand} (h:Val P ⟨dd,.binOp .neq t x y u,ty,pos,af,gd⟩ f L v):Val P ⟨dd,.binOp .neq t x y u,ty,pos,af,gd⟩ f L v:=h
theorem isLeq {t u:TypeId} {x y:Operand} (h:Val P ⟨dd,.binOp .leq t x y u,ty,pos,af,gd⟩ f L v):Val P ⟨dd,.binOp .leq t x y u,ty,pos,af,gd⟩ f L v:=h
theorem isGtr {t u:TypeId} {x y:Operand} (h:Val P ⟨dd,.binOp .gtr t x y u,ty,pos,af,gd⟩ f L v):Val P ⟨dd,.binOp .gtr t x y u,ty,pos,af,gd⟩ f L v:=h
theorem isGeq {t u:TypeId} {x y:Operand} (h:Val P ⟨dd,.binOp .geq t x y u,ty,pos,af,gd⟩ f L v):Val P ⟨dd,.binOp .geq t x y u,ty,pos,af,gd⟩ f L v:=h
theorem isConv {t u:TypeId} {x:Operand} (h:Val P ⟨dd,.convert t u x,ty,pos,af,gd⟩ f L v):Val P ⟨dd,.convert t u x,ty,pos,af,gd⟩ f L v:=h
variable {n:Nat} {ops:Array Oper} {Q:Post} {rest:List Oper}
theorem exlStore {t:TypeId} {x y:Operand} (h:ExL P n ops (⟨dd,.store t x y,ty,pos,af,gd⟩::rest) Q f L):ExL P n ops (⟨dd,.store t x y,ty,pos,af,gd⟩::rest) Q f L:=h
theorem exlAppend {xs:Array Operand} {ts:Array TypeId} (h:ExL P n ops (⟨dd,.call ⟨.builtin .append,xs,ts⟩,ty,pos,af,gd⟩::rest) Q f L):ExL P n ops (⟨dd,.call ⟨.builtin .append,xs,ts⟩,ty,pos,af,gd⟩::rest) Q f L:=h
theorem exlGuard {o:Op} {jw:Nat×Bool} (h:ExL P n ops (⟨dd,o,ty,pos,af,some jw⟩::rest) Q f L):ExL P n ops (⟨dd,o,ty,pos,af,some jw⟩::rest) Q f L:=h
end
def RVal (P:Program) (f:Nat→Value) (L:List Assn):ResultVar→Value→Prop
 | .tmp t,v=>f t=v
 | .cell a t,v=>∃ ad,f a=.pointer (some ad)∧∀ F w,Sats w L F→(loadVar t ad).run P w=.ok v w
def RVals (P:Program) (f:Nat→Value) (L:List Assn):List ResultVar→List Value→Prop
 | [],[]=>True
 | r::rs,v::vs=>RVal P f L r v∧RVals P f L rs vs
 | _,_=>False
section
variable {P:Program} {f:Nat→Value} {L:List Assn} {fn:Func}
theorem mapM_res {w:World} (g:ResultVar→Sem Value):∀ {rs:List ResultVar} {vs:List Value},RVals P f L rs vs→(∀ r v,RVal P f L r v→(g r).run P w=.ok v w)→(rs.mapM g).run P w=.ok vs w
 | [],[],_,_=>rfl
 | r::rs,v::vs,⟨h1,h2⟩,hg=>by
  simp only [List.mapM_cons,Sem.run_bind,hg r v h1,Result.andThen_ok,mapM_res g h2 hg,Sem.run_pure]
theorem res_any {rs:List ResultVar} {vs:List Value} (hr:fn.results=rs.toArray) (h:RVals P f L rs vs):ResV P fn f L (if h:vs.toArray.size=1 then vs.toArray[0] else .tuple vs.toArray):=fun F w tmps ht s=>by
 unfold results
 rw [hr,Array.mapM_eq_mapM_toList]
 simp only [Sem.run_bind,Sem.run_map]
 rw [mapM_res _ h fun r v hv=>?_]
 ·rfl
 ·cases r with
  | tmp t =>
   have hv:f t=v:=hv
   simp only [Sem.run_pure,ht,hv]
  | cell a t =>
   obtain ⟨ad,h1,h2⟩:=hv
   simp only [ht,h1,asAddr,Sem.run_bind,Sem.run_pure,Result.andThen_ok,h2 F w s]
theorem res_1 {r:ResultVar} {v:Value} (hr:fn.results=#[r]) (h:RVal P f L r v):ResV P fn f L v:=res_any (rs:=[r]) (vs:=[v]) hr ⟨h,trivial⟩
theorem res_2 {r1 r2:ResultVar} {v1 v2:Value} (hr:fn.results=#[r1,r2]) (h1:RVal P f L r1 v1) (h2:RVal P f L r2 v2):ResV P fn f L (.tuple #[v1,v2]):=res_any (rs:=[r1,r2]) (vs:=[v1,v2]) hr ⟨h1,h2,trivial⟩
theorem res_3 {r1 r2 r3:ResultVar} {v1 v2 v3:Value} (hr:fn.results=#[r1,r2,r3]) (h1:RVal P f L r1 v1) (h2:RVal P f L r2 v2) (h3:RVal P f L r3 v3):ResV P fn f L (.tuple #[v1,v2,v3]):=res_any (rs:=[r1,r2,r3]) (vs:=[v1,v2,v3]) hr ⟨h1,h2,h3,trivial⟩
theorem res_0 (hr:fn.results=#[]):ResV P fn f L (.tuple #[]):=res_any (rs:=[]) (vs:=[]) hr trivial
theorem rv_tmp {t:Tmp} {v:Value} (h:f t=v):RVal P f L (.tmp t) v:=h
theorem rv_cell1 (i:Nat) {a:Tmp} {t bt:TypeId} {g o:Nat} {cs:List Value} {v:Value} (hx:f a=.pointer (some ⟨g,o,none⟩)) (hi:L[i]?=some (Blk g bt cs)) (hA:aggB P t=some false) (hv:cs[o]?=some v):RVal P f L (.cell a t) v :=
 ⟨_,hx,fun F w s=>run_loadVar1 w hA (blk_cell hi hv s)⟩
theorem rv_cellW (i:Nat) {a:Tmp} {t bt:TypeId} {g:Nat} {cs:List Value} (hx:f a=.pointer (some ⟨g,0,none⟩)) (hi:L[i]?=some (Blk g bt cs)) (hA:aggB P t=some true) (hm:P.cellsOf t=cs.length) (hp:Nat.blt 0 cs.length=true):RVal P f L (.cell a t) (.agg cs.toArray) :=
 ⟨_,hx,fun F w s=>run_loadVarA w hA hm (Nat.le_of_ble_eq_true hp) fun j v hj=>by rw [addr_add,Nat.zero_add];exact blk_cell hi hj s⟩
theorem fin_ret {R:Value→List Assn→Prop} {v:Value} (hv:ResV P fn f L v) (h:∃ L',Sub L' L∧R v L'):fin P fn R .ret f L:=let ⟨L',hs,h⟩:=h;⟨v,L',hv,hs,h⟩
theorem fin_norm {R:Value→List Assn→Prop} {v:Value} (hv:ResV P fn f L v) (h:∃ L',Sub L' L∧R v L'):fin P fn R .normal f L:=let ⟨L',hs,h⟩:=h;⟨v,L',hv,hs,h⟩
end
end
section
theorem cellsOf_bytes (l:List UInt8):cellsOf l=byteVals l:=by
 simp only [cellsOf,byteVals]
 induction l with
 | nil=>rfl
 | cons a l ih=>simp only [List.flatMap_cons,List.map_cons,ih];rfl
section
variable {L:List Assn} {α:Type} [Rep α] {v:Value} {xs:List α}
theorem RdT.cap (hr:RdT L v xs) {w:World} {F:Frag} (s:Sats w L F):∃ a c,v=.slice a xs.length c∧xs.length≤c∧c≤maxLen:=sl_cap (hr w F s)
theorem RdT.to (hr:RdT L v xs) {h:Nat} (hk:h≤xs.length) {sz:Nat} (hsz:Rep.sz α=sz):RdT L (Go.Proofs.YtogcfijlhpaeeaaGreat.subs v 0 h sz) (xs.take h):=by
 subst hsz
 have:=RdT.subs hr (Nat.zero_le h) hk
 simpa using this
theorem RdT.off (hr:RdT L v xs) {l:Nat} (hk:l≤xs.length) {sz k:Nat} (hsz:Rep.sz α=sz) (hkk:k=xs.length):RdT L (Go.Proofs.YtogcfijlhpaeeaaGreat.subs v l k sz) (xs.drop l):=by
 subst hsz;subst hkk
 have:=RdT.subs hr hk (Nat.le_refl xs.length)
 rwa [List.take_of_length_le (by simp)] at this
theorem RdT.mid (hr:RdT L v xs) {l h:Nat} (hl:l≤h) (hk:h≤xs.length) {sz:Nat} (hsz:Rep.sz α=sz):RdT L (Go.Proofs.YtogcfijlhpaeeaaGreat.subs v l h sz) ((xs.drop l).take (h - l)):=by
 subst hsz
 exact RdT.subs hr hl hk
theorem RdT.to3 (hr:RdT L v xs) {h m:Nat} (hk:h≤m) (hm:m≤xs.length) {sz:Nat} (hsz:Rep.sz α=sz):RdT L (Go.Proofs.YtogcfijlhpaeeaaGreat.subs3 v 0 h m sz) (xs.take h):=by
 subst hsz
 have:=RdT.subs3 hr (Nat.zero_le h) hk hm
 simpa using this
end
section
variable {P:Program} {w:World} {t e:TypeId} {sz:Nat} {a:Option Addr} {k c:Nat}
theorem run_sl {lo hi mx:Option Value} (hu:P.underlying t=some (.slice e)) (hs:P.cellsOf e=sz) (hp:0<sz) {l h m:Nat}
  (hb:(Instr.sliceBounds true k c lo hi mx).run P w=.ok (l,h,m) w):(Instr.sliceAt t (.slice a k c) lo hi mx).run P w=.ok (.slice (if m=l then a else a.map (·.add (l * sz))) (h - l) (m - l)) w:=by
 simp only [Instr.sliceAt,Instr.slice,Sem.run_bind,run_underlying hu,Result.andThen_ok,hb,run_sizeOf' w hs hp,Sem.run_pure]
theorem run_bd {k:IntKind} {i:Int} {y:Nat} {code:BoundsCode} (h0:0≤i) (h1:i≤y):(Instr.sliceBound (.int k i) y code).run P w=.ok i.toNat w:=by
 simp [Instr.sliceBound,asIntOf,h0,h1]
end
section
variable {P:Program} {n:Nat} {ops:Array Oper} {Q:Post} {f:Nat→Value} {L:List Assn} {rest:List Oper} {d:Nat} {ty:TypeId} {pos:String} {af:Array Edge} {gd:Option (Nat×Bool)}
variable {α:Type} [Rep α] {v:Value} {xs ys:List α}
theorem vl_slH {t e:TypeId} {x y:Operand} {k:IntKind} {h:Int} {sz:Nat} (hx:evalF f x=v) (hy:evalF f y=.int k h) (hu:P.underlying t=some (.slice e)) (hr:RdT L v xs) (hs:P.cellsOf e=sz) (hp:Nat.blt 0 sz=true) (h0:0≤h) (h1:h≤(xs.length:Int)) :
  Val P ⟨some d,.slice t x none (some y) none,ty,pos,af,gd⟩ f L (subs v 0 h.toNat sz):=fun F w s=>by
 obtain ⟨a,c,rfl,hc,_⟩:=hr.cap s
 have:=run_sl (P:=P) (w:=w) (a:=a) (k:=xs.length) (c:=c) (lo:=none) (hi:=some (.int k h)) (mx:=none) hu hs (Nat.le_of_ble_eq_true hp) (l:=0) (h:=h.toNat) (m:=c) (by
  simp only [Instr.sliceBounds,Sem.run_bind,Sem.run_pure,Result.andThen_ok,run_bd h0 (show h≤(c:Int) by omega)])
 simp [execOp,hx,hy,this,subs]
theorem vl_slL {t e:TypeId} {x y:Operand} {k:IntKind} {l:Int} {sz:Nat} (hx:evalF f x=v) (hy:evalF f y=.int k l) (hu:P.underlying t=some (.slice e)) (hr:RdT L v xs) (hs:P.cellsOf e=sz) (hp:Nat.blt 0 sz=true) (h0:0≤l) (h1:l≤(xs.length:Int)) :
  Val P ⟨some d,.slice t x (some y) none none,ty,pos,af,gd⟩ f L (subs v l.toNat xs.length sz):=fun F w s=>by
 obtain ⟨a,c,rfl,hc,_⟩:=hr.cap s
 have:=run_sl (P:=P) (w:=w) (a:=a) (k:=xs.length) (c:=c) (lo:=some (.int k l)) (hi:=none) (mx:=none) hu hs (Nat.le_of_ble_eq_true hp) (l:=l.toNat) (h:=xs.length) (m:=c) (by
  simp only [Instr.sliceBounds,Sem.run_bind,Sem.run_pure,Result.andThen_ok,run_bd h0 h1])
 simp [execOp,hx,hy,this,subs]
theorem vl_slLH {t e:TypeId} {x y z:Operand} {k k':IntKind} {l h:Int} {sz:Nat} (hx:evalF f x=v) (hy:evalF f y=.int k l) (hz:evalF f z=.int k' h) (hu:P.underlying t=some (.slice e)) (hr:RdT L v xs) (hs:P.cellsOf e=sz) (hp:Nat.blt 0 sz=true) (h0:0≤l) (hlh:l≤h) (h1:h≤(xs.length:Int)) :
  Val P ⟨some d,.slice t x (some y) (some z) none,ty,pos,af,gd⟩ f L (subs v l.toNat h.toNat sz):=fun F w s=>by
 obtain ⟨a,c,rfl,hc,_⟩:=hr.cap s
 have:=run_sl (P:=P) (w:=w) (a:=a) (k:=xs.length) (c:=c) (lo:=some (.int k l)) (hi:=some (.int k' h)) (mx:=none) hu hs (Nat.le_of_ble_eq_true hp) (l:=l.toNat) (h:=h.toNat) (m:=c) (by
  simp only [Instr.sliceBounds,Sem.run_bind,Sem.run_pure,Result.andThen_ok,run_bd (show 0≤h by omega) (show h≤(c:Int) by omega),run_bd h0 (show l≤(h.toNat:Int) by omega)])
 simp [execOp,hx,hy,hz,this,subs]
theorem vl_slHM {t e:TypeId} {x y z:Operand} {k k':IntKind} {h m:Int} {sz:Nat} (hx:evalF f x=v) (hy:evalF f y=.int k h) (hz:evalF f z=.int k' m) (hu:P.underlying t=some (.slice e)) (hr:RdT L v xs) (hs:P.cellsOf e=sz) (hp:Nat.blt 0 sz=true) (h0:0≤h) (hlh:h≤m) (h1:m≤(xs.length:Int)) :
  Val P ⟨some d,.slice t x none (some y) (some z),ty,pos,af,gd⟩ f L (subs3 v 0 h.toNat m.toNat sz):=fun F w s=>by
 obtain ⟨a,c,rfl,hc,_⟩:=hr.cap s
 have:=run_sl (P:=P) (w:=w) (a:=a) (k:=xs.length) (c:=c) (lo:=none) (hi:=some (.int k h)) (mx:=some (.int k' m)) hu hs (Nat.le_of_ble_eq_true hp) (l:=0) (h:=h.toNat) (m:=m.toNat) (by
  simp only [Instr.sliceBounds,Sem.run_bind,Sem.run_pure,Result.andThen_ok,run_bd (show 0≤m by omega) (show m≤(c:Int) by omega),run_bd h0 (show h≤(m.toNat:Int) by omega)])
 simp [execOp,hx,hy,hz,this,subs3]
theorem vl_str {src dst e:TypeId} {x:Operand} {l:List UInt8} (hx:evalF f x=v) (hs:P.underlying src=some (.slice e)) (he:P.underlying e=some (.int .u8)) (hd:P.underlying dst=some .string) (hr:RdT L v l) :
  Val P ⟨some d,.convert src dst x,ty,pos,af,gd⟩ f L (.string (S l)):=fun F w s=>by
 have h:=hr w F s
 rw [cellsOf_bytes] at h
 have:=Sl.str (P:=P) h hs he hd
 simp [execOp,hx,this]
theorem set_take {α:Type} (l:List α) (m i:Nat) (x:α) (h:i<m):(l.set i x).take m=(l.take m).set i x:=by
 apply List.ext_getElem?
 intro j
 simp only [List.getElem?_take,List.getElem?_set,List.length_take]
 by_cases hj:j<m
 ·by_cases hij:i=j
  ·subst hij
   simp only [hj,if_true]
   by_cases hl:i<l.length
   ·rw [if_pos hl,if_pos (by omega)]
   ·rw [if_neg hl,if_neg (by omega)]
  ·simp [hj,hij]
 ·have:i≠j:=by omega
  simp [hj,this]
theorem cellsOf_set {xs:List α} {i o:Nat} {u:Value} {a':α} (hi:i<xs.length) (ho:o<Rep.sz α) (ha:Rep.cells a'=(Rep.cells (xs[i]'hi)).set o u):(cellsOf xs).set (i * Rep.sz α+o) u=cellsOf (xs.set i a'):=by
 induction xs generalizing i with
 | nil=>simp at hi
 | cons x xs ih =>
  cases i with
  | zero =>
   simp only [Nat.zero_mul,Nat.zero_add,List.set_cons_zero,cellsOf,List.flatMap_cons]
   rw [List.set_append_left _ _ (by rw [Rep.len];exact ho)]
   simp at ha
   rw [ha]
  | succ i =>
   simp only [List.set_cons_succ,cellsOf,List.flatMap_cons]
   have hl:(Rep.cells x).length=Rep.sz α:=Rep.len x
   have:(i+1) * Rep.sz α+o=(Rep.cells x).length+(i * Rep.sz α+o):=by rw [hl,Nat.add_mul];omega
   rw [this,List.set_append_right _ _ (by omega)]
   have hi':i<xs.length:=by simpa using hi
   have:=ih hi' (by simpa using ha)
   simp only [cellsOf] at this
   rw [show (Rep.cells x).length+(i * Rep.sz α+o) - (Rep.cells x).length=i * Rep.sz α+o by omega,this]
theorem st_storeS (r:Nat) {t e:TypeId} {x y:Operand} {i sz o:Nat} {u:Value} {a':α} (hx:evalF f x=elt v (i * sz+o)) (hy:evalF f y=u) (h1:u.oneCell'=true) (hr:L[r]?=some (RowT v e xs)) (hm:P.cellsOf t=1) (hsz:Rep.sz α=sz) (hi:i<xs.length) (ho:Nat.blt o sz=true)
  (ha:Rep.cells a'=(Rep.cells (xs[i]'hi)).set o u) (h:ExL P n ops rest Q f (L.set r (RowT v e (xs.set i a')))):ExL P n ops (⟨none,.store t x y,ty,pos,af,none⟩::rest) Q f L:=by
 have ho:=Nat.le_of_ble_eq_true ho
 subst hsz
 refine ExL.eff rfl rfl (R:=fun _ L2=>L2=L.set r (RowT v e (xs.set i a'))) (fun F w s=>?_) (fun v L2 e=>by subst e;exact h)
 have hil:r<L.length:=(List.getElem?_eq_some_iff.1 hr).1
 obtain ⟨hf,⟨hl,hc⟩,dd,s'⟩:=Sats.pick hr s
 rcases hc with ⟨h0,_⟩ | ⟨g,cap,cur,rfl,rfl,hk,hcm,hsz2,htk⟩
 ·omega
 ·have hg:=Sats.frame_left s' g _ (Frag.one_self g _)
  have hlt:i * Rep.sz α+o<xs.length * Rep.sz α:=by
   have:(i+1) * Rep.sz α≤xs.length * Rep.sz α:=Nat.mul_le_mul_right _ hi
   rw [Nat.add_mul] at this
   omega
  have hcur:i * Rep.sz α+o<cur.size:=by
   have:xs.length * Rep.sz α≤cap * Rep.sz α:=Nat.mul_le_mul_right _ hk
   omega
  have hcell:w.cell? ⟨g,i * Rep.sz α+o,none⟩=some cur[i * Rep.sz α+o]:=by rw [cell_heap hg];simp [hcur]
  have hfr:w.frozen? ⟨g,i * Rep.sz α+o,none⟩=false:=by rw [frozen_heap hg];simp
  refine ⟨_,w.setCell ⟨g,i * Rep.sz α+o,none⟩ u,_,.inr ⟨?_,rfl⟩,Rest.refl w,?_,rfl⟩
  ·simp [execOp,hx,hy,elt,Instr.storeAt,Instr.sureAddr,storeVar,cells_one h1,run_sizeOf' w hm (by omega),storeCells,run_store P w _ u _ h1,addr_add,hcell,hfr]
  ·refine Sats.rewrite (o':=.cells (cur.setIfInBounds (i * Rep.sz α+o) u) e (0,0)) hil dd s' ?_ (fun k hk=>?_) ?_
   ·refine ⟨cellsOf_len _,.inr ⟨g,cap,_,by simp,rfl,by simpa using hk,hcm,by simpa using hsz2,?_⟩⟩
    rw [List.length_set,Array.toList_setIfInBounds,set_take _ _ _ _ hlt,htk,cellsOf_set hi ho ha]
   ·rw [setCell_heap,if_neg hk]
   ·rw [setCell_heap,if_pos rfl,hg];simp
theorem st_storeB (r:Nat) {t e:TypeId} {x y:Operand} {i:Nat} {b:Int} {xs:List UInt8} (hx:evalF f x=elt v (i * 1+0)) (hy:evalF f y=.int .u8 b) (hb0:0≤b) (hb1:b≤255) (hr:L[r]?=some (RowT v e xs)) (hm:P.cellsOf t=1) (hi:i<xs.length)
  (h:ExL P n ops rest Q f (L.set r (RowT v e (xs.set i (UInt8.ofNat b.toNat))))):ExL P n ops (⟨none,.store t x y,ty,pos,af,none⟩::rest) Q f L :=
 st_storeS r hx hy rfl hr hm rfl hi rfl (by
  show [Value.int .u8 ((UInt8.ofNat b.toNat).toNat:Int)]=[Value.int .u8 b]
  have:((UInt8.ofNat b.toNat).toNat:Int)=b:=by simp;omega
  rw [this]) h
end
end
section
theorem Sats.conv {w:World} {L:List Assn} {F:Frag} {A:Assn} {i:Nat} (hi:L[i]?=some A) (s:Sats w L F):∃ h,A h∧∀ A':Assn,A' h→Sats w (L.set i A') F:=by
 obtain ⟨h,a,d,s'⟩:=Sats.pick hi s
 exact ⟨h,a,fun A' a'=>Sats.put (List.getElem?_eq_some_iff.1 hi).1 a' d s'⟩
section
variable {α:Type} [Rep α]
def RoT (v:Value) (xs:List α):Assn:=fun h=>∃ g cap cur t fr,v=.slice (some ⟨g,0,none⟩) xs.length cap∧h=Frag.one g (.cells cur t fr)∧xs.length≤cap∧cap≤maxLen∧cur.toList.take (xs.length * Rep.sz α)=cellsOf xs
theorem RowT.one {w:World} {F:Frag} {L:List Assn} {v:Value} {e:TypeId} {xs:List α} {i:Nat} (hi:L[i]?=some (RowT v e xs)) (s:Sats w L F):v.oneCell'=true:=by
 obtain ⟨_,⟨_,b,rfl⟩ | ⟨g,c,cur,rfl,_⟩⟩:=row_heap hi s <;> rfl
theorem Sub.rowTo {L:List Assn} {v:Value} {e:TypeId} {xs:List α} (i:Nat) (hi:L[i]?=some (RowT v e xs)) {h:Nat} (hk:h≤xs.length) {sz:Nat} (hsz:Rep.sz α=sz):Sub (L.set i (RowT (subs v 0 h sz) e (xs.take h))) L:=fun w F s=>by
 subst hsz
 obtain ⟨f,⟨hl,hc⟩,k⟩:=Sats.conv hi s
 refine k _ ⟨cellsOf_len _,?_⟩
 have hlen:(xs.take h).length=h:=by simp;omega
 rcases hc with ⟨h0,⟨b,rfl⟩,rfl⟩ | ⟨g,cap,cur,rfl,rfl,h1,h2,h3,h4⟩
 ·have:h=0:=by omega
  subst this
  exact .inl ⟨by simp,⟨b,by simp [subs]⟩,rfl⟩
 ·refine .inr ⟨g,cap,cur,by simp only [subs,hlen];split <;> simp [addr_add],rfl,by omega,h2,h3,?_⟩
  rw [hlen,← cellsOf_take,← h4,List.take_take,Nat.min_eq_left (Nat.mul_le_mul_right _ hk)]
end
def Raw (g:Nat) (t:TypeId) (cs:List Value):Assn:=fun h=>h=Frag.one g (.cells cs.toArray t (0,0))
theorem raw_store {w:World} {L:List Assn} {F:Frag} {i g o:Nat} {t:TypeId} {cs:List Value} (v:Value) (hi:L[i]?=some (Raw g t cs)) (s:Sats w L F):Sats (w.setCell ⟨g,o,none⟩ v) (L.set i (Raw g t (cs.set o v))) F:=by
 obtain ⟨h,rfl,d,s'⟩:=Sats.pick hi s
 have hg:=Sats.frame_left s' g _ (Frag.one_self g _)
 refine Sats.rewrite (o':=.cells (cs.set o v).toArray t (0,0)) (List.getElem?_eq_some_iff.1 hi).1 d s' rfl (fun k hk=>?_) ?_
 ·rw [setCell_heap,if_neg hk]
 ·rw [setCell_heap,if_pos rfl,hg];simp
theorem run_storeCells_raw {P:Program} {i g:Nat} {bt:TypeId} {F:Frag}:∀ (vs:List Value) (j o:Nat) (w:World) (L:List Assn) (cs:List Value),L[i]?=some (Raw g bt cs)→o+j+vs.length≤cs.length→(∀ v∈vs,v.oneCell'=true)→Sats w L F →
  ∃ w',(storeCells ⟨g,o,none⟩ vs j).run P w=.ok () w'∧Rest w w'∧Sats w' (L.set i (Raw g bt (cs.take (o+j)++vs++cs.drop (o+j+vs.length)))) F
 | [],j,o,w,L,cs,hi,hl,h1,s=>by
  refine ⟨w,by simp [storeCells],Rest.refl w,?_⟩
  have:cs.take (o+j)++[]++cs.drop (o+j+([]:List Value).length)=cs:=by
   simp only [List.append_nil,List.length_nil,Nat.add_zero,List.take_append_drop]
  rw [this,list_set_same hi];exact s
 | v::vs,j,o,w,L,cs,hi,hl,h1,s=>by
  simp at hl
  have ho:o+j<cs.length:=by omega
  have hg:w.heap[g]?=some (.cells cs.toArray bt (0,0)):=by
   obtain ⟨h,rfl,d,s'⟩:=Sats.pick hi s
   exact Sats.frame_left s' g _ (Frag.one_self g _)
  have hcell:w.cell? ⟨g,o+j,none⟩=some cs[o+j]:=by rw [cell_heap hg];simp [ho]
  have hf:w.frozen? ⟨g,o+j,none⟩=false:=by rw [frozen_heap hg];simp
  have hs:=raw_store (o:=o+j) v hi s
  have hil:i<L.length:=(List.getElem?_eq_some_iff.1 hi).1
  obtain ⟨w',hr,hre,hs'⟩:=run_storeCells_raw (P:=P) (i:=i) (g:=g) (bt:=bt) vs (j+1) o (w.setCell ⟨g,o+j,none⟩ v) (L.set i (Raw g bt (cs.set (o+j) v))) (cs.set (o+j) v) (by simp [hil]) (by simp;omega) (fun u hu=>h1 u (List.mem_cons_of_mem _ hu)) hs
  refine ⟨w',?_,hre,?_⟩
  ·simp [storeCells,addr_add,run_store P w _ v _ (h1 v (List.mem_cons_self ..)),hcell,hf,hr]
  ·rw [List.set_set] at hs'
   have e:=splice_set cs (o+j) v vs (by omega)
   rw [show o+(j+1)=o+j+1 by omega,e] at hs'
   simpa using hs'
section
variable {α:Type} [Rep α]
theorem row_write {P:Program} {w:World} {L:List Assn} {F:Frag} {v:Value} {e:TypeId} {xs xs':List α} {i o:Nat} {us:List Value} (hi:L[i]?=some (RowT v e xs)) (ho:o+us.length≤xs.length * Rep.sz α) (hp:0<us.length) (h1:us.all Value.oneCell'=true)
  (hx:(cellsOf xs).take o++us++(cellsOf xs).drop (o+us.length)=cellsOf xs') (hl:xs'.length=xs.length) (s:Sats w L F) :
  ∃ g w',(∃ c,v=.slice (some ⟨g,0,none⟩) xs.length c)∧(storeCells ⟨g,o,none⟩ us 0).run P w=.ok () w'∧Rest w w'∧Sats w' (L.set i (RowT v e xs')) F:=by
 obtain ⟨f,⟨hl',hc⟩,k⟩:=Sats.conv hi s
 rcases hc with ⟨h0,_⟩ | ⟨g,cap,cur,rfl,rfl,hk,hm,hz,ht⟩
 ·rw [h0] at ho;omega
 ·have s1:=k (Raw g e cur.toList) (by simp [Raw])
  have hil:i<L.length:=(List.getElem?_eq_some_iff.1 hi).1
  have hcl:xs.length * Rep.sz α≤cap * Rep.sz α:=Nat.mul_le_mul_right _ hk
  obtain ⟨w',hr,hre,s2⟩:=run_storeCells_raw (P:=P) (i:=i) (g:=g) (bt:=e) us 0 o w _ cur.toList (by simp [hil]) (by simp;omega) (by simpa using h1) s1
  refine ⟨g,w',⟨_,rfl⟩,hr,hre,?_⟩
  rw [List.set_set] at s2
  obtain ⟨h',rfl,k2⟩:=Sats.conv (i:=i) (A:=Raw g e _) (by rw [List.getElem?_set_self (by simp [hil])]) s2
  have s3:=k2 (RowT (.slice (some ⟨g,0,none⟩) xs.length cap) e xs') ⟨cellsOf_len _,.inr ⟨g,cap,_,by rw [hl],rfl,by rw [hl];exact hk,hm,by simp;omega,by
   rw [hl,← hx,← ht]
   simp only [List.take_take,List.drop_take,Nat.add_zero,Nat.min_eq_left (show o≤xs.length * Rep.sz α by omega)]
   have hcz:o≤cur.size:=by omega
   rw [List.take_append,List.take_of_length_le (by simp;omega)]
   congr 2
   simp [Nat.min_eq_left hcz]⟩⟩
  rw [List.set_set] at s3
  exact s3
theorem zeroCells_rep {zero:Array Value} {z:α} (hz:zero.toList=Rep.cells z) (m:Nat):(Builtin.zeroCells zero m).toList=cellsOf (List.replicate m z):=by
 have hp:0<Rep.sz α:=Rep.pos
 have hs:zero.size=Rep.sz α:=by rw [← Array.length_toList,hz,Rep.len]
 refine List.ext_getElem? fun j=>?_
 by_cases hj:j<m * Rep.sz α
 ·have hi:j / Rep.sz α<(List.replicate m z).length:=by simp;exact Nat.div_lt_of_lt_mul (by rw [Nat.mul_comm];exact hj)
  have ho:j % Rep.sz α<Rep.sz α:=Nat.mod_lt _ hp
  have ej:j=j / Rep.sz α * Rep.sz α+j % Rep.sz α:=by rw [Nat.mul_comm];exact (Nat.div_add_mod _ _).symm
  have e1:=cellsOf_get (xs:=List.replicate m z) hi ho
  rw [← ej] at e1
  rw [e1,List.getElem_replicate,← hz]
  simp [Builtin.zeroCells,hs,hj,Array.getElem?_eq_getElem,ho]
 ·rw [List.getElem?_eq_none (by simp [Builtin.zeroCells,hs];omega),List.getElem?_eq_none (by rw [cellsOf_len];simp;omega)]
end
section
variable {P:Program} {n:Nat} {ops:Array Oper} {Q:Post} {f:Nat→Value} {L:List Assn} {rest:List Oper} {d:Nat} {ty:TypeId} {pos:String} {af:Array Edge} {gd:Option (Nat×Bool)}
variable {α:Type} [Rep α] {v:Value} {xs ys:List α}
theorem st_clear (i:Nat) {x:Operand} {t e:TypeId} {l k sz:Nat} {zs:List Value} (z:α) (hx:evalF f x=subs v l k sz) (hi:L[i]?=some (RowT v e xs)) (hk:k=xs.length) (hsz:Rep.sz α=sz) (ht:P.underlying t=some (.slice e)) (hz:zeroC P e=some zs) (hzs:Rep.cells z=zs) (hl:l≤xs.length)
  (h:ExL P n ops rest Q f (L.set i (RowT v e (xs.take l++List.replicate (xs.length - l) z)))):ExL P n ops (⟨none,.call ⟨.builtin .clear,#[x],#[t]⟩,ty,pos,af,none⟩::rest) Q f L:=by
 subst hsz;subst hk;subst hzs
 refine ExL.eff rfl rfl (R:=fun _ L2=>L2=L.set i (RowT v e (xs.take l++List.replicate (xs.length - l) z))) (fun F w s=>?_) (fun v L2 e=>by subst e;exact h)
 obtain ⟨z',hr,hc⟩:=run_zeroValue w hz
 by_cases hlk:l=xs.length
 ·subst hlk
  have:xs.take xs.length++List.replicate (xs.length - xs.length) z=xs:=by simp
  rw [this,list_set_same hi]
  refine ⟨.tuple #[],w,_,.inl ?_,Rest.refl w,s,rfl⟩
  obtain ⟨_,a,c,rfl,_⟩:=(RdT.row i hi) w F s
  by_cases hcc:c=xs.length <;> cases a <;> simp [execOp,hx,resolve,invoke,builtin,Builtin.clear_,subs,run_underlying ht,hcc]
 ·have hu:((Builtin.zeroCells z'.cells (xs.length - l)).toList)=cellsOf (List.replicate (xs.length - l) z):=zeroCells_rep (by rw [hc]) _
  obtain ⟨g,w',⟨c,rfl⟩,hrun,hre,hs⟩:=row_write (P:=P) (w:=w) (o:=l * Rep.sz α) (us:=cellsOf (List.replicate (xs.length - l) z)) (xs':=xs.take l++List.replicate (xs.length - l) z) hi (by rw [cellsOf_len,List.length_replicate,← Nat.add_mul];exact Nat.mul_le_mul_right _ (by omega)) (by rw [cellsOf_len,List.length_replicate];exact Nat.mul_pos (by omega) Rep.pos) (by rw [List.all_eq_true];exact cellsOf_all _) (by
   rw [cellsOf_len,List.length_replicate,← Nat.add_mul,cellsOf_take,cellsOf_append]
   have:(cellsOf xs).drop ((l+(xs.length - l)) * Rep.sz α)=[]:=List.drop_eq_nil_of_le (by rw [cellsOf_len];exact Nat.mul_le_mul_right _ (by omega))
   rw [this,List.append_nil]) (by simp;omega) s
  refine ⟨.tuple #[],w',_,.inl ?_,hre,hs,rfl⟩
  obtain ⟨_,_,he,hc1,_⟩:=(RdT.row i hi).cap s
  cases he
  obtain ⟨m,hm⟩:∃ m,xs.length - l=m+1:=⟨xs.length - l - 1,by omega⟩
  rw [← hu,hm] at hrun
  simp [execOp,hx,resolve,invoke,builtin,Builtin.clear_,subs,run_underlying ht,show ¬ c=l by omega,hm,hr,addr_add,hrun]
def offE (sz:Nat) (i:Nat):Option (Nat×Nat):=some (i * sz,sz)
def zerosE (zs:List Value):Nat→List Value
 | 0=>[]
 | m+1=>zs++zerosE zs m
theorem zerosE_eq {zs:List Value} (hp:0<zs.length):∀ m,((Array.range (m * zs.length)).map fun j=>zs.toArray[j % zs.length]!).toList=zerosE zs m:=by
 have key:∀ m j,(zerosE zs m)[j]?=if j<m * zs.length then some (zs.toArray[j % zs.length]!) else none:=by
  intro m
  induction m with
  | zero=>intro j;simp [zerosE]
  | succ m ih =>
   intro j
   simp only [zerosE]
   by_cases hj:j<zs.length
   ·rw [List.getElem?_append_left hj,if_pos (by rw [Nat.add_mul];omega),Nat.mod_eq_of_lt hj]
    simp [hj]
   ·rw [List.getElem?_append_right (by omega),ih,Nat.add_mul]
    by_cases h2:j - zs.length<m * zs.length
    ·rw [if_pos h2,if_pos (by omega),Nat.mod_eq_sub_mod (a:=j) (by omega)]
    ·rw [if_neg h2,if_neg (by omega)]
 intro m
 refine List.ext_getElem? fun j=>?_
 rw [key]
 by_cases hj:j<m * zs.length
 ·rw [if_pos hj];simp [hj]
 ·rw [if_neg hj];simp;omega
theorem run_buildSlice {w:World} {t e:TypeId} {sz m:Nat} {zs vs:List Value} {parts:List (Nat×Operand)} {ps:List (Nat×List Value)} (hu:P.underlying t=some (.slice e)) (hs:P.cellsOf e=sz) (hp:Nat.blt 0 sz=true) (hm:Nat.blt 0 m=true) (hmx:Nat.ble (m * sz) 16777216=true) (hz:zeroC P e=some zs) (hzl:zs.length=sz)
  (he:Evs f parts ps) (hl:((lay (offE sz) (zerosE zs m) ps).bind seqL)=some vs):(Instr.buildSlice t m (parts.toArray.map fun (p:Nat×Operand)=>(p.1,evalF f p.2))).run P w=.ok (.slice (some ⟨w.heap.size,0,none⟩) m m) (w.alloc (.cells vs.toArray e)):=by
 have hp:=Nat.le_of_ble_eq_true hp
 have hm:=Nat.le_of_ble_eq_true hm
 have hmx:=Nat.le_of_ble_eq_true hmx
 obtain ⟨z,hr,hc⟩:=run_zeroValue w hz
 have hl':lay (offE sz) (zerosE zs m) ps=some vs:=by
  cases h:lay (offE sz) (zerosE zs m) ps with
  | none=>rw [h] at hl;cases hl
  | some z=>rw [h] at hl;rw [← seqL_eq hl]
 subst hzl
 have hfill:=fill_lay (offE zs.length) (parts.map fun p=>(p.1,evalF f p.2)) ((Array.range (m * zs.length)).map fun j=>zs.toArray[j % zs.length]!) vs (by rw [zerosE_eq (by omega),evs_map he];exact hl')
 have hpl:(parts.toArray.map fun (p:Nat×Operand)=>(p.1,evalF f p.2)).toList=parts.map fun p=>(p.1,evalF f p.2):=by simp
 have hne:¬ m * zs.length=0:=by
  have:0<m * zs.length:=Nat.mul_pos (by omega) (by omega)
  omega
 have hgt:¬ m * zs.length > 2 ^ 24:=by omega
 have hfill':Instr.fill (fun i=>some (i * zs.length,zs.length)) ((Array.range (m * zs.length)).map fun j=>zs.toArray[j % zs.length]!) (parts.map fun p=>(p.1,evalF f p.2))=some vs.toArray:=hfill
 simp only [Instr.buildSlice,Sem.run_bind,run_underlying hu,Result.andThen_ok,run_sizeOf' w hs (by omega),if_neg hgt,if_neg hne,hr,Sem.run_pure,hc,hpl,List.size_toArray,hfill']
 simp [newRow]
theorem st_sliceN {t e:TypeId} {sz m:Nat} {zs vs:List Value} {parts:List (Nat×Operand)} {ps:List (Nat×List Value)} (xs:List α) (hd:Nat.blt d n=true) (hu:P.underlying t=some (.slice e)) (hs:P.cellsOf e=sz) (hp:Nat.blt 0 sz=true) (hm:Nat.blt 0 m=true) (hmx:Nat.ble (m * sz) 16777216=true) (hz:zeroC P e=some zs) (hzl:zs.length=sz)
  (he:Evs f parts ps) (hl:((lay (offE sz) (zerosE zs m) ps).bind seqL)=some vs) (hx:cellsOf xs=vs) (hxl:xs.length=m) (hsz:Rep.sz α=sz)
  (h:∀ g,ExL P n ops rest Q (upd f d (.slice (some ⟨g,0,none⟩) m m)) (RowT (.slice (some ⟨g,0,none⟩) m m) e xs::L)):ExL P n ops (⟨some d,.buildSlice t m parts.toArray,ty,pos,af,none⟩::rest) Q f L:=by
 subst hx;subst hxl;subst hsz
 refine ExL.eff rfl hd (R:=fun v L2=>∃ g,v=.slice (some ⟨g,0,none⟩) xs.length xs.length∧L2=RowT (.slice (some ⟨g,0,none⟩) xs.length xs.length) e xs::L) (fun F w s=>?_) (fun v L2 e=>by obtain ⟨g,rfl,rfl⟩:=e;exact h g)
 have hrun:=run_buildSlice (P:=P) (w:=w) hu hs hp hm hmx hz hzl he hl
 have hmx:=Nat.le_of_ble_eq_true hmx
 have hp:=Nat.le_of_ble_eq_true hp
 refine ⟨.slice (some ⟨w.heap.size,0,none⟩) xs.length xs.length,w.alloc (.cells (cellsOf xs).toArray e),_,.inl (by simp only [execOp,Sem.run_bind,hrun,Result.andThen_ok,Sem.run_pure]),Rest.alloc (Rest.refl w) _,Sats.alloc _ s ?_,w.heap.size,rfl,rfl⟩
 refine ⟨cellsOf_len _,.inr ⟨w.heap.size,_,_,rfl,rfl,Nat.le_refl _,?_,by simp [cellsOf_len],by rw [← cellsOf_len];simp⟩⟩
 have:xs.length * 1≤xs.length * Rep.sz α:=Nat.mul_le_mul_left _ (by omega)
 unfold maxLen
 omega
def bytesL:List Value→Option (List UInt8)
 | []=>some []
 | .int .u8 (.ofNat m)::l=>match Nat.blt m 256,bytesL l with
  | true,some r=>some (UInt8.ofNat m::r)
  | _,_=>none
 | _=>none
theorem st_app (i:Nat) {x y:Operand} {u:Value} {t e:TypeId} {sz by_:Nat} {zs:List Value} (hd:Nat.blt d n=true) (hx:evalF f x=v) (hi:L[i]?=some (RowT v e xs)) (hy:evalF f y=u) (hr:RdT L u ys) (ht:P.underlying t=some (.slice e))
  (hs:P.cellsOf e=sz) (hsz:Rep.sz α=sz) (hby:P.bytesOf e=by_) (hbp:Nat.blt 0 by_=true) (hz:zeroC P e=some zs) (hzl:zs.length=sz) (hb:(xs.length+ys.length) * by_≤140737488355328)
  (h:∀ v',v'.oneCell'=true→ExL P n ops rest Q (upd f d v') (L.set i (RowT v' e (xs++ys)))):ExL P n ops (⟨some d,.call ⟨.builtin .append,#[x,y],#[t,t]⟩,ty,pos,af,none⟩::rest) Q f L:=by
 refine ExL.eff rfl hd (R:=fun v' L'=>v'.oneCell'=true∧L'=L.set i (RowT v' e (xs++ys))) (fun F w s=>?_) (fun v' L' e=>by obtain ⟨o,rfl⟩:=e;exact h v' o)
 obtain ⟨v',w',hrun,hre,hsat⟩:=row_append (P:=P) (ty:=ty) hi hr ht hs hsz hby (Nat.le_of_ble_eq_true hbp) hz hzl hb s
 exact ⟨v',w',_,.inl (by simp [execOp,resolve,invoke,builtin,hx,hy,hrun]),hre,hsat,RowT.one (by rw [List.getElem?_set_self (List.getElem?_eq_some_iff.1 hi).1]) hsat,rfl⟩
theorem st_app0 {x y:Operand} {u:Value} {b:Option Addr} {t e:TypeId} {sz by_:Nat} {zs:List Value} (hd:Nat.blt d n=true) (hx:evalF f x=.slice b 0 0) (hy:evalF f y=u) (hr:RdT L u ys) (ht:P.underlying t=some (.slice e))
  (hs:P.cellsOf e=sz) (hsz:Rep.sz α=sz) (hby:P.bytesOf e=by_) (hbp:Nat.blt 0 by_=true) (hz:zeroC P e=some zs) (hzl:zs.length=sz) (hb:ys.length * by_≤140737488355328)
  (h:∀ v',v'.oneCell'=true→ExL P n ops rest Q (upd f d v') (RowT v' e ys::L)):ExL P n ops (⟨some d,.call ⟨.builtin .append,#[x,y],#[t,t]⟩,ty,pos,af,none⟩::rest) Q f L:=by
 refine ExL.eff rfl hd (R:=fun v' L'=>v'.oneCell'=true∧L'=RowT v' e ys::L) (fun F w s=>?_) (fun v' L' e=>by obtain ⟨o,rfl⟩:=e;exact h v' o)
 have s':Sats w (RowT (.slice b 0 0) e ([]:List α)::L) F:=Sats.add_empty s (rowT_nil b e)
 obtain ⟨v',w',hrun,hre,hsat⟩:=row_append (P:=P) (ty:=ty) (i:=0) (L:=RowT (.slice b 0 0) e ([]:List α)::L) (xs:=[]) rfl (RdT.sub hr (Sub.drop _ (Sub.refl L))) ht hs hsz hby (Nat.le_of_ble_eq_true hbp) hz hzl (by simpa using hb) s'
 exact ⟨v',w',_,.inl (by simp [execOp,resolve,invoke,builtin,hx,hy,hrun]),hre,by simpa using hsat,RowT.one (i:=0) rfl hsat,rfl⟩
end
theorem RdT.ca {α:Type} [Rep α] {L:List Assn} {v:Value} {xs:List α} (hr:RdT L v xs) (w:World) (F:Frag) (s:Sats w L F):∃ a c,v=.slice a xs.length c∧(a=none→c=0∧xs.length=0):=by
 obtain ⟨_,a,c,rfl,h1,h2,h3,_⟩:=hr w F s
 exact ⟨a,c,rfl,fun h=>⟨h3 h,by have:=h3 h;omega⟩⟩
section
variable {P:Program} {f:Nat→Value} {L:List Assn} {d:Nat} {ty:TypeId} {pos:String} {af:Array Edge} {gd:Option (Nat×Bool)} {xt yt e:TypeId} {x y:Operand} {a:Option Addr} {k c k' c':Nat}
theorem run_nilS {w:World} (hu:P.underlying xt=some (.slice e)):(Op.equal xt (.slice a k c) (.slice none k' c')).run P w=.ok a.isNone w:=by
 show (Op.equalIn (9999+1) xt (.slice a k c) (.slice none k' c')).run P w=_
 rw [Op.equalIn]
 cases a <;> simp [run_underlying hu]
theorem vl_nilS {b:Bool} (hx:evalF f x=.slice a k c) (hy:evalF f y=.slice none k' c') (hu:P.underlying xt=some (.slice e)) (hb:a.isNone=b):Val P ⟨some d,.binOp .eql xt x y yt,ty,pos,af,gd⟩ f L (.bool b) :=
 vl_eqv hx hy (fun w=>by simp [eqGuard]) (fun w=>by
  simp only [binOp,Sem.run_bind,run_nilS hu,Result.andThen_ok,Sem.run_pure,hb])
end
theorem subs_one {v:Value} {l h sz:Nat} (hv:v.oneCell'=true):(subs v l h sz).oneCell'=true:=by
 unfold subs
 split
 ·rfl
 ·first | exact hv | rfl
structure Bv where
 v:Value
 one:v.oneCell'=true
 l:List UInt8
instance:Rep Bv:=⟨1,fun b=>[b.v],by decide,fun _=>rfl,fun b=>by simp [b.one]⟩
def pull:Nat→List Assn→Option (Assn×List Assn)
 | 0,A::L=>some (A,L)
 | i+1,A::L=>match pull i L with
  | some (B,L')=>some (B,A::L')
  | none=>none
 | _,[]=>none
def fronts:List Nat→List Assn→List Assn
 | [],L=>L
 | i::is,L=>match pull i (fronts is L) with
  | some (B,L')=>B::L'
  | none=>fronts is L
theorem pull_sub:∀ (i:Nat) {L L':List Assn} {B:Assn},pull i L=some (B,L')→Sub (B::L') L
 | 0,A::L,_,_,h=>by cases h;exact Sub.refl _
 | i+1,A::L,L',B,h=>by
  simp only [pull] at h
  split at h
  ·rename_i B2 L2 he
   cases h
   exact Sub.trans (Sub.front (L:=A::B::L2) 1 rfl) (Sub.cons A (pull_sub i he))
  ·cases h
theorem fronts_sub:∀ (is:List Nat) (L:List Assn),Sub (fronts is L) L
 | [],L=>Sub.refl L
 | i::is,L=>by
  have h:=fronts_sub is L
  simp only [fronts]
  split
  ·rename_i he
   exact Sub.trans (pull_sub i he) h
  ·exact h
theorem st_callIs (is:List Nat) {P:Program} {n:Nat} {ops:Array Oper} {Q:Post} {f:Nat→Value} {L L1:List Assn} {rest:List Oper} {d:Option Nat} {ty:TypeId} {pos:String} {af:Array Edge} {fn:FuncId} {xs:List Operand} {vs:List Value} {ts:Array TypeId} {R:Value→List Assn→Prop}
  (hd:dstOk n d=true) (hrun:∀ (xs:Array Value) (w:World),(callFunc fn xs).run P w=.ok (.enter fn xs) w) (hl:fronts is L=L1) (ha:xs.map (evalF f)=vs) (hf:Fn P fn vs.toArray L1 R) (h:∀ v L',R v L'→ExL P n ops rest Q (updo f d v) L') :
  ExL P n ops (⟨d,.call ⟨.value (.func fn),xs.toArray,ts⟩,ty,pos,af,none⟩::rest) Q f L :=
 st_call hd hrun (hf.sub (by subst hl;exact fronts_sub is L)) ha h
def kdK (is:List Nat) (ops:Array Oper) (i:Nat):Nat:=match is.any (Nat.beq i) with
 | true=>2
 | false=>kdOf ops i
theorem Ex.reord (is:List Nat) {P:Program} {n:Nat} {c:Code} {Q:Post} {f:Nat→Value} {L L1:List Assn} (hl:fronts is L=L1) (h:Ex P n c Q f L1):Ex P n c Q f L:=Ex.sub h (by subst hl;exact fronts_sub is L)
theorem Ex.know {P:Program} {n:Nat} {c:Code} {Q:Post} {f:Nat→Value} {L:List Assn} {p:Prop} (hk:∀ w F,Sats w L F→p) (h:p→Ex P n c Q f L):Ex P n c Q f L:=fun D F w0 f0 ws a w H hc=>h (hk w F H.2.2.1) D F w0 f0 ws a w H hc
theorem ExL.sub {P:Program} {n:Nat} {ops:Array Oper} {Q:Post} {f:Nat→Value} {L L':List Assn} {l:List Oper} (h:ExL P n ops l Q f L') (hs:Sub L' L):ExL P n ops l Q f L:=fun D F w0 f0 ws a w ⟨r,ag,s,k⟩ hc=>h D F w0 f0 ws a w ⟨r,ag,hs w F s,k⟩ hc
end
end Go.Proofs.YtogcfijlhpaeeaaGreat
