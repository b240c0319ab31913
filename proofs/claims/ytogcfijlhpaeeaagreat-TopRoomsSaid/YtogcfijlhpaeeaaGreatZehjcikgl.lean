/- Texts, one behind the other. No condition. -/
import Derived.ChangeKeysEq
import Derived.ChangeOld
import Derived.Deep.CondSized
import Derived.Deep.Slices
import Derived.Defers
import Derived.JoinedCond
import Derived.Laws.MakeOwn
import Derived.Laws.StructEq
import Derived.Lib.SmallJoins
import Derived.MapKept
import Derived.OpenShut
import Derived.ProofKit
import Derived.SizedLaws
import Derived.Test.YtogcfijlhpaeeaaGreatZincgmifm
open Go.RowKit
set_option linter.unusedSimpArgs false
set_option linter.unusedVariables false
set_option linter.unusedSectionVars false
set_option maxHeartbeats 32000000
namespace Go.Proofs.YtogcfijlhpaeeaaGreat
section
inductive Leaf where
 | b
 | i (k:IntKind)
 | s
def Leaf.ok:Leaf→Value→Bool
 | .b,.bool _=>true
 | .i k,.int k' _=>decide (k=k')
 | .s,.string _=>true
 | _,_=>false
def okL:List Leaf→List Value→Bool
 | [],[]=>true
 | l::ls,v::vs=>l.ok v && okL ls vs
 | _,_=>false
def leavesF (g:TypeId→Option (List Leaf)):List Field→Nat→Option (List Leaf)
 | [],_=>some []
 | f :: fs, o => if f.offset = o ∧ f.name ≠ "_" then (g f.type).bind fun l => (leavesF g fs (o + l.length)).map (l ++ ·) else none
def leaves (P:Program):Nat→TypeId→Option (List Leaf)
 | 0,_=>none
 | d+1,t=>((match P.underlying t with
  | some .bool=>some [.b]
  | some (.int k)=>some [.i k]
  | some .string=>some [.s]
  | some (.struct fs)=>if P.stoodInHeld t=true then none else leavesF (leaves P d) fs.toList 0
  | some (.array n e)=>(leaves P d e).map fun l=>(List.replicate n l).flatten
  | _=>none):Option (List Leaf)).bind fun l=>if l.length=P.cellsOf t∧0<l.length then some l else none
theorem okL_len:∀ {ls:List Leaf} {vs:List Value},okL ls vs=true→vs.length=ls.length
 | [],[],_=>rfl
 | _::_,_::_,h=>by simp [okL] at h;simp [okL_len h.2]
 | [],_::_,h=>by simp [okL] at h
 | _::_,[],h=>by simp [okL] at h
theorem okL_split:∀ {a b:List Leaf} {vs:List Value},okL (a++b) vs=true→okL a (vs.take a.length)=true∧okL b (vs.drop a.length)=true
 | [],b,vs,h=>by simpa [okL] using h
 | l::a,b,v::vs,h=>by
  simp [okL] at h
  obtain ⟨h1,h2⟩:=okL_split h.2
  simp [okL,h.1,h1,h2]
 | _::_,_,[],h=>by simp [okL] at h
section
variable {P:Program}
theorem leaves_spec {d:Nat} {t:TypeId} {l:List Leaf} (h:leaves P d t=some l):l.length=P.cellsOf t∧0<l.length∧(aggB P t=some true∨(aggB P t=some false∧l.length=1)):=by
 cases d with
 | zero=>simp [leaves] at h
 | succ d =>
  simp only [leaves,Option.bind_eq_some_iff] at h
  obtain ⟨l',h1,h2⟩:=h
  split at h2
  ·cases h2
   rename_i hl
   refine ⟨hl.1,hl.2,?_⟩
   unfold aggB
   cases hu:P.underlying t with
   | none=>rw [hu] at h1;cases h1
   | some k=>rw [hu] at h1;cases k <;> simp at h1 ⊢ <;> subst h1 <;> rfl
  ·cases h2
def FormV (P:Program) (e:TypeId) (a:Value) (cs:List Value):Prop:=(aggB P e=some true∧a=.agg cs.toArray)∨(aggB P e=some false∧cs=[a])
theorem run_part' {d:Nat} {e:TypeId} {l:List Leaf} (hl:leaves P d e=some l) {xs:Array Value} {off:Nat} (ho:okL l ((xs.toList.drop off).take l.length)=true) (w:World):∃ a,(part e xs off).run P w=.ok a w∧FormV P e a ((xs.toList.drop off).take l.length):=by
 obtain ⟨h1,h2,h3⟩:=leaves_spec hl
 have hlen:=okL_len ho
 rcases h3 with hA | ⟨hA,hone⟩
 ·refine ⟨.agg (xs.extract off (off+l.length)),?_,.inl ⟨hA,?_⟩⟩
  ·simp [part,run_isAgg w hA,run_sizeOf' w h1.symm h2]
  ·congr 1
   apply Array.ext'
   rw [Array.toList_extract]
   simp [List.extract]
 ·rw [hone] at hlen ⊢
  obtain ⟨v,hv⟩:∃ v,(xs.toList.drop off).take 1=[v]:=by
   match hx:(xs.toList.drop off).take 1,hlen with
   | [v],_=>exact ⟨v,rfl⟩
  have hg:xs[off]?=some v:=by
   have:=congrArg (fun l:List Value=>l[0]?) hv
   simp only [List.getElem?_take,List.getElem?_drop] at this
   simpa using this
  exact ⟨v,by simp [part,run_isAgg w hA,hg],.inr ⟨hA,hv⟩⟩
def EqL (P:Program) (dd:Nat) (e:TypeId) (l:List Leaf):Prop:=∀ (w:World) (a b:Value) (xs ys:List Value),FormV P e a xs→FormV P e b ys→okL l xs=true→okL l ys=true→∃ r:Bool,(Op.equalIn dd e a b).run P w=.ok r w∧(r=true↔xs=ys)
theorem split_eq {xs ys:List Value} {m:Nat}:xs=ys↔xs.take m=ys.take m∧xs.drop m=ys.drop m :=
 ⟨fun h=>by rw [h];exact ⟨rfl,rfl⟩,fun ⟨h1,h2⟩=>by rw [← List.take_append_drop m xs,h1,h2,List.take_append_drop]⟩
theorem run_eqFields' {d dd:Nat} (IH:∀ t l,leaves P d t=some l→EqL P dd t l) (X Y:Array Value) (w:World):∀ (fs:List Field) (o:Nat) (l:List Leaf),leavesF (leaves P d) fs o=some l→okL l (X.toList.drop o)=true→okL l (Y.toList.drop o)=true →
  ∃ r:Bool,(Op.eqFields dd X Y fs).run P w=.ok r w∧(r=true↔X.toList.drop o=Y.toList.drop o)
 | [],o,l,h,h1,h2=>by
  simp [leavesF] at h
  subst h
  have e1:=List.eq_nil_of_length_eq_zero (okL_len h1)
  have e2:=List.eq_nil_of_length_eq_zero (okL_len h2)
  exact ⟨true,by simp [Op.eqFields],by rw [e1,e2];simp⟩
 | f::fs,o,l,h,h1,h2=>by
  simp only [leavesF] at h
  split at h
  ·rename_i hf
   obtain ⟨ho,hn⟩:=hf
   simp only [Option.bind_eq_some_iff,Option.map_eq_some_iff] at h
   obtain ⟨lf,hlf,l',hl',rfl⟩:=h
   obtain ⟨a1,a2⟩:=okL_split h1
   obtain ⟨b1,b2⟩:=okL_split h2
   obtain ⟨a,p1,f1⟩:=run_part' hlf (xs:=X) (off:=o) a1 w
   obtain ⟨b,p2,f2⟩:=run_part' hlf (xs:=Y) (off:=o) b1 w
   obtain ⟨r,hr,hiff⟩:=IH _ _ hlf w a b _ _ f1 f2 a1 b1
   rw [List.drop_drop] at a2 b2
   obtain ⟨r',hr',hiff'⟩:=run_eqFields' IH X Y w fs _ l' hl' a2 b2
   rw [← ho] at p1 p2
   have hs:(X.toList.drop o=Y.toList.drop o)↔(r=true∧r'=true):=by
    rw [split_eq (m:=lf.length),hiff,hiff',List.drop_drop,List.drop_drop]
   cases r
   ·exact ⟨false,by simp only [Op.eqFields,hn,ne_eq,not_false_eq_true,if_true,Sem.run_bind,p1,p2,hr,Result.andThen_ok,Bool.not_false,Sem.run_pure],by rw [hs];simp⟩
   ·exact ⟨r',by simpa only [Op.eqFields,hn,ne_eq,not_false_eq_true,if_true,Sem.run_bind,p1,p2,hr,Result.andThen_ok,Bool.not_true,Bool.false_eq_true,if_false] using hr',by rw [hs];simp⟩
  ·cases h
theorem run_eqItems' {d dd:Nat} {e:TypeId} {le:List Leaf} (hle:leaves P d e=some le) (IH:EqL P dd e le) (X Y:Array Value) (w:World):∀ (m k:Nat),okL (List.replicate m le).flatten (X.toList.drop (k * le.length))=true→okL (List.replicate m le).flatten (Y.toList.drop (k * le.length))=true →
  ∃ r:Bool,(Op.eqItems dd e (P.cellsOf e) X Y (List.range' k m)).run P w=.ok r w∧(r=true↔X.toList.drop (k * le.length)=Y.toList.drop (k * le.length))
 | 0,k,h1,h2=>by
  have e1:=List.eq_nil_of_length_eq_zero (okL_len h1)
  have e2:=List.eq_nil_of_length_eq_zero (okL_len h2)
  exact ⟨true,by simp [Op.eqItems],by rw [e1,e2];simp⟩
 | m+1,k,h1,h2=>by
  rw [List.replicate_succ,List.flatten_cons] at h1 h2
  obtain ⟨a1,a2⟩:=okL_split h1
  obtain ⟨b1,b2⟩:=okL_split h2
  obtain ⟨a,p1,f1⟩:=run_part' hle (xs:=X) (off:=k * le.length) a1 w
  obtain ⟨b,p2,f2⟩:=run_part' hle (xs:=Y) (off:=k * le.length) b1 w
  obtain ⟨r,hr,hiff⟩:=IH w a b _ _ f1 f2 a1 b1
  have hk:k * le.length+le.length=(k+1) * le.length:=by rw [Nat.add_mul];omega
  rw [List.drop_drop,hk] at a2 b2
  obtain ⟨r',hr',hiff'⟩:=run_eqItems' hle IH X Y w m (k+1) a2 b2
  rw [(leaves_spec hle).1] at p1 p2
  have hs:(X.toList.drop (k * le.length)=Y.toList.drop (k * le.length))↔(r=true∧r'=true):=by
   rw [split_eq (m:=le.length),hiff,hiff',List.drop_drop,List.drop_drop,hk]
  rw [List.range'_succ]
  cases r
  ·exact ⟨false,by simp only [Op.eqItems,Sem.run_bind,p1,p2,hr,Result.andThen_ok,Bool.not_false,if_true,Sem.run_pure],by rw [hs];simp⟩
  ·exact ⟨r',by simpa only [Op.eqItems,Sem.run_bind,p1,p2,hr,Result.andThen_ok,Bool.not_true,Bool.false_eq_true,if_false] using hr',by rw [hs];simp⟩
theorem run_equalIn' (j:Nat):∀ (d:Nat) (t:TypeId) (l:List Leaf),leaves P d t=some l→EqL P (j+d) t l
 | 0,_,_,h=>by simp [leaves] at h
 | d+1,t,l,h=>by
  intro w a b xs ys fa fb oa ob
  have h0:=h
  simp only [leaves,Option.bind_eq_some_iff] at h
  obtain ⟨l',h1,h2⟩:=h
  split at h2
  case isFalse=>cases h2
  cases h2
  have agg:∀ v cs,FormV P t v cs→aggB P t=some true→v=.agg cs.toArray:=fun v cs hv ht=>by
   rcases hv with ⟨_,h⟩ | ⟨h,_⟩
   ·exact h
   ·rw [ht] at h;cases h
  have one:∀ v cs,FormV P t v cs→aggB P t=some false→cs=[v]:=fun v cs hv ht=>by
   rcases hv with ⟨h,_⟩ | ⟨_,h⟩
   ·rw [ht] at h;cases h
   ·exact h
  cases hu:P.underlying t with
  | none=>rw [hu] at h1;cases h1
  | some k =>
   rw [hu] at h1
   cases k <;> simp only [reduceCtorEq,Option.some.injEq] at h1
   case bool =>
    subst h1
    obtain rfl:=one a xs fa (by simp [aggB,hu])
    obtain rfl:=one b ys fb (by simp [aggB,hu])
    cases a <;> simp [okL,Leaf.ok] at oa
    cases b <;> simp [okL,Leaf.ok] at ob
    exact ⟨_,run_equalIn_bool' w (j+d) t _ _ hu,by simp⟩
   case int q =>
    subst h1
    obtain rfl:=one a xs fa (by simp [aggB,hu])
    obtain rfl:=one b ys fb (by simp [aggB,hu])
    cases a <;> simp [okL,Leaf.ok] at oa
    cases b <;> simp [okL,Leaf.ok] at ob
    subst oa;subst ob
    exact ⟨_,run_equalIn_int w (j+d) t _ _ _ _ hu,by simp⟩
   case string =>
    subst h1
    obtain rfl:=one a xs fa (by simp [aggB,hu])
    obtain rfl:=one b ys fb (by simp [aggB,hu])
    cases a <;> simp [okL,Leaf.ok] at oa
    cases b <;> simp [okL,Leaf.ok] at ob
    exact ⟨_,run_equalIn_string w (j+d) t _ _ hu,by simp [ByteArray.toList_eq,ByteArray.ext_iff]⟩
   case struct fs =>
    split at h1
    ·cases h1
    ·rename_i hst
     have hA:aggB P t=some true:=by simp [aggB,hu]
     obtain rfl:=agg a xs fa hA
     obtain rfl:=agg b ys fb hA
     have hfs:P.fieldsOf t=fs:=by simp [Program.fieldsOf,hu]
     obtain ⟨r,hr,hiff⟩:=run_eqFields' (fun t l h=>run_equalIn' j d t l h) xs.toArray ys.toArray w fs.toList 0 l h1 (by simpa using oa) (by simpa using ob)
     refine ⟨r,?_,by simpa using hiff⟩
     rw [show j+(d+1)=(j+d)+1 from rfl,run_equalIn_struct w (j+d) t _ _ (by rw [hfs];exact hu) (by simpa using hst),hfs]
     exact hr
   case array n e =>
    simp only [Option.map_eq_some_iff] at h1
    obtain ⟨le,hle,rfl⟩:=h1
    have hA:aggB P t=some true:=by simp [aggB,hu]
    obtain rfl:=agg a xs fa hA
    obtain rfl:=agg b ys fb hA
    have hpe:∃ i,P.info? e=some i:=by
     have:=(leaves_spec hle).1
     have hp:=(leaves_spec hle).2.1
     rw [this] at hp
     unfold Program.cellsOf at hp
     cases hi:P.info? e with
     | none=>rw [hi] at hp;simp at hp
     | some i=>exact ⟨i,rfl⟩
    obtain ⟨i,hi⟩:=hpe
    obtain ⟨r,hr,hiff⟩:=run_eqItems' hle (run_equalIn' j d e le hle) xs.toArray ys.toArray w n 0 (by simpa using oa) (by simpa using ob)
    refine ⟨r,?_,by simpa using hiff⟩
    rw [show j+(d+1)=(j+d)+1 from rfl,run_equalIn_array w (j+d) _ _ hu hi,List.range_eq_range']
    exact hr
class EqT (P:outParam Program) (t:TypeId) (α:outParam Type) [Rep α] where
 depth:Nat
 ls:List Leaf
 small:Nat.ble depth 10000=true
 leaves:leaves P depth t=some ls
 agg:aggB P t=some true
 guard:P.eqGuardType P.depth t=false
 ok:∀ a:α,okL ls (Rep.cells a)=true
 inj:∀ a b:α,Rep.cells a=Rep.cells b→a=b
section
variable {α:Type} [Rep α] {t:TypeId} [E:EqT P t α]
theorem run_eqT [DecidableEq α] (a b:α) (w:World):(Op.equal t (.agg (Rep.cells a).toArray) (.agg (Rep.cells b).toArray)).run P w=.ok (decide (a=b)) w:=by
 have hs:=Nat.le_of_ble_eq_true E.small
 obtain ⟨r,hr,hiff⟩:=run_equalIn' (P:=P) (10000 - E.depth) E.depth t E.ls E.leaves w _ _ _ _ (.inl ⟨E.agg,rfl⟩) (.inl ⟨E.agg,rfl⟩) (E.ok a) (E.ok b)
 rw [show 10000 - E.depth+E.depth=10000 by omega] at hr
 show (Op.equalIn 10000 t _ _).run P w=_
 rw [hr]
 congr 1
 by_cases h:a=b
 ·subst h;simpa using hiff
 ·rw [decide_eq_false h]
  cases r
  ·rfl
  ·exact absurd (E.inj _ _ (hiff.1 rfl)) h
variable {f:Nat→Value} {L:List Assn} {d:Nat} {ty:TypeId} {pos:String} {af:Array Edge} {gd:Option (Nat×Bool)} {yt:TypeId} {x y:Operand} [DecidableEq α]
theorem vl_eqlT {a b:α} (hx:evalF f x=.agg (Rep.cells a).toArray) (hy:evalF f y=.agg (Rep.cells b).toArray):Val P ⟨some d,.binOp .eql t x y yt,ty,pos,af,gd⟩ f L (.bool (decide (a=b))) :=
 vl_eqv hx hy (fun w=>run_eqGuard_agg w .eql t x y _ _ E.guard) (fun w=>by
  simp only [binOp,Sem.run_bind,run_eqT a b w,Result.andThen_ok,Sem.run_pure])
theorem vl_neqT {a b:α} (hx:evalF f x=.agg (Rep.cells a).toArray) (hy:evalF f y=.agg (Rep.cells b).toArray):Val P ⟨some d,.binOp .neq t x y yt,ty,pos,af,gd⟩ f L (.bool (decide (a≠b))) :=
 vl_eqv hx hy (fun w=>run_eqGuard_agg w .neq t x y _ _ E.guard) (fun w=>by
  simp only [binOp,Sem.run_bind,run_eqT a b w,Result.andThen_ok,Sem.run_pure]
  congr 2
  simp)
theorem vl_eqlT_t {a b:α} (hx:evalF f x=.agg (Rep.cells a).toArray) (hy:evalF f y=.agg (Rep.cells b).toArray) (h:a=b):Val P ⟨some d,.binOp .eql t x y yt,ty,pos,af,gd⟩ f L (.bool true):=by
 rw [← decide_eq_true h];exact vl_eqlT hx hy
theorem vl_eqlT_f {a b:α} (hx:evalF f x=.agg (Rep.cells a).toArray) (hy:evalF f y=.agg (Rep.cells b).toArray) (h:a≠b):Val P ⟨some d,.binOp .eql t x y yt,ty,pos,af,gd⟩ f L (.bool false):=by
 rw [← decide_eq_false h];exact vl_eqlT hx hy
theorem vl_neqT_t {a b:α} (hx:evalF f x=.agg (Rep.cells a).toArray) (hy:evalF f y=.agg (Rep.cells b).toArray) (h:a≠b):Val P ⟨some d,.binOp .neq t x y yt,ty,pos,af,gd⟩ f L (.bool true):=by
 rw [← decide_eq_true h];exact vl_neqT hx hy
theorem vl_neqT_f {a b:α} (hx:evalF f x=.agg (Rep.cells a).toArray) (hy:evalF f y=.agg (Rep.cells b).toArray) (h:a=b):Val P ⟨some d,.binOp .neq t x y yt,ty,pos,af,gd⟩ f L (.bool false):=by
 rw [← decide_eq_false (show ¬ (a≠b) by simpa using h)];exact vl_neqT hx hy
end
end
end
section
def meet (I:List Value→List Assn→Prop) (ss:List Nat) (Q:Post):Post
 | .normal,f,L=>∃ L',Sub L' L∧I (ss.map f) L'
 | e,f,L=>Q e f L
section
variable {P:Program} {n:Nat} {Q:Post} {f:Nat→Value} {L:List Assn}
end
section
variable {P:Program} {n:Nat} {ops:Array Oper} {Q:Post} {f:Nat→Value} {L:List Assn} {o:Oper} {rest:List Oper}
theorem ExL.gskipU {j s:Nat} {want:Bool} (hg:o.guard=some (j,want)) (hs:(ops[j]?).bind (·.dst)=some s) (hu:f s=undef) (hd:dstOk n o.dst=true)
  (h:ExL P n ops rest Q (updo f o.dst undef) L):ExL P n ops (o::rest) Q f L:=by
 intro D F w0 f0 ws a w H hc
 refine wpList_step fun K hK=>?_
 have hw:Region.wanted o (yielded ops a.tmps)=false:=by
  rw [H.2.1.yield]
  simp only [Region.wanted,hg,yieldF,hs,hu,undef]
  rfl
 rw [hw]
 have hp:=H.puto (Rest.refl w) H.2.2.1 hd (fun t ht=>hc t (mem_writesL (t:=0) ht)) undef
 exact hK _ _ (h D F w0 f0 ws _ _ hp fun d hd=>hc d (mem_writesL' hd))
theorem mx_gskipU {kd:Nat→Nat} {Lb:List Assn} {Z:(Nat→Value)→List Assn→Prop} {i:Nat} {l:List (Nat×Oper)} {j s:Nat} {want:Bool} (hg:o.guard=some (j,want)) (hs:(ops[j]?).bind (·.dst)=some s) (hu:f s=undef)
  (h:Mix P n ops kd Lb Z l (updo f o.dst undef) L):Mix P n ops kd Lb Z ((i,o)::l) f L:=fun _=>by
 have hw:wantF ops f o=false:=by
  simp only [wantF,Region.wanted,hg,yieldF,hs,hu,undef]
  rfl
 rw [hw]
 exact h
end
def Tab (L:List Assn) (g:Nat) (cs:List Value):Prop:=∀ w F,Sats w L F→∀ j v,cs[j]?=some v→w.cell? ⟨g,j,none⟩=some v
def intsOf (k:IntKind):List Value→Option (List Int)
 | []=>some []
 | .int k' n::l=>match decide (k=k') with
  | true=>match intsOf k l with
   | some l'=>some (n::l')
   | none=>none
  | false=>some []
 | _=>some []
theorem intsOf_eq {k:IntKind}:∀ {l:List Value} {zs:List Int},intsOf k l=some zs→l.take zs.length=zs.map (.int k)
 | [],zs,h=>by simp [intsOf] at h;subst h;rfl
 | v::l,zs,h=>by
  cases v <;> simp only [intsOf,Option.some.injEq] at h <;> first | (subst h;rfl) | skip
  split at h
  ·rename_i h1
   split at h
   ·rename_i h2
    cases h
    rw [← of_decide_eq_true h1,List.length_cons,List.take_succ_cons,intsOf_eq h2];rfl
   ·cases h
  ·cases h;rfl
def strsOf:List Value→Option (List (List UInt8))
 | []=>some []
 | .string s::l=>match strsOf l with
  | some l'=>some (s.data.toList::l')
  | none=>none
 | _=>some []
theorem strsOf_eq:∀ {l:List Value} {zs:List (List UInt8)},strsOf l=some zs→l.take zs.length=zs.map (fun s=>.string (S s))
 | [],zs,h=>by simp [strsOf] at h;subst h;rfl
 | v::l,zs,h=>by
  cases v <;> simp only [strsOf,Option.some.injEq] at h <;> first | (subst h;rfl) | skip
  split at h
  ·rename_i h2
   cases h
   rw [List.length_cons,List.take_succ_cons,strsOf_eq h2,List.map_cons,← S_of]
  ·cases h
section
variable {P:Program} {n:Nat} {ops:Array Oper} {Q:Post} {f:Nat→Value} {L:List Assn} {rest:List Oper} {d:Nat} {ty:TypeId} {pos:String} {af:Array Edge} {gd:Option (Nat×Bool)}
theorem vl_idxL {t e:TypeId} {x y:Operand} {g o m sz o':Nat} {k:IntKind} {j:Int} (hx:evalF f x=.pointer (some ⟨g,o,none⟩)) (hy:evalF f y=.int k j) (hu:P.underlying t=some (.array m e)) (hs:P.cellsOf e=sz) (hl:Nat.ble (o+j.toNat * sz) 1000000=true) (hp:Nat.blt 0 sz=true)
  (h0:0≤j) (h1:j<(m:Int)) (ho:o+j.toNat * sz=o'):Val P ⟨some d,.indexAddr t x y,ty,pos,af,gd⟩ f L (.pointer (some ⟨g,o',none⟩)):=by
 rw [← ho];exact vl_idxA hx hy hu hs hp h0 h1
theorem get_map_at {α:Type} {cs:List Value} {zs:List α} {o m j:Nat} {φ:α→Value} (dflt:α) (h:(cs.drop o).take m=zs.map φ) (hj:j<zs.length):cs[o+j]?=some (φ (zs.getD j dflt)):=by
 refine take_drop_get (m:=m) (o:=o) ?_
 rw [h,List.getElem?_map]
 simp [List.getD,hj]
theorem vl_loadI (i:Nat) {t bt:TypeId} {x:Operand} {g o j:Nat} {cs:List Value} {k:IntKind} {zs:List Int} (hx:evalF f x=.pointer (some ⟨g,o+j * 1,none⟩)) (hi:L[i]?=some (Blk g bt cs)) (ht:P.underlying t=some (.int k)) (hz:intsOf k (cs.drop o)=some zs)
  (hj:j<zs.length):Val P ⟨some d,.load t x,ty,pos,af,gd⟩ f L (.int k (zs.getD j 0)) :=
 fun F w s=>by
  have:=blk_cell hi (get_map_at (φ:=.int k) 0 (intsOf_eq hz) hj) s
  rw [Nat.mul_one] at hx
  simp [execOp,hx,Instr.loadAt,Instr.sureAddr,run_loadVar1 w (t:=t) (show aggB P t=some false by simp [aggB,ht]) this,List.getD_eq_getElem?_getD]
theorem vl_loadX (i:Nat) {t bt:TypeId} {x:Operand} {g o j:Nat} {cs:List Value} {zs:List (List UInt8)} (hx:evalF f x=.pointer (some ⟨g,o+j * 1,none⟩)) (hi:L[i]?=some (Blk g bt cs)) (ht:P.underlying t=some .string) (hz:strsOf (cs.drop o)=some zs)
  (hj:j<zs.length):Val P ⟨some d,.load t x,ty,pos,af,gd⟩ f L (.string (S (zs.getD j []))) :=
 fun F w s=>by
  have:=blk_cell hi (get_map_at (φ:=fun s=>.string (S s)) [] (strsOf_eq hz) hj) s
  rw [Nat.mul_one] at hx
  simp [execOp,hx,Instr.loadAt,Instr.sureAddr,run_loadVar1 w (t:=t) (show aggB P t=some false by simp [aggB,ht]) this,List.getD_eq_getElem?_getD]
theorem vl_loadS1e {α:Type} [Rep α] {v:Value} {xs:List α} {t:TypeId} {x:Operand} {i sz o:Nat} {u:Value} {a:α} (hx:evalF f x=elt v (i * sz+o)) (hA:aggB P t=some false) (hr:RdT L v xs) (he:xs[i]?=some a) (hsz:Rep.sz α=sz) (hv:(Rep.cells a)[o]?=some u) :
  Val P ⟨some d,.load t x,ty,pos,af,gd⟩ f L u:=by
 obtain ⟨hi,rfl⟩:=List.getElem?_eq_some_iff.1 he
 exact vl_loadS1 hx hA hr hi hsz hv
theorem vl_arrPtr {α:Type} [Rep α] {v:Value} {xs:List α} {t e:TypeId} {x:Operand} {m:Nat} (hx:evalF f x=v) (hr:RdT L v xs) (hu:P.underlying t=some (.array m e)) (hm:m≤xs.length) (hp:Nat.blt 0 m=true) :
  Val P ⟨some d,.sliceToArrayPointer t x,ty,pos,af,gd⟩ f L (elt v (0 * Rep.sz α+0)):=fun F w s=>by
 have hp:=Nat.le_of_ble_eq_true hp
 obtain ⟨a,c,rfl,_⟩:=some_of_lt (hr w F s) (i:=0) (by omega)
 simp [execOp,hx,Instr.arrayAt,run_underlying hu,elt,show ¬ xs.length<m by omega,Addr.add]
theorem vl_loadArr {α:Type} [Rep α] {v:Value} {xs:List α} {t e:TypeId} {x:Operand} {sz m:Nat} (hx:evalF f x=elt v (0 * sz+0)) (hu:P.underlying t=some (.array m e)) (hr:RdT L v xs) (hm:m≤xs.length) (hp:Nat.blt 0 m=true) (hsz:Rep.sz α=sz) (hs:P.cellsOf t=m * sz) :
  Val P ⟨some d,.load t x,ty,pos,af,gd⟩ f L (.agg (cellsOf (xs.take m)).toArray):=fun F w s=>by
 have hp:=Nat.le_of_ble_eq_true hp
 obtain ⟨a,c,rfl,hcell⟩:=some_of_lt (hr w F s) (i:=0) (by omega)
 have hl:(cellsOf (xs.take m)).length=m * sz:=by rw [cellsOf_len,hsz,List.length_take,Nat.min_eq_left hm]
 have hpos:0<m * sz:=Nat.mul_pos hp (by rw [← hsz];exact Rep.pos)
 have:=run_loadVarA (P:=P) w (t:=t) (a:=a.add 0) (cs:=cellsOf (xs.take m)) (show aggB P t=some true by simp [aggB,hu]) (by rw [hs,hl]) (by rw [hl];exact hpos) (fun j u hj=>by
  rw [addr_add2,Nat.zero_add]
  refine hcell j u ?_
  rw [← cellsOf_take,List.getElem?_take] at hj
  split at hj
  ·exact hj
  ·cases hj)
 have e0:(0 * sz+0)=0:=by omega
 rw [e0] at hx
 simp [execOp,hx,elt,Instr.loadAt,Instr.sureAddr,this]
theorem rd_blk {α:Type} [Rep α] (i:Nat) {g:Nat} {bt:TypeId} (xs:List α) (hi:L[i]?=some (Blk g bt (cellsOf xs))) {m:Nat} (hm:xs.length=m) (hmx:Nat.ble m 1000000=true):RdT L (.slice (some ⟨g,0,none⟩) m m) xs:=fun w F s=>by
 subst hm
 have hmx:=Nat.le_of_ble_eq_true hmx
 refine ⟨cellsOf_len xs,_,_,rfl,Nat.le_refl _,by unfold maxLen;omega,(fun h=>by cases h),fun ad ha j u hu=>?_⟩
 cases ha
 rw [addr_add]
 simpa using blk_cell (o:=j) hi hu s
theorem vl_slArr {t e:TypeId} {x:Operand} {g m sz:Nat} (hx:evalF f x=.pointer (some ⟨g,0,none⟩)) (hu:P.underlying t=some (.array m e)) (hs:P.cellsOf e=sz) (hp:Nat.blt 0 sz=true) (hm:Nat.blt 0 m=true) :
  Val P ⟨some d,.slice t x none none none,ty,pos,af,gd⟩ f L (.slice (some ⟨g,0,none⟩) m m):=fun F w s=>by
 have hm:=Nat.le_of_ble_eq_true hm
 simp [execOp,hx,Instr.sliceAt,run_underlying hu,Instr.sureAddr,Instr.sliceBounds,run_sizeOf' w hs (Nat.le_of_ble_eq_true hp),show ¬ m=0 by omega,addr_add]
theorem st_make {α:Type} [Rep α] (z:α) {t e:TypeId} {x y:Operand} {k k':IntKind} {m:Int} {sz by_:Nat} {zs:List Value} (hd:Nat.blt d n=true) (hx:evalF f x=.int k m) (hy:evalF f y=.int k' m) (ht:P.underlying t=some (.slice e)) (hs:P.cellsOf e=sz) (hsz:Rep.sz α=sz) (hby:P.bytesOf e=by_) (hbp:Nat.blt 0 by_=true)
  (hz:zeroC P e=some zs) (hzs:zs=Rep.cells z) (h0:0≤m) (hb:m * by_≤140737488355328) (h:∀ v,v.oneCell'=true→ExL P n ops rest Q (upd f d v) (RowT v e (List.replicate m.toNat z)::L)) :
  ExL P n ops (⟨some d,.makeSlice t x y,ty,pos,af,none⟩::rest) Q f L:=by
 subst hsz
 have hp:0<Rep.sz α:=Rep.pos
 have hbp:=Nat.le_of_ble_eq_true hbp
 obtain ⟨inf,zv,hinf,hsize,hbytes,hzero,hzc⟩:=info_of_bytes hs hp hby hz
 obtain ⟨m,rfl⟩:=Int.eq_ofNat_of_zero_le h0
 refine ExL.eff rfl hd (R:=fun v L'=>v.oneCell'=true∧L'=RowT v e (List.replicate m z)::L) (fun F w s=>?_) (fun v L' hv=>by obtain ⟨h1,rfl⟩:=hv;exact h v h1)
 have hmb:(m:Int) * 1≤(m:Int) * by_:=Int.mul_le_mul_of_nonneg_left (by omega) (by omega)
 have hr:=run_make (P:=P) w t e inf zv ht hinf hzero k k' m m h0 (Int.le_refl _) (by rw [hbytes,Int.mul_comm];omega) (by omega)
 simp only [Int.toNat_natCast] at hr
 refine ⟨.slice (some ⟨w.heap.size,0,none⟩) m m,w.alloc (.cells (madeCells zv.cells (m * inf.size)) e),_,.inl ?_,Rest.refl w,Sats.alloc (A:=RowT (.slice (some ⟨w.heap.size,0,none⟩) m m) e (List.replicate m z)) _ s ?_,rfl,rfl⟩
 ·simp [execOp,hx,hy,hr]
 ·refine ⟨cellsOf_len _,.inr ⟨w.heap.size,m,_,by simp,rfl,by simp,by unfold maxLen;omega,by rw [size_madeCells,hsize],?_⟩⟩
  rw [List.length_replicate]
  have h1:(madeCells zv.cells (m * inf.size)).toList=cellsOf (List.replicate m z):=by
   have h2:=zeroCells_rep (α:=α) (zero:=zv.cells) (z:=z) (by rw [hzc,← hzs]) m
   rw [← h2]
   simp only [madeCells,Builtin.zeroCells,hsize]
   rw [hzc];simp [hzs,Rep.len]
  rw [h1,List.take_of_length_le (by rw [cellsOf_len];simp)]
end
section
variable {P:Program} {f:Nat→Value} {L:List Assn} {d:Nat} {ty:TypeId} {pos:String} {af:Array Edge} {gd:Option (Nat×Bool)}
end
section
variable {P:Program} {n:Nat} {ops:Array Oper} {Q:Post} {f:Nat→Value} {L:List Assn} {rest:List Oper} {d:Nat} {ty:TypeId} {pos:String} {af:Array Edge} {gd:Option (Nat×Bool)}
theorem st_storeG (i:Nat) {t bt:TypeId} {x y:Operand} {g o:Nat} {cs:List Value} {v:Value} (hx:evalF f x=.pointer (some ⟨g,o,none⟩)) (hi:L[i]?=some (Blk g bt cs)) (hy:evalF f y=v) (h1:v.oneCell'=true) (hm:P.cellsOf t=1) (ho:o<cs.length)
  (h:∀ cs',cs'=cs.set o v→ExL P n ops rest Q f (L.set i (Blk g bt cs'))):ExL P n ops (⟨none,.store t x y,ty,pos,af,none⟩::rest) Q f L :=
 st_store1 i hx hy h1 hi hm (Nat.ble_eq_true_of_le ho) rfl (h _ rfl)
end
class ZRep (P:outParam Program) (e:TypeId) (α:outParam Type) [Rep α] where
 z:α
 eq:zeroC P e=some (Rep.cells z)
 size:P.cellsOf e=Rep.sz α
section
variable {P:Program} {n:Nat} {ops:Array Oper} {Q:Post} {f:Nat→Value} {L:List Assn} {rest:List Oper} {d:Nat} {ty:TypeId} {pos:String} {af:Array Edge} {gd:Option (Nat×Bool)}
variable {α:Type} [Rep α]
theorem st_makeT {t e:TypeId} [Z:ZRep P e α] {x y:Operand} {k k':IntKind} {m:Int} {by_:Nat} (hd:Nat.blt d n=true) (hx:evalF f x=.int k m) (hy:evalF f y=.int k' m) (ht:P.underlying t=some (.slice e)) (hby:P.bytesOf e=by_) (hbp:Nat.blt 0 by_=true)
  (h0:0≤m) (hb:m * by_≤140737488355328) (h:∀ v,v.oneCell'=true→ExL P n ops rest Q (upd f d v) (RowT v e (List.replicate m.toNat Z.z)::L)) :
  ExL P n ops (⟨some d,.makeSlice t x y,ty,pos,af,none⟩::rest) Q f L:=st_make Z.z hd hx hy ht Z.size rfl hby hbp Z.eq rfl h0 hb h
theorem st_storeR (i:Nat) {t bt:TypeId} {x y:Operand} {g m:Nat} {cs:List Value} {a:α} {L':List Assn} (hx:evalF f x=.pointer (some ⟨g,0,none⟩)) (hi:L[i]?=some (Blk g bt cs)) (hy:evalF f y=.agg (Rep.cells a).toArray) (hm:P.cellsOf t=m) (hsz:Rep.sz α=m) (ho:cs.length=m)
  (hL:L.set i (Blk g bt (Rep.cells a))=L') (h:ExL P n ops rest Q f L'):ExL P n ops (⟨none,.store t x y,ty,pos,af,none⟩::rest) Q f L:=by
 subst hsz
 exact st_storeW_ i hx hi hy (Rep.one a) (by rw [hm,Rep.len]) (by rw [Rep.len];exact Nat.ble_eq_true_of_le (show 0+1≤_ from Rep.pos)) (by rw [Rep.len,ho];simp) hL h
theorem st_slice1T {t e:TypeId} [Z:ZRep P e α] {y:Operand} {a:α} (hd:Nat.blt d n=true) (hy:evalF f y=.agg (Rep.cells a).toArray) (hu:P.underlying t=some (.slice e)) (hmx:Nat.ble (Rep.sz α) 16777216=true)
  (h:∀ g,ExL P n ops rest Q (upd f d (.slice (some ⟨g,0,none⟩) 1 1)) (RowT (.slice (some ⟨g,0,none⟩) 1 1) e [a]::L)):ExL P n ops (⟨some d,.buildSlice t 1 #[(0,y)],ty,pos,af,none⟩::rest) Q f L:=by
 have hzl:(Rep.cells Z.z).length=Rep.sz α:=Rep.len _
 refine st_sliceN (parts:=[(0,y)]) (ps:=[(0,Rep.cells a)]) (vs:=Rep.cells a) [a] hd hu Z.size (Nat.ble_eq_true_of_le (show 0+1≤_ from Rep.pos)) rfl (by rw [Nat.one_mul];exact hmx) Z.eq hzl ⟨rfl,by rw [hy];simp [Value.cells],trivial⟩ ?_ (by simp [cellsOf]) rfl rfl h
 have h1:Nat.beq (Rep.cells a).length (Rep.sz α)=true:=by rw [Rep.len];simp
 have h2:Nat.ble (0 * Rep.sz α+Rep.sz α) (zerosE (Rep.cells Z.z) 1).length=true:=by simp [zerosE,hzl]
 simp only [lay,offE,h1,h2,Bool.and_true]
 have h3:over (zerosE (Rep.cells Z.z) 1) (0 * Rep.sz α) (Rep.cells a)=Rep.cells a:=by
  simp only [over,zerosE,Nat.zero_mul,List.take_zero,List.nil_append,List.append_nil,Nat.zero_add]
  rw [List.drop_eq_nil_of_le (by rw [hzl,Rep.len];exact Nat.le_refl _),List.append_nil]
 rw [h3]
 exact seqL_some _
end
theorem copy_full {α:Type} {xs ys:List α} (h:ys.length=xs.length):ys.take xs.length++xs.drop (min ys.length xs.length)=ys:=by
 rw [← h,List.take_length,Nat.min_self,List.drop_eq_nil_of_le (by omega),List.append_nil]
theorem copy_head {α:Type} {xs ys:List α} (h:ys.length≤xs.length):ys.take xs.length++xs.drop (min ys.length xs.length)=ys++xs.drop ys.length:=by
 rw [List.take_of_length_le h,Nat.min_eq_left h]
theorem Sub.empty {α:Type} [Rep α] (b:Option Addr) (e:TypeId) (L:List Assn):Sub (RowT (.slice b 0 0) e ([]:List α)::L) L:=fun w F s=>Sats.add_empty s (rowT_nil b e)
section
variable {P:Program} {α:Type} [Rep α] {L:List Assn} {F:Frag} {w:World}
theorem row_copy {i:Nat} {v u:Value} {t t2 ty e:TypeId} {xs ys:List α} {sz l h:Nat} (hi:L[i]?=some (RowT v e xs)) (hr:RdT L u ys) (ht:P.underlying t=some (.slice e))
  (hs:P.cellsOf e=sz) (hsz:Rep.sz α=sz) (hlh:l≤h) (hh:h≤xs.length) (dst:Value) (hd:dst=subs v l h sz∨(dst=v∧l=0∧h=xs.length)) (s:Sats w L F) :
  ∃ w',(Builtin.copy_ #[t,t2] ty #[dst,u]).run P w=.ok (.int .i64 (min ys.length (h - l):Nat)) w'∧Rest w w'∧Sats w' (L.set i (RowT v e (xs.take l++ys.take (h - l)++xs.drop (l+min ys.length (h - l))))) F:=by
 subst hsz
 have hp:0<Rep.sz α:=Rep.pos
 obtain ⟨hl,a,cap,rfl,hmc,hcm,han,hcell⟩:=hr w F s
 have hlen:(ys.take (h - l)).length=min ys.length (h - l):=by simp [Nat.min_comm]
 obtain ⟨da,dc,hdst⟩:∃ da dc,dst=.slice da (h - l) dc:=by
  obtain ⟨_,⟨_,b,rfl⟩ | ⟨g,c,cur,rfl,_⟩⟩:=row_heap hi s
  ·rcases hd with rfl | ⟨rfl,rfl,rfl⟩
   ·exact ⟨_,_,rfl⟩
   ·refine ⟨b,0,?_⟩;congr 1;omega
  ·rcases hd with rfl | ⟨rfl,rfl,rfl⟩
   ·exact ⟨_,_,rfl⟩
   ·exact ⟨_,_,rfl⟩
 by_cases hn:min ys.length (h - l)=0
 ·have he:xs.take l++ys.take (h - l)++xs.drop (l+min ys.length (h - l))=xs:=by
   rw [List.eq_nil_of_length_eq_zero (hlen.trans hn),hn];simp
  refine ⟨w,?_,Rest.refl w,by rw [he,list_set_same hi];exact s⟩
  rw [hdst]
  have hn':Nat.min ys.length (h - l)=0:=hn
  cases a <;> cases da <;> simp [Builtin.copy_,run_underlying ht,Builtin.lenOf,Builtin.firstCells,run_sizeOf' w hs hp,hn',loadCells,loadCellsFrom,storeCells,goInt,hn]
 ·cases a with
  | none=>have:=han rfl;omega
  | some ad =>
   have hcl:(cellsOf (ys.take (h - l))).length=min ys.length (h - l) * Rep.sz α:=by rw [cellsOf_len,hlen]
   have hle:l * Rep.sz α+min ys.length (h - l) * Rep.sz α≤xs.length * Rep.sz α:=by
    rw [← Nat.add_mul];exact Nat.mul_le_mul_right _ (by omega)
   have hxx:(cellsOf xs).take (l * Rep.sz α)++cellsOf (ys.take (h - l))++(cellsOf xs).drop (l * Rep.sz α+(cellsOf (ys.take (h - l))).length)=cellsOf (xs.take l++ys.take (h - l)++xs.drop (l+min ys.length (h - l))):=by
    rw [hcl,← Nat.add_mul,cellsOf_take,cellsOf_drop,cellsOf_append,cellsOf_append]
   obtain ⟨g,w',⟨c,hv⟩,hrun,hre,hs2⟩:=row_write (P:=P) (w:=w) (o:=l * Rep.sz α) (us:=cellsOf (ys.take (h - l))) (xs':=xs.take l++ys.take (h - l)++xs.drop (l+min ys.length (h - l))) hi (by rw [hcl];exact hle)
    (by rw [hcl];exact Nat.mul_pos (by omega) hp) (List.all_eq_true.2 (cellsOf_all _)) hxx (by simp;omega) s
   refine ⟨w',?_,hre,hs2⟩
   have hload:=run_loadCells_list (P:=P) w ad (cellsOf (ys.take (h - l))) (fun j u hj=>by
    refine hcell ad rfl j u ?_
    rw [← cellsOf_take,List.getElem?_take] at hj
    split at hj
    ·exact hj
    ·cases hj)
   rw [hcl] at hload
   have hcc:xs.length≤c:=by
    obtain ⟨_,⟨h0,b,hb⟩ | ⟨g2,c2,cur,hb,_,h1,_⟩⟩:=row_heap hi s
    ·omega
    ·rw [hv] at hb;cases hb;exact h1
   have hda:da=some ⟨g,l * Rep.sz α,none⟩:=by
    subst hv
    rcases hd with rfl | ⟨rfl,rfl,rfl⟩
    ·simp only [subs] at hdst
     rw [if_neg (by omega)] at hdst
     cases hdst
     simp [addr_add]
    ·cases hdst;simp
   rw [hdst,hda]
   have hn':Nat.min ys.length (h - l)=min ys.length (h - l):=rfl
   simp [Builtin.copy_,run_underlying ht,Builtin.lenOf,Builtin.firstCells,run_sizeOf' w hs hp,hn',hload,hrun,goInt]
variable {n:Nat} {ops:Array Oper} {Q:Post} {f:Nat→Value} {rest:List Oper} {dd:Option Nat} {ty:TypeId} {pos:String} {af:Array Edge} {gd:Option (Nat×Bool)}
variable {v:Value} {xs ys:List α}
theorem exlCopy {x:Array Operand} {t:Array TypeId} (h:ExL P n ops (⟨dd,.call ⟨.builtin .copy,x,t⟩,ty,pos,af,gd⟩::rest) Q f L):ExL P n ops (⟨dd,.call ⟨.builtin .copy,x,t⟩,ty,pos,af,gd⟩::rest) Q f L:=h
theorem st_copyW (i:Nat) {x y:Operand} {u:Value} {t t2 e:TypeId} {sz:Nat} (hd:dstOk n dd=true) (hx:evalF f x=v) (hi:L[i]?=some (RowT v e xs)) (hy:evalF f y=u) (hr:RdT L u ys) (ht:P.underlying t=some (.slice e)) (hs:P.cellsOf e=sz) (hsz:Rep.sz α=sz)
  (h:∀ zs,zs=ys.take xs.length++xs.drop (min ys.length xs.length)→ExL P n ops rest Q (updo f dd (.int .i64 (min ys.length xs.length:Nat))) (L.set i (RowT v e zs))):ExL P n ops (⟨dd,.call ⟨.builtin .copy,#[x,y],#[t,t2]⟩,ty,pos,af,none⟩::rest) Q f L:=by
 refine ExL.eff rfl hd (R:=fun r L'=>r=.int .i64 (min ys.length xs.length:Nat)∧L'=L.set i (RowT v e (ys.take xs.length++xs.drop (min ys.length xs.length)))) (fun F w s=>?_) (fun v' L' e=>by obtain ⟨rfl,rfl⟩:=e;exact h _ rfl)
 obtain ⟨w',hrun,hre,hsat⟩:=row_copy (P:=P) (t2:=t2) (ty:=ty) (l:=0) (h:=xs.length) hi hr ht hs hsz (Nat.zero_le _) (Nat.le_refl _) v (.inr ⟨rfl,rfl,rfl⟩) s
 simp only [List.take_zero,List.nil_append,Nat.sub_zero,Nat.zero_add] at hsat hrun
 exact ⟨_,w',_,.inl (by simp [execOp,resolve,invoke,builtin,hx,hy,hrun]),hre,hsat,rfl,rfl⟩
theorem st_copyS (i:Nat) {x y:Operand} {u:Value} {t t2 e:TypeId} {sz l k:Nat} (hd:dstOk n dd=true) (hx:evalF f x=subs v l k sz) (hi:L[i]?=some (RowT v e xs)) (hy:evalF f y=u) (hr:RdT L u ys) (ht:P.underlying t=some (.slice e)) (hs:P.cellsOf e=sz) (hsz:Rep.sz α=sz) (hlh:l≤k) (hh:k≤xs.length)
  (h:∀ zs,zs=xs.take l++ys.take (k - l)++xs.drop (l+min ys.length (k - l))→ExL P n ops rest Q (updo f dd (.int .i64 (min ys.length (k - l):Nat))) (L.set i (RowT v e zs))):ExL P n ops (⟨dd,.call ⟨.builtin .copy,#[x,y],#[t,t2]⟩,ty,pos,af,none⟩::rest) Q f L:=by
 refine ExL.eff rfl hd (R:=fun r L'=>r=.int .i64 (min ys.length (k - l):Nat)∧L'=L.set i (RowT v e (xs.take l++ys.take (k - l)++xs.drop (l+min ys.length (k - l))))) (fun F w s=>?_) (fun v' L' e=>by obtain ⟨rfl,rfl⟩:=e;exact h _ rfl)
 obtain ⟨w',hrun,hre,hsat⟩:=row_copy (P:=P) (t2:=t2) (ty:=ty) (l:=l) (h:=k) hi hr ht hs hsz hlh hh _ (.inl rfl) s
 exact ⟨_,w',_,.inl (by simp [execOp,resolve,invoke,builtin,hx,hy,hrun]),hre,hsat,rfl,rfl⟩
end
end
section
theorem kcons {f:Nat→Value} {a:Nat} {l:List Nat} {v:Value} {vs:List Value} (h:f a=v) (t:l.map f=vs):(a::l).map f=v::vs:=by rw [List.map_cons,h,t]
theorem knil {f:Nat→Value}:([]:List Nat).map f=[]:=rfl
section
variable {P:Program} {n:Nat} {Q:Post} {f:Nat→Value} {L:List Assn} {c:Code} {ops:Array Oper} {l:List Oper}
theorem Ex.keep (ss:List Nat) {vs:List Value} (hv:ss.map f=vs) (h:∀ g,Ex P n c Q (upds g ss vs) L):Ex P n c Q f L:=by
 have:=h f
 rw [← hv,upds_self] at this
 exact this
end
def Hid (c:Code):Code:=c
def sufC:Nat→Code→Code
 | 0,c=>c
 | k+1,.seq _ b=>sufC k b
 | _+1,c=>c
def hidC:Nat→Code→Code
 | 0,c=>Hid c
 | k+1,.seq a b=>.seq a (hidC k b)
 | _+1,c=>Hid c
theorem hidC_eq:∀ (k:Nat) (c:Code),hidC k c=c
 | 0,c=>rfl
 | k+1,c=>by
  cases c with
  | seq a b=>show Code.seq a (hidC k b)=_;rw [hidC_eq k b]
  | _=>rfl
section
variable {P:Program} {n:Nat} {Q:Post} {f:Nat→Value} {L:List Assn} {c y:Code} {ops:Array Oper} {l:List Oper}
theorem Ex.claim (k:Nat) (ss:List Nat) (I:List Value→List Assn→Prop) (hy:∀ vs g L',I vs L'→Ex P n (sufC k c) Q (upds g ss vs) L')
  (hx:(∀ f L,(∃ L',Sub L' L∧I (ss.map f) L')→Ex P n (Hid (sufC k c)) Q f L)→Ex P n (hidC k c) Q f L):Ex P n c Q f L:=by
 rw [hidC_eq] at hx
 refine hx fun f L ⟨L',hs,h⟩=>?_
 have:=hy _ f L' h
 rw [upds_self] at this
 exact Ex.sub this hs
theorem ExL.claim (k:Nat) (ss:List Nat) (I:List Value→List Assn→Prop) (hy:∀ vs g L',I vs L'→Ex P n (sufC k y) Q (upds g ss vs) L')
  (hx:(∀ f L,(∃ L',Sub L' L∧I (ss.map f) L')→Ex P n (Hid (sufC k y)) Q f L)→ExL P n ops l (thn P n (hidC k y) Q) f L):ExL P n ops l (thn P n y Q) f L:=by
 rw [hidC_eq] at hx
 refine hx fun f L ⟨L',hs,h⟩=>?_
 have:=hy _ f L' h
 rw [upds_self] at this
 exact Ex.sub this hs
theorem ExL.halt (k:Nat) (h:ExL P n ops l (thn P n (hidC k y) Q) f L):ExL P n ops l (thn P n y Q) f L:=by rw [hidC_eq] at h;exact h
theorem Ex.go (h:Ex P n c Q f L):Ex P n (Hid c) Q f L:=h
end
section
variable {P:Program} {n:Nat} {ops:Array Oper} {Q:Post} {f:Nat→Value} {L:List Assn} {α:Type} [Rep α]
variable {kd:Nat→Nat} {Lb:List Assn} {Z:(Nat→Value)→List Assn→Prop} {i:Nat} {l:List (Nat×Oper)} {d:Nat} {ty:TypeId} {pos:String} {af:Array Edge}
theorem mx_slice1T {t e:TypeId} [Z2:ZRep P e α] {y:Operand} {a:α} (hk:kd i=1) (hy:evalF f y=.agg (Rep.cells a).toArray) (hu:P.underlying t=some (.slice e)) (hmx:Nat.ble (Rep.sz α) 16777216=true)
  (h:∀ g,Mix P n ops kd Lb Z l (upd f d (.slice (some ⟨g,0,none⟩) 1 1)) (RowT (.slice (some ⟨g,0,none⟩) 1 1) e [a]::L)):Mix P n ops kd Lb Z ((i,⟨some d,.buildSlice t 1 #[(0,y)],ty,pos,af,none⟩)::l) f L:=by
 have hzl:(Rep.cells Z2.z).length=Rep.sz α:=Rep.len _
 have hl:((lay (offE (Rep.sz α)) (zerosE (Rep.cells Z2.z) 1) [(0,Rep.cells a)]).bind seqL)=some (Rep.cells a):=by
  have h1:Nat.beq (Rep.cells a).length (Rep.sz α)=true:=by rw [Rep.len];simp
  have h2:Nat.ble (0 * Rep.sz α+Rep.sz α) (zerosE (Rep.cells Z2.z) 1).length=true:=by simp [zerosE,hzl]
  simp only [lay,offE,h1,h2,Bool.and_true]
  have h3:over (zerosE (Rep.cells Z2.z) 1) (0 * Rep.sz α) (Rep.cells a)=Rep.cells a:=by
   simp only [over,zerosE,Nat.zero_mul,List.take_zero,List.nil_append,List.append_nil,Nat.zero_add]
   rw [List.drop_eq_nil_of_le (by rw [hzl,Rep.len];exact Nat.le_refl _),List.append_nil]
  rw [h3]
  exact seqL_some _
 refine mx_new (obj:=.cells (Rep.cells a).toArray e) (mk:=fun g=>.slice (some ⟨g,0,none⟩) 1 1) (fun g=>RowT (.slice (some ⟨g,0,none⟩) 1 1) e [a]) hk rfl rfl (fun w=>?_) (fun g=>?_) h
 ·have hrun:=run_buildSlice (P:=P) (w:=w) (f:=f) (parts:=[(0,y)]) (ps:=[(0,Rep.cells a)]) hu Z2.size (Nat.ble_eq_true_of_le (show 0+1≤_ from Rep.pos)) (show Nat.blt 0 1=true by rfl) (by rw [Nat.one_mul];exact hmx) Z2.eq hzl ⟨rfl,by rw [hy];simp [Value.cells],trivial⟩ hl
  simp only [execOp,Sem.run_bind,hrun,Result.andThen_ok,Sem.run_pure]
 ·refine ⟨cellsOf_len _,.inr ⟨g,_,_,rfl,rfl,Nat.le_refl _,by unfold maxLen;simp,by simp [Rep.len],by simp [cellsOf,← Rep.len a]⟩⟩
end
def Capd (v:Value) (n:Nat):Prop:=∃ a c,v=.slice a n c∧n≤c∧c≤maxLen
theorem RdT.capd {α:Type} [Rep α] {L:List Assn} {v:Value} {xs:List α} (hr:RdT L v xs) (w:World) (F:Frag) (s:Sats w L F):Capd v xs.length:=by
 obtain ⟨a,c,h1,h2,h3⟩:=hr.cap s
 exact ⟨a,c,h1,h2,h3⟩
section
variable {P:Program} {n:Nat} {ops:Array Oper} {Q:Post} {f:Nat→Value} {L:List Assn} {d:Nat} {ty:TypeId} {pos:String} {af:Array Edge} {gd:Option (Nat×Bool)} {v:Value} {q:Nat}
theorem vl_lenc {x:Operand} {t e:TypeId} (hx:evalF f x=v) (hu:P.underlying t=some (.slice e)) (hc:Capd v q) :
  Val P ⟨some d,.call ⟨.builtin .len,#[x],#[t]⟩,ty,pos,af,gd⟩ f L (.int .i64 q):=fun F w s=>by
 obtain ⟨a,c,rfl,_,_⟩:=hc
 simp [execOp,resolve,invoke,builtin,hx,Builtin.len_,run_underlying hu,goInt]
theorem vl_slHc {t e:TypeId} {x y:Operand} {k:IntKind} {h:Int} {sz:Nat} (hx:evalF f x=v) (hy:evalF f y=.int k h) (hu:P.underlying t=some (.slice e)) (hs:P.cellsOf e=sz) (hp:Nat.blt 0 sz=true) (hc:Capd v q) (h0:0≤h) (h1:h≤(q:Int)) :
  Val P ⟨some d,.slice t x none (some y) none,ty,pos,af,gd⟩ f L (subs v 0 h.toNat sz):=fun F w s=>by
 obtain ⟨a,c,rfl,hc,_⟩:=hc
 have:=run_sl (P:=P) (w:=w) (a:=a) (k:=q) (c:=c) (lo:=none) (hi:=some (.int k h)) (mx:=none) hu hs (Nat.le_of_ble_eq_true hp) (l:=0) (h:=h.toNat) (m:=c) (by
  simp only [Instr.sliceBounds,Sem.run_bind,Sem.run_pure,Result.andThen_ok,run_bd h0 (show h≤(c:Int) by omega)])
 simp [execOp,hx,hy,this,subs]
theorem vl_slLc {t e:TypeId} {x y:Operand} {k:IntKind} {l:Int} {sz:Nat} (hx:evalF f x=v) (hy:evalF f y=.int k l) (hu:P.underlying t=some (.slice e)) (hs:P.cellsOf e=sz) (hp:Nat.blt 0 sz=true) (hc:Capd v q) (h0:0≤l) (h1:l≤(q:Int)) :
  Val P ⟨some d,.slice t x (some y) none none,ty,pos,af,gd⟩ f L (subs v l.toNat q sz):=fun F w s=>by
 obtain ⟨a,c,rfl,hc,_⟩:=hc
 have:=run_sl (P:=P) (w:=w) (a:=a) (k:=q) (c:=c) (lo:=some (.int k l)) (hi:=none) (mx:=none) hu hs (Nat.le_of_ble_eq_true hp) (l:=l.toNat) (h:=q) (m:=c) (by
  simp only [Instr.sliceBounds,Sem.run_bind,Sem.run_pure,Result.andThen_ok,run_bd h0 h1])
 simp [execOp,hx,hy,this,subs]
end
section
variable {α:Type} [Rep α]
theorem row_shift {P:Program} {w:World} {L:List Assn} {F:Frag} {v:Value} {e t ty:TypeId} {xs:List α} {sz i j r:Nat} (hi:L[r]?=some (RowT v e xs)) (ht:P.underlying t=some (.slice e))
  (hs:P.cellsOf e=sz) (hsz:Rep.sz α=sz) (hij:i<j) (hjk:j≤xs.length) (s:Sats w L F) :
  ∃ w',(Builtin.append_ #[t,t] ty #[subs v 0 i sz,subs v j xs.length sz]).run P w=.ok (subs v 0 (i+(xs.length - j)) sz) w'∧Rest w w'∧Sats w' (L.set r (RowT v e (xs.take i++xs.drop j++xs.drop (i+(xs.length - j))))) F:=by
 have hp:0<sz:=by rw [← hsz];exact Rep.pos
 obtain ⟨inf,hinf,hsize⟩:∃ inf,P.info? e=some inf∧inf.size=sz:=by
  unfold Program.cellsOf at hs
  cases hh:P.info? e with
  | none=>rw [hh] at hs;simp at hs;omega
  | some x=>rw [hh] at hs;exact ⟨x,rfl,by simpa using hs⟩
 obtain ⟨hl,hv⟩:=row_heap hi s
 have hsrc:=(RdT.off (RdT.row r hi) hjk hsz rfl) w F s
 rcases hv with ⟨h0,_⟩ | ⟨g,cap,cur,rfl,hg,hk,hm,hz,htk⟩
 ·omega
 have hc0:¬ cap=0:=by omega
 have e0:∀ h,subs (.slice (some ⟨g,0,none⟩) xs.length cap) 0 h sz=.slice (some ⟨g,0,none⟩) h cap:=fun h=>by simp [subs,hc0,addr_add]
 have e1:∃ a,subs (.slice (some ⟨g,0,none⟩) xs.length cap) j xs.length sz=.slice (some a) (xs.length - j) (cap - j):=by
  by_cases hcj:cap=j
  ·exact ⟨⟨g,0,none⟩,by simp [subs,hcj]⟩
  ·exact ⟨_,by simp only [subs,if_neg hcj];rfl⟩
 obtain ⟨a,ea⟩:=e1
 rw [ea] at hsrc
 have hdl:(xs.drop j).length=xs.length - j:=by simp
 rw [hdl] at hsrc
 obtain ⟨hl2,a',c',he,_,_,_,hcell⟩:=hsrc
 cases he
 have hnews:=hcell a rfl
 have hroom:i+(xs.length - j)≤cap:=by omega
 have hf:=run_firstCells_some (P:=P) w sz (xs.length - j) a (xs.length - j) (cap - j) (cellsOf (xs.drop j)) (by rw [cellsOf_len,hsz,hdl]) hnews
 have key:∃ w',(storeCells ⟨g,i * sz,none⟩ (cellsOf (xs.drop j)) 0).run P w=.ok () w'∧Rest w w'∧Sats w' (L.set r (RowT (.slice (some ⟨g,0,none⟩) xs.length cap) e (xs.take i++xs.drop j++xs.drop (i+(xs.length - j))))) F:=by
  by_cases hjx:j=xs.length
  ·subst hjx
   refine ⟨w,by simp [cellsOf,storeCells],Rest.refl w,?_⟩
   have:xs.take i++xs.drop xs.length++xs.drop (i+(xs.length - xs.length))=xs:=by simp
   rw [this,list_set_same hi];exact s
  ·have hdp:0<(cellsOf (xs.drop j)).length:=by rw [cellsOf_len,hdl];exact Nat.mul_pos (by omega) Rep.pos
   obtain ⟨g',w',⟨c2,he2⟩,hrun,hre,hsat⟩:=row_write (P:=P) (w:=w) (o:=i * sz) (us:=cellsOf (xs.drop j)) (xs':=xs.take i++xs.drop j++xs.drop (i+(xs.length - j))) hi (by
     rw [cellsOf_len,hdl,← hsz,← Nat.add_mul];exact Nat.mul_le_mul_right _ (by omega)) hdp (by rw [List.all_eq_true];exact cellsOf_all _) (by
     rw [cellsOf_len,hdl,← hsz,← Nat.add_mul,cellsOf_append,cellsOf_append,cellsOf_take,cellsOf_drop]) (by simp;omega) s
   cases he2
   exact ⟨w',hrun,hre,hsat⟩
 obtain ⟨w',hrun,hre,hsat⟩:=key
 refine ⟨w',?_,hre,hsat⟩
 rw [e0,e0,ea]
 simp [Builtin.append_,run_underlying ht,sizeOf,typeInfo,hinf,hsize,Builtin.lenOf,hroom,hf,addr_add,hrun]
section
variable {P:Program} {n:Nat} {ops:Array Oper} {Q:Post} {f:Nat→Value} {L:List Assn} {rest:List Oper} {d:Nat} {ty:TypeId} {pos:String} {af:Array Edge} {gd:Option (Nat×Bool)}
theorem st_shift (r:Nat) {x y:Operand} {v:Value} {t e:TypeId} {xs:List α} {sz i j k:Nat} (hd:Nat.blt d n=true) (hx:evalF f x=subs v 0 i sz) (hy:evalF f y=subs v j k sz) (hi:L[r]?=some (RowT v e xs)) (hk:k=xs.length) (ht:P.underlying t=some (.slice e))
  (hs:P.cellsOf e=sz) (hsz:Rep.sz α=sz) (hij:i<j) (hjk:j≤xs.length)
  {L2:List Assn} (hL:L.set r (RowT v e (xs.take i++xs.drop j++xs.drop (i+(xs.length - j))))=L2) (h:ExL P n ops rest Q (upd f d (subs v 0 (i+(xs.length - j)) sz)) L2):ExL P n ops (⟨some d,.call ⟨.builtin .append,#[x,y],#[t,t]⟩,ty,pos,af,none⟩::rest) Q f L:=by
 subst hk;subst hL
 refine ExL.eff rfl hd (R:=fun v2 L'=>v2=subs v 0 (i+(xs.length - j)) sz∧L'=L.set r (RowT v e (xs.take i++xs.drop j++xs.drop (i+(xs.length - j))))) (fun F w s=>?_) (fun v' L' e=>by obtain ⟨rfl,rfl⟩:=e;exact h)
 obtain ⟨w',hrun,hre,hsat⟩:=row_shift (P:=P) (ty:=ty) hi ht hs hsz hij hjk s
 exact ⟨_,w',_,.inl (by simp [execOp,resolve,invoke,builtin,hx,hy,hrun]),hre,hsat,rfl,rfl⟩
theorem st_clearT (i:Nat) {x:Operand} {v:Value} {xs:List α} {t e:TypeId} [Z:ZRep P e α] {l k sz:Nat} {L':List Assn} (hx:evalF f x=subs v l k sz) (hi:L[i]?=some (RowT v e xs)) (hk:k=xs.length) (hsz:Rep.sz α=sz) (ht:P.underlying t=some (.slice e)) (hl:l≤xs.length)
  (hL:L.set i (RowT v e (xs.take l++List.replicate (xs.length - l) Z.z))=L') (h:ExL P n ops rest Q f L'):ExL P n ops (⟨none,.call ⟨.builtin .clear,#[x],#[t]⟩,ty,pos,af,none⟩::rest) Q f L:=by
 subst hL
 exact st_clear i Z.z hx hi hk hsz ht Z.eq rfl hl h
theorem vl_slBeyond (r:Nat) {x y z:Operand} {v:Value} {t e:TypeId} {xs:List α} {k k':IntKind} {a0 b0:Int} {h m:Nat} {sz:Nat} (hx:evalF f x=subs v 0 h sz) (hy:evalF f y=.int k a0) (hz:evalF f z=.int k' b0) (hi:L[r]?=some (RowT v e xs)) (hu:P.underlying t=some (.slice e))
  (hs:P.cellsOf e=sz) (hsz:Rep.sz α=sz) (ha:a0=(h:Int)) (hb:b0.toNat=m) (hb0:0≤b0) (hlh:h≤b0.toNat) (h1:b0.toNat≤xs.length):Val P ⟨some d,.slice t x (some y) (some z) none,ty,pos,af,gd⟩ f L (subs v h m sz):=fun F w s=>by
 subst ha;subst hb
 obtain ⟨m,rfl⟩:=Int.eq_ofNat_of_zero_le hb0
 simp only [Int.toNat_natCast] at *
 have hp:0<sz:=by rw [← hsz];exact Rep.pos
 obtain ⟨_,hv⟩:=row_heap hi s
 have hv2:∃ a c,v=.slice a xs.length c∧xs.length≤c∧(0<c∨h=0):=by
  rcases hv with ⟨h0,b,rfl⟩ | ⟨g,cap,cur,rfl,hg,hk,hm,hz,htk⟩
  ·exact ⟨b,0,by rw [h0],by omega,.inr (by omega)⟩
  ·exact ⟨_,cap,rfl,hk,by omega⟩
 obtain ⟨a,c,rfl,hc,hc0⟩:=hv2
 have e0:subs (.slice a xs.length c) 0 h sz=.slice a h c:=by
  simp only [subs,Nat.zero_mul,Nat.sub_zero]
  congr 1
  split
  ·rfl
  ·cases a <;> simp [Addr.add]
 rw [e0] at hx
 have:=run_sl (P:=P) (w:=w) (a:=a) (k:=h) (c:=c) (lo:=some (.int k (h:Int))) (hi:=some (.int k' (m:Int))) (mx:=none) hu hs hp (l:=h) (h:=m) (m:=c) (by
  simp only [Instr.sliceBounds,Sem.run_bind,Sem.run_pure,Result.andThen_ok,run_bd (show (0:Int)≤m by omega) (show (m:Int)≤(c:Int) by omega),run_bd (show (0:Int)≤h by omega) (show (h:Int)≤((m:Nat):Int) by omega),Int.toNat_natCast])
 simp [execOp,hx,hy,hz,this,subs]
theorem vl_slLHM {x y z u:Operand} {v:Value} {t e:TypeId} {xs:List α} {k k' k2:IntKind} {l h m:Int} {sz:Nat} (hx:evalF f x=v) (hy:evalF f y=.int k l) (hz:evalF f z=.int k' h) (hm:evalF f u=.int k2 m) (hu:P.underlying t=some (.slice e)) (hr:RdT L v xs) (hs:P.cellsOf e=sz) (hp:Nat.blt 0 sz=true) (h0:0≤l) (hlh:l≤h) (hhm:h≤m) (h1:m≤(xs.length:Int)) :
  Val P ⟨some d,.slice t x (some y) (some z) (some u),ty,pos,af,gd⟩ f L (subs3 v l.toNat h.toNat m.toNat sz):=fun F w s=>by
 obtain ⟨a,c,rfl,hc,_⟩:=hr.cap s
 have:=run_sl (P:=P) (w:=w) (a:=a) (k:=xs.length) (c:=c) (lo:=some (.int k l)) (hi:=some (.int k' h)) (mx:=some (.int k2 m)) hu hs (Nat.le_of_ble_eq_true hp) (l:=l.toNat) (h:=h.toNat) (m:=m.toNat) (by
  simp only [Instr.sliceBounds,Sem.run_bind,Sem.run_pure,Result.andThen_ok,run_bd (show 0≤m by omega) (show m≤(c:Int) by omega),run_bd (show 0≤h by omega) (show h≤(m.toNat:Int) by omega),run_bd h0 (show l≤(h.toNat:Int) by omega)])
 simp [execOp,hx,hy,hz,hm,this,subs3]
end
end
end
section
section
variable {P:Program} {n:Nat} {ops:Array Oper} {Q:Post} {f:Nat→Value} {L:List Assn} {rest:List Oper} {d:Nat} {ty:TypeId} {pos:String} {af:Array Edge} {gd:Option (Nat×Bool)}
theorem vl_makeClo {fn:Go.Fn} {first caps:List Operand} {vs us:List Value} (h:first.map (evalF f)=vs) (h2:caps.map (evalF f)=us):Val P ⟨some d,.makeFunc fn first.toArray caps.toArray,ty,pos,af,gd⟩ f L (.func fn vs.toArray us.toArray):=fun F w s=>by
 subst h;subst h2
 simp [execOp,Instr.makeFunc]
theorem st_callC (is:List Nat) {dd:Option Nat} {x:Operand} {fn:FuncId} {xs:List Operand} {fs us vs:List Value} {ts:Array TypeId} {L1:List Assn} {R:Value→List Assn→Prop} (hd:dstOk n dd=true) (hx:evalF f x=.func (.func fn) fs.toArray us.toArray)
  (hrun:∀ (xs:Array Value) (w:World),(callFunc fn xs).run P w=.ok (.enter fn xs) w) (hl:fronts is L=L1) (ha:xs.map (evalF f)=vs) (hf:Fn P fn (fs++vs++us).toArray L1 R) (h:∀ v L',R v L'→ExL P n ops rest Q (updo f dd v) L') :
  ExL P n ops (⟨dd,.call ⟨.value x,xs.toArray,ts⟩,ty,pos,af,none⟩::rest) Q f L:=by
 have hf:=hf.sub (L:=L) (by subst hl;exact fronts_sub is L)
 intro D F w0 f0 ws a w H hc
 refine wpList_plain rfl fun K hK=>?_
 have hx2:(execOp a.eval ⟨dd,.call ⟨.value x,xs.toArray,ts⟩,ty,pos,af,none⟩).run P w=.ok (.enter fn (fs++vs++us).toArray) w:=by
  rw [H.2.1.eval]
  subst ha
  unfold execOp
  simp [resolve,Deferred.ofValue,hx,invoke,hrun]
 unfold Oper.wp
 rw [hx2]
 show Calls P fn _ w _
 refine (hf F w0 w H.1 H.2.2.1).mono ?_
 rintro e w' ⟨v,L',rfl,hr,hs,hR⟩
 have hp:Here D n F w0 f0 ws (a.put dd v) w' (updo f dd v) L':=by
  have:=Here.puto (w':=w) H (Rest.refl w) H.2.2.1 hd (fun t ht=>hc t (mem_writesL (o:=⟨dd,.call ⟨.value x,xs.toArray,ts⟩,ty,pos,af,none⟩) (t:=0) ht)) v
  exact ⟨hr,this.2.1,hs,this.2.2.2⟩
 exact hK _ _ (h v L' hR D F w0 f0 ws _ _ hp fun d hd=>hc d (mem_writesL' hd))
end
section
variable {P:Program} {n:Nat} {ops:Array Oper} {Q:Post} {f:Nat→Value} {L:List Assn} {rest:List Oper} {d:Nat} {ty:TypeId} {pos:String} {af:Array Edge} {gd:Option (Nat×Bool)}
theorem lay_one {zs:List Value} {v:Value} (hzl:zs.length=1):((lay (offE 1) (zerosE zs 1) [(0,[v])]).bind seqL)=some [v]:=by
 match zs,hzl with
 | [z],_=>simp only [lay,offE,zerosE,List.append_nil,List.length_cons,List.length_nil,Nat.zero_mul];exact seqL_some [v]
theorem st_slice1V {α:Type} [Rep α] (a:α) {t e:TypeId} {y:Operand} {v:Value} {zs:List Value} (hd:Nat.blt d n=true) (hy:evalF f y=v) (h1:v.oneCell'=true) (hu:P.underlying t=some (.slice e)) (hs:P.cellsOf e=1) (hz:zeroC P e=some zs) (hzl:zs.length=1) (ha:Rep.cells a=[v])
  (h:∀ g,ExL P n ops rest Q (upd f d (.slice (some ⟨g,0,none⟩) 1 1)) (RowT (.slice (some ⟨g,0,none⟩) 1 1) e [a]::L)):ExL P n ops (⟨some d,.buildSlice t 1 #[(0,y)],ty,pos,af,none⟩::rest) Q f L :=
 st_sliceN (parts:=[(0,y)]) (ps:=[(0,[v])]) (vs:=[v]) [a] hd hu hs rfl rfl rfl hz hzl ⟨rfl,by rw [hy,cells_one h1],trivial⟩ (lay_one hzl) (by simp [cellsOf,ha]) rfl (by rw [← Rep.len a,ha];rfl) h
theorem u8_cell {b:Int} (h0:0≤b) (h1:b≤255):Rep.cells (UInt8.ofNat b.toNat)=[Value.int .u8 b]:=by
 show [Value.int .u8 ((UInt8.ofNat b.toNat).toNat:Int)]=[Value.int .u8 b]
 have:((UInt8.ofNat b.toNat).toNat:Int)=b:=by simp;omega
 rw [this]
theorem st_slice1B {t e:TypeId} {y:Operand} {b:Int} {zs:List Value} (hd:Nat.blt d n=true) (hy:evalF f y=.int .u8 b) (hu:P.underlying t=some (.slice e)) (hs:P.cellsOf e=1) (hz:zeroC P e=some zs) (hzl:zs.length=1) (h0:0≤b) (h1:b≤255)
  (h:∀ g,ExL P n ops rest Q (upd f d (.slice (some ⟨g,0,none⟩) 1 1)) (RowT (.slice (some ⟨g,0,none⟩) 1 1) e [UInt8.ofNat b.toNat]::L)):ExL P n ops (⟨some d,.buildSlice t 1 #[(0,y)],ty,pos,af,none⟩::rest) Q f L :=
 st_slice1V (UInt8.ofNat b.toNat) hd hy rfl hu hs hz hzl (u8_cell h0 h1) h
variable {kd:Nat→Nat} {Lb:List Assn} {Z:(Nat→Value)→List Assn→Prop} {i:Nat} {l:List (Nat×Oper)}
theorem mx_slice1V {α:Type} [Rep α] (a:α) {t e:TypeId} {y:Operand} {v:Value} {zs:List Value} (hk:kd i=1) (hy:evalF f y=v) (h1:v.oneCell'=true) (hu:P.underlying t=some (.slice e)) (hs:P.cellsOf e=1) (hz:zeroC P e=some zs) (hzl:zs.length=1) (ha:Rep.cells a=[v])
  (h:∀ g,Mix P n ops kd Lb Z l (upd f d (.slice (some ⟨g,0,none⟩) 1 1)) (RowT (.slice (some ⟨g,0,none⟩) 1 1) e [a]::L)):Mix P n ops kd Lb Z ((i,⟨some d,.buildSlice t 1 #[(0,y)],ty,pos,af,none⟩)::l) f L:=by
 have hsz:Rep.sz α=1:=by rw [← Rep.len a,ha];rfl
 refine mx_new (obj:=.cells [v].toArray e) (mk:=fun g=>.slice (some ⟨g,0,none⟩) 1 1) (fun g=>RowT (.slice (some ⟨g,0,none⟩) 1 1) e [a]) hk rfl rfl (fun w=>?_) (fun g=>?_) h
 ·have hrun:=run_buildSlice (P:=P) (w:=w) (f:=f) (parts:=[(0,y)]) (ps:=[(0,[v])]) (sz:=1) hu hs rfl (show Nat.blt 0 1=true by rfl) rfl hz hzl ⟨rfl,by rw [hy,cells_one h1],trivial⟩ (lay_one hzl)
  simp only [execOp,Sem.run_bind,hrun,Result.andThen_ok,Sem.run_pure]
 ·refine ⟨cellsOf_len _,.inr ⟨g,1,_,rfl,rfl,Nat.le_refl _,by unfold maxLen;omega,by simp [hsz],by simp [hsz,cellsOf,ha]⟩⟩
end
section
variable {P:Program} {n:Nat} {ops:Array Oper} {Q:Post} {f:Nat→Value} {L:List Assn} {rest:List Oper} {d:Nat} {ty:TypeId} {pos:String} {af:Array Edge} {gd:Option (Nat×Bool)}
theorem lay_two {zs:List Value} {v u:Value} (hzl:zs.length=1):((lay (offE 1) (zerosE zs 2) [(0,[v]),(1,[u])]).bind seqL)=some [v,u]:=by
 match zs,hzl with
 | [z],_=>simp only [lay,offE,zerosE,List.append_nil,List.length_cons,List.length_nil,Nat.zero_mul,Nat.one_mul];exact seqL_some [v,u]
theorem st_slice2B {t e:TypeId} {x y:Operand} {a b:Int} {zs:List Value} (hd:Nat.blt d n=true) (hx:evalF f x=.int .u8 a) (hy:evalF f y=.int .u8 b) (hu:P.underlying t=some (.slice e)) (hs:P.cellsOf e=1) (hz:zeroC P e=some zs) (hzl:zs.length=1) (ha:0≤a) (ha1:a≤255) (h0:0≤b) (h1:b≤255)
  (h:∀ g,ExL P n ops rest Q (upd f d (.slice (some ⟨g,0,none⟩) 2 2)) (RowT (.slice (some ⟨g,0,none⟩) 2 2) e [UInt8.ofNat a.toNat,UInt8.ofNat b.toNat]::L)):ExL P n ops (⟨some d,.buildSlice t 2 #[(0,x),(1,y)],ty,pos,af,none⟩::rest) Q f L :=
 st_sliceN (parts:=[(0,x),(1,y)]) (ps:=[(0,[.int .u8 a]),(1,[.int .u8 b])]) (vs:=[.int .u8 a,.int .u8 b]) [UInt8.ofNat a.toNat,UInt8.ofNat b.toNat] hd hu hs rfl rfl rfl hz hzl ⟨rfl,by rw [hx];rfl,rfl,by rw [hy];rfl,trivial⟩ (lay_two hzl) (by show Rep.cells _++(Rep.cells _++[])=_;rw [u8_cell ha ha1,u8_cell h0 h1];rfl) rfl rfl h
theorem st_slice1S {t e:TypeId} {y:Operand} {l:List UInt8} {zs:List Value} (hd:Nat.blt d n=true) (hy:evalF f y=.string (S l)) (hu:P.underlying t=some (.slice e)) (hs:P.cellsOf e=1) (hz:zeroC P e=some zs) (hzl:zs.length=1)
  (h:∀ g,ExL P n ops rest Q (upd f d (.slice (some ⟨g,0,none⟩) 1 1)) (RowT (.slice (some ⟨g,0,none⟩) 1 1) e [(⟨l⟩:Txt)]::L)):ExL P n ops (⟨some d,.buildSlice t 1 #[(0,y)],ty,pos,af,none⟩::rest) Q f L :=
 st_slice1V (⟨l⟩:Txt) hd hy rfl hu hs hz hzl rfl h
variable {kd:Nat→Nat} {Lb:List Assn} {Z:(Nat→Value)→List Assn→Prop} {i:Nat} {l:List (Nat×Oper)}
end
theorem Sub.fr (is:List Nat) {A C C':List Assn} (e:fronts is C=C') (h:Sub A C'):Sub A C:=by
 subst e;exact Sub.trans h (fronts_sub is C)
def FnD (P:Program) (k:FuncId) (args:Array Value) (L:List Assn) (R:Value→List Assn→Prop):Prop :=
 ∀ F w0 w,Rest w0 w→Sats w L F→CallsD P k args .returning w fun e u w'=>u=.returning∧∃ v L',e=.returned v∧Rest w0 w'∧Sats w' L' F∧R v L'
theorem FnD.of_ex {P:Program} {k:FuncId} {fn:Func} {c:Code} {args:Array Value} {L:List Assn} {R:Value→List Assn→Prop} {n:Nat} (hf:P.funcs[k]?=some fn) (hb:fn.body=some c) (hnn:fn.ntmps=n) (hn:Nat.ble args.size n=true)
  (h:Ex P n c (fin P fn R) (frame0 args) L):FnD P k args L R:=by
 subst hnn
 have hn:=Nat.le_of_ble_eq_true hn
 intro F w0 w r s
 refine callsD_of_wp hf hb ?_
 have ag:Agree [] fn.ntmps { tmps:=args++Array.replicate (fn.ntmps - args.size) undef,defers:=[] } (frame0 args):=by
  refine ⟨rfl,by simp;omega,fun t=>?_⟩
  simp only [frame0,Array.getD_eq_getD_getElem?,List.getD_eq_getElem?_getD,Array.getElem?_toList]
  by_cases ht:t<args.size
  ·rw [Array.getElem?_append_left ht]
  ·rw [Array.getElem?_append_right (by omega),Array.getElem?_replicate,Array.getElem?_eq_none (show args.size≤t by omega)]
   split <;> rfl
 refine wp_mono (h [] F w0 (frame0 args) (fun _=>true) _ w ⟨r,ag,s,fun t ht=>by cases ht⟩ (fun _ _=>rfl)) ?_
 rintro e a w ⟨f,L',⟨r,ag,s,_⟩,q⟩
 cases e with
 | normal=>obtain ⟨v,L2,hv,hs,hR⟩:=q;exact ⟨ag.1,v,hv F w a.tmps ag.2.2 s,v,L2,rfl,r,hs w F s,hR⟩
 | ret=>obtain ⟨v,L2,hv,hs,hR⟩:=q;exact ⟨ag.1,v,hv F w a.tmps ag.2.2 s,v,L2,rfl,r,hs w F s,hR⟩
 | _=>exact q.elim
theorem FnD.sub {P:Program} {k:FuncId} {args:Array Value} {L L':List Assn} {R:Value→List Assn→Prop} (h:FnD P k args L' R) (hs:Sub L' L):FnD P k args L R:=fun F w0 w r s=>h F w0 w r (hs w F s)
theorem FnD.mono {P:Program} {k:FuncId} {args:Array Value} {L:List Assn} {R R':Value→List Assn→Prop} (h:FnD P k args L R) (hr:∀ v L',R v L'→R' v L'):FnD P k args L R':=fun F w0 w r s =>
 (h F w0 w r s).mono fun e u w' ⟨hu,v,L',he,hr',hs,hR⟩=>⟨hu,v,L',he,hr',hs,hr v L' hR⟩
def finD (P:Program) (fn:Func) (R:Value→List Assn→Prop) (kf:FuncId) (us:List Value):Post
 | .normal,f,L | .ret,f,L=>FnD P kf us.toArray L fun _ L1=>∃ v L',ResV P fn f L1 v∧Sub L' L1∧R v L'
 | _,_,_=>False
theorem finD_ret {P:Program} {fn:Func} {R:Value→List Assn→Prop} {kf:FuncId} {us:List Value} {f:Nat→Value} {L:List Assn} (h:FnD P kf us.toArray L fun _ L1=>∃ v L',ResV P fn f L1 v∧Sub L' L1∧R v L'):finD P fn R kf us .ret f L:=h
def seqs:List Code→Code→Code
 | [],y=>y
 | x::l,y=>.seq x (seqs l y)
def ExS (P:Program) (n:Nat) (Z:Post):List Code→(Nat→Value)→List Assn→Prop
 | [],f,L=>Z .normal f L
 | x::l,f,L=>Ex P n x (fun e f L=>match e with | .normal=>ExS P n Z l f L | e=>Z e f L) f L
def thnS (P:Program) (n:Nat) (Z:Post) (l:List Code):Post
 | .normal,f,L=>ExS P n Z l f L
 | e,f,L=>Z e f L
section
variable {P:Program} {n:Nat} {Z:Post} {x:Code} {l:List Code} {f:Nat→Value} {L:List Assn}
theorem ExS.cons (h:Ex P n x (thnS P n Z l) f L):ExS P n Z (x::l) f L:=h.mono fun e f L q=>by cases e <;> exact q
theorem ExS.nil (h:Z .normal f L):ExS P n Z [] f L:=h
theorem thnS_n (h:ExS P n Z l f L):thnS P n Z l .normal f L:=h
theorem thnS_ret (h:Z .ret f L):thnS P n Z l .ret f L:=h
end
theorem exS_wp {P:Program} {n:Nat} {Z:Post} {y:Code} {Q:Exit→Act→World→Prop} {D:List Deferred} {F:Frag} {w0:World} {f0:Nat→Value}
  (hy:∀ f L a w,Here D n F w0 f0 (fun _=>true) a w f L→Z .normal f L→y.wp P Q a w) (hz:∀ e f L a w,e≠.normal→Here D n F w0 f0 (fun _=>true) a w f L→Z e f L→Q e a w) :
  ∀ (l:List Code) (f:Nat→Value) (L:List Assn) (a:Act) (w:World),Here D n F w0 f0 (fun _=>true) a w f L→ExS P n Z l f L→(seqs l y).wp P Q a w
 | [],f,L,a,w,H,h=>hy f L a w H h
 | x::l,f,L,a,w,H,h=>wp_seq (wp_mono (h D F w0 f0 (fun _=>true) a w H (fun _ _=>rfl)) fun e a w ⟨f,L,H,q⟩=>by
  cases e with
  | normal=>exact exS_wp hy hz l f L a w H q
  | _=>exact hz _ f L a w (by intro h;cases h) H q)
def dz (P:Program) (n:Nat) (fn:Func) (R:Value→List Assn→Prop) (t:Nat) (kf:FuncId) (caps:List Operand) (B:Code):Post
 | .normal,f,L=>Ex P n B (finD P fn R kf (caps.map (evalF f))) (upd f t (.func (.func kf) #[] (caps.map (evalF f)).toArray)) L
 | .ret,f,L=>fin P fn R .ret f L
 | _,_,_=>False
theorem dz_n {P:Program} {n:Nat} {fn:Func} {R:Value→List Assn→Prop} {t:Nat} {kf:FuncId} {caps:List Operand} {B:Code} {f:Nat→Value} {L:List Assn} {us:List Value} (hu:caps.map (evalF f)=us) (h:Ex P n B (finD P fn R kf us) (upd f t (.func (.func kf) #[] us.toArray)) L):dz P n fn R t kf caps B .normal f L:=by subst hu;exact h
theorem dz_ret {P:Program} {n:Nat} {fn:Func} {R:Value→List Assn→Prop} {t:Nat} {kf:FuncId} {caps:List Operand} {B:Code} {f:Nat→Value} {L:List Assn} (h:fin P fn R .ret f L):dz P n fn R t kf caps B .ret f L:=h
theorem Fn.of_exD {P:Program} {k:FuncId} {fn:Func} {args:Array Value} {L:List Assn} {R:Value→List Assn→Prop} {n:Nat} {id t:Nat} {kf:FuncId} {caps:List Operand} {ty1 ty2:TypeId} {pos1 pos2:String} {af1 af2:Array Edge} {ts:Array TypeId} {B:Code} (As:List Code) (hf:P.funcs[k]?=some fn)
  (hb:fn.body=some (seqs As (.seq (.region id #[⟨some t,.makeFunc (.func kf) #[] caps.toArray,ty1,pos1,af1,none⟩,⟨none,.defer ⟨.value (.tmp t),#[],ts⟩,ty2,pos2,af2,none⟩] false) B))) (hnn:fn.ntmps=n) (hn:Nat.ble args.size n=true) (ht:Nat.blt t n=true)
  (hrun:∀ (xs:Array Value) (w:World),(callFunc kf xs).run P w=.ok (.enter kf xs) w)
  (h:ExS P n (dz P n fn R t kf caps B) As (frame0 args) L):Fn P k args L R:=by
 subst hnn
 have hn:=Nat.le_of_ble_eq_true hn
 intro F w0 w r s
 refine calls_of_wp_defers hf hb ?_
 have ag:Agree [] fn.ntmps { tmps:=args++Array.replicate (fn.ntmps - args.size) undef,defers:=[] } (frame0 args):=by
  refine ⟨rfl,by simp;omega,fun t=>?_⟩
  simp only [frame0,Array.getD_eq_getD_getElem?,List.getD_eq_getElem?_getD,Array.getElem?_toList]
  by_cases ht:t<args.size
  ·rw [Array.getElem?_append_left ht]
  ·rw [Array.getElem?_append_right (by omega),Array.getElem?_replicate,Array.getElem?_eq_none (show args.size≤t by omega)]
   split <;> rfl
 refine exS_wp (D:=[]) (F:=F) (w0:=w0) (f0:=frame0 args) ?_ ?_ As _ _ _ _ ⟨r,ag,s,fun t ht=>by cases ht⟩ h
 ·intro f L a w H q
  refine wp_seq (wp_region_list ?_)
  have he:=H.2.1.eval
  refine wpList_plain rfl fun K hK=>?_
  unfold Oper.wp
  have h1:(execOp a.eval ⟨some t,.makeFunc (.func kf) #[] caps.toArray,ty1,pos1,af1,none⟩).run P w=.ok (.value (.func (.func kf) #[] (caps.map (evalF f)).toArray)) w:=by
   rw [he];simp [execOp,Instr.makeFunc]
  rw [h1]
  refine hK _ _ ?_
  have H2:=Here.puto (w':=w) H (Rest.refl w) H.2.2.1 (d:=some t) ht (fun _ _=>rfl) (.func (.func kf) #[] (caps.map (evalF f)).toArray)
  refine wpList_plain rfl fun K hK=>?_
  unfold Oper.wp
  have h2:(execOp (a.put (some t) (.func (.func kf) #[] (caps.map (evalF f)).toArray)).eval ⟨none,.defer ⟨.value (.tmp t),#[],ts⟩,ty2,pos2,af2,none⟩).run P w=.ok (.defer ⟨.fn (.func kf) (caps.map (evalF f)).toArray,#[]⟩) w:=by
   rw [H2.2.1.eval]
   have e:evalF (updo f (some t) (.func (.func kf) #[] (caps.map (evalF f)).toArray)) (.tmp t)=.func (.func kf) #[] (caps.map (evalF f)).toArray:=upd_self _ _ _
   simp [execOp,resolve,e,Deferred.ofValue]
  rw [h2]
  refine hK _ _ (wpList_nil ?_)
  have ag2:Agree [⟨.fn (.func kf) (caps.map (evalF f)).toArray,#[]⟩] fn.ntmps ({ a.put (some t) (.func (.func kf) #[] (caps.map (evalF f)).toArray) with defers:=⟨.fn (.func kf) (caps.map (evalF f)).toArray,#[]⟩::(a.put (some t) (.func (.func kf) #[] (caps.map (evalF f)).toArray)).defers }.put none undef) (upd f t (.func (.func kf) #[] (caps.map (evalF f)).toArray)):=by
   refine ⟨?_,H2.2.1.2.1,H2.2.1.2.2⟩
   have:=H2.2.1.1
   simp only [Act.put] at this ⊢
   rw [this]
  refine wp_mono (q _ F w0 (frame0 args) (fun _=>true) _ w ⟨H2.1,ag2,H2.2.2.1,fun t ht=>by cases ht⟩ (fun _ _=>rfl)) ?_
  have fin2:∀ (a2:Act) (w2:World) (f2:Nat→Value) (L2:List Assn),Here [⟨.fn (.func kf) (caps.map (evalF f)).toArray,#[]⟩] fn.ntmps F w0 (frame0 args) (fun _=>true) a2 w2 f2 L2 →
    (FnD P kf (caps.map (evalF f)).toArray L2 fun _ L1=>∃ v L',ResV P fn f2 L1 v∧Sub L' L1∧R v L')→Leaves P fn a2.tmps (fun e w'=>∃ v L',e=.returned v∧Rest w0 w'∧Sats w' L' F∧R v L') a2.defers .returning w2:=by
   intro a2 w2 f2 L2 H3 hD
   rw [H3.2.1.1]
   refine leaves_cons (f:=kf) (args:=(caps.map (evalF f)).toArray) (by intro h;cases h) (by simp [invoke,hrun]) ?_
   refine (hD F w0 w2 H3.1 H3.2.2.1).mono ?_
   rintro e u' w' ⟨rfl,v,L1,rfl,hr,hs,v2,L3,hv,hsub,hR⟩
   exact ⟨v2,hv F w' a2.tmps H3.2.1.2.2 hs,v2,L3,rfl,hr,hsub w' F hs,hR⟩
  rintro e a2 w2 ⟨f2,L2,H3,q2⟩
  cases e with
  | normal=>exact fin2 a2 w2 f2 L2 H3 q2
  | ret=>exact fin2 a2 w2 f2 L2 H3 q2
  | _=>exact q2.elim
 ·intro e f L a w hne H q
  cases e with
  | normal=>exact absurd rfl hne
  | ret =>
   obtain ⟨v,L2,hv,hs,hR⟩:=q
   show Leaves P fn a.tmps _ a.defers .returning w
   rw [H.2.1.1]
   exact ⟨v,hv F w a.tmps H.2.1.2.2 H.2.2.1,v,L2,rfl,H.1,hs w F H.2.2.1,hR⟩
  | _=>exact q.elim
end
section
theorem at0 {A0:Assn} {L:List Assn}:(A0::L)[0]?=some A0:=rfl
theorem at1 {A0 A1:Assn} {L:List Assn}:(A0::A1::L)[1]?=some A1:=rfl
theorem at2 {A0 A1 A2:Assn} {L:List Assn}:(A0::A1::A2::L)[2]?=some A2:=rfl
theorem at3 {A0 A1 A2 A3:Assn} {L:List Assn}:(A0::A1::A2::A3::L)[3]?=some A3:=rfl
theorem at4 {A0 A1 A2 A3 A4:Assn} {L:List Assn}:(A0::A1::A2::A3::A4::L)[4]?=some A4:=rfl
theorem at5 {A0 A1 A2 A3 A4 A5:Assn} {L:List Assn}:(A0::A1::A2::A3::A4::A5::L)[5]?=some A5:=rfl
theorem at6 {A0 A1 A2 A3 A4 A5 A6:Assn} {L:List Assn}:(A0::A1::A2::A3::A4::A5::A6::L)[6]?=some A6:=rfl
theorem at7 {A0 A1 A2 A3 A4 A5 A6 A7:Assn} {L:List Assn}:(A0::A1::A2::A3::A4::A5::A6::A7::L)[7]?=some A7:=rfl
theorem at8 {A0 A1 A2 A3 A4 A5 A6 A7 A8:Assn} {L:List Assn}:(A0::A1::A2::A3::A4::A5::A6::A7::A8::L)[8]?=some A8:=rfl
theorem rK {p:Prop} (h:p:=by first | exact at0 | exact at1 | exact at2 | exact at3 | exact at4 | exact at5 | exact at6 | exact at7 | exact at8 | exact at9 | exact at10 | exact at11):p:=h
theorem rE {α:Sort _} {a b:α} (h:a=b:=by conv=>lhs;whnf):a=b:=h
theorem rO {p:Prop} (h:p:=by (first | omega | (simp only [List.length_take,List.length_drop,List.length_append,List.length_set,List.length_cons,List.length_nil,List.length_map,List.length_range,List.length_replicate];omega))):p:=h
theorem rN {p:Prop} (h:p:=by first | rfl | assumption | exact subs_one (by assumption) | exact Bv.one _):p:=h
theorem all_nil1:([]:List Value).all Value.oneCell'=true:=rfl
theorem all_cons1 {v:Value} {l:List Value} (h:v.oneCell'=true) (t:l.all Value.oneCell'=true):(v::l).all Value.oneCell'=true:=by
 simp only [List.all_cons,h,t,Bool.and_true]
theorem rC {p:Prop} (h:p:=by first | rfl | ((repeat (first | exact all_nil1 | refine all_cons1 rN ?_));done)):p:=h
theorem rL {p:Prop} (h:p:=by repeat (first | exact evs_nil | (apply evs_agg;rfl) | (apply evs_one;(conv=>lhs;whnf);(first | rfl | assumption)))):p:=h
theorem rB {p:Prop} (h:p:=by repeat (first | exact Sub.refl _ | exact Sub.nil _ | refine Sub.cons _ ?_ | refine Sub.drop _ ?_)):p:=h
theorem rX {p:Prop} (h:p:=by (first | assumption | exact RdT.row 0 rfl | exact RdT.row 1 rfl | exact RdT.row 2 rfl | exact RdT.row 3 rfl | exact RdT.row 4 rfl | exact RdT.row 5 rfl | exact RdT.row 6 rfl | exact RdT.row 7 rfl | exact RdT.ro 0 rfl | exact RdT.ro 1 rfl | exact RdT.ro 2 rfl | exact RdT.ro 3 rfl | exact RdT.ro 4 rfl | exact RdT.ro 5 rfl | exact RdT.ro 6 rfl | exact RdT.ro 7 rfl | exact RdT.nil _ | exact RdT.sub (by assumption) rB)):p:=h
theorem rD {p:Prop} (h:p:=by first | exact rX | exact RdT.to rX rO rfl | exact RdT.off rX rO rfl (by rfl) | exact RdT.mid rX rO rO rfl | exact RdT.to3 rX rO rO rfl):p:=h
theorem rV {p:Prop} (h:p:=by first | exact vl_move rE | exact vl_assign rE | (apply isLoad;first | exact vl_load1 0 (by rfl) (by rfl) (by rfl) (by rfl) | exact vl_load1 1 (by rfl) (by rfl) (by rfl) (by rfl) | exact vl_load1 2 (by rfl) (by rfl) (by rfl) (by rfl) | exact vl_load1 3 (by rfl) (by rfl) (by rfl) (by rfl) | exact vl_load1 4 (by rfl) (by rfl) (by rfl) (by rfl) | exact vl_load1 5 (by rfl) (by rfl) (by rfl) (by rfl) | exact vl_load1 6 (by rfl) (by rfl) (by rfl) (by rfl) | exact vl_load1 7 (by rfl) (by rfl) (by rfl) (by rfl) | exact vl_loadS1e (by rfl) (by rfl) rD (by rfl) (by rfl) (by rfl) | exact vl_loadS1 (by rfl) (by rfl) rD rO (by rfl) (by rfl) | exact vl_loadW 0 (by rfl) (by rfl) (by rfl) (by rfl) (by rfl) | exact vl_loadW 1 (by rfl) (by rfl) (by rfl) (by rfl) (by rfl) | exact vl_loadW 2 (by rfl) (by rfl) (by rfl) (by rfl) (by rfl) | exact vl_loadW 3 (by rfl) (by rfl) (by rfl) (by rfl) (by rfl) | exact vl_loadW 4 (by rfl) (by rfl) (by rfl) (by rfl) (by rfl) | exact vl_loadW 5 (by rfl) (by rfl) (by rfl) (by rfl) (by rfl) | exact vl_loadW 6 (by rfl) (by rfl) (by rfl) (by rfl) (by rfl) | exact vl_loadW 7 (by rfl) (by rfl) (by rfl) (by rfl) (by rfl) | exact vl_loadSWe (by rfl) (by rfl) (by rfl) rD (by rfl) (by rfl) | exact vl_loadSW (by rfl) (by rfl) (by rfl) rD rO (by rfl) | exact vl_loadI 0 (by rfl) (by rfl) (by rfl) (by rfl) rO | exact vl_loadI 1 (by rfl) (by rfl) (by rfl) (by rfl) rO | exact vl_loadI 2 (by rfl) (by rfl) (by rfl) (by rfl) rO | exact vl_loadI 3 (by rfl) (by rfl) (by rfl) (by rfl) rO | exact vl_loadI 4 (by rfl) (by rfl) (by rfl) (by rfl) rO | exact vl_loadI 5 (by rfl) (by rfl) (by rfl) (by rfl) rO | exact vl_loadI 6 (by rfl) (by rfl) (by rfl) (by rfl) rO | exact vl_loadI 7 (by rfl) (by rfl) (by rfl) (by rfl) rO | exact vl_loadX 0 (by rfl) (by rfl) (by rfl) (by rfl) rO | exact vl_loadX 1 (by rfl) (by rfl) (by rfl) (by rfl) rO | exact vl_loadX 2 (by rfl) (by rfl) (by rfl) (by rfl) rO | exact vl_loadX 3 (by rfl) (by rfl) (by rfl) (by rfl) rO | exact vl_loadX 4 (by rfl) (by rfl) (by rfl) (by rfl) rO | exact vl_loadX 5 (by rfl) (by rfl) (by rfl) (by rfl) rO | exact vl_loadX 6 (by rfl) (by rfl) (by rfl) (by rfl) rO | exact vl_loadX 7 (by rfl) (by rfl) (by rfl) (by rfl) rO | exact vl_loadTI (by rfl) rT (by rfl) (by rfl) rO | exact vl_loadTX (by rfl) rT (by rfl) (by rfl) rO | exact vl_loadT1 (by rfl) rT (by rfl) (by rfl) | exact vl_loadArr (by rfl) (by rfl) rD rO (by rfl) (by rfl) (by rfl) | exact vl_loadSA_ (by rfl) (by rfl) (by rfl) (by rfl) rD rO (by rfl) (by rfl) rE | exact vl_loadA_ 0 (by rfl) (by rfl) (by rfl) (by rfl) (by rfl) (by rfl) rE | exact vl_loadA_ 1 (by rfl) (by rfl) (by rfl) (by rfl) (by rfl) (by rfl) rE | exact vl_loadA_ 2 (by rfl) (by rfl) (by rfl) (by rfl) (by rfl) (by rfl) rE | exact vl_loadA_ 3 (by rfl) (by rfl) (by rfl) (by rfl) (by rfl) (by rfl) rE | exact vl_loadA_ 4 (by rfl) (by rfl) (by rfl) (by rfl) (by rfl) (by rfl) rE | exact vl_loadA_ 5 (by rfl) (by rfl) (by rfl) (by rfl) (by rfl) (by rfl) rE | exact vl_loadA_ 6 (by rfl) (by rfl) (by rfl) (by rfl) (by rfl) (by rfl) rE | exact vl_loadA_ 7 (by rfl) (by rfl) (by rfl) (by rfl) (by rfl) (by rfl) rE | exact vl_loadWG 0 (by rfl) (by rfl) (by rfl) rE rO (by rfl) | exact vl_loadWG 1 (by rfl) (by rfl) (by rfl) rE rO (by rfl) | exact vl_loadWG 2 (by rfl) (by rfl) (by rfl) rE rO (by rfl) | exact vl_loadWG 3 (by rfl) (by rfl) (by rfl) rE rO (by rfl)) | (apply isField;first | exact vl_field_ (by rfl) (by rfl) rE | exact vl_fieldS_ (by rfl) rD rO (by rfl) rE) | (apply isIdx;first | exact vl_idxS rE (by rfl) (by rfl) rD rE (by rfl) rO | exact vl_idxL (by rfl) (by rfl) (by rfl) rE (by rfl) (by rfl) rO rO rE | exact vl_idxA (by rfl) (by rfl) (by rfl) rE (by rfl) rO rO | exact vl_idxSi rE (by rfl) (by rfl) rD rE (by rfl) rO rO | exact vl_idxE (by rfl) (by rfl) (by rfl) rE (by rfl) rD rO rO rO) | (apply isBin;first | exact vl_add64 (by rfl) (by rfl) rO rO | (apply isLss;first | exact vl_lss_t (by rfl) (by rfl) rO | exact vl_lss_f (by rfl) (by rfl) rO | exact vl_lss (by rfl) (by rfl)) | (apply isEql;first | exact vl_eql_t (by rfl) (by rfl) rO | exact vl_eql_f (by rfl) (by rfl) rO | exact vl_eql (by rfl) (by rfl) | exact vl_eql_bl (by rfl) (by rfl) (by rfl) (show _=true by rfl) | exact vl_eql_bl (by rfl) (by rfl) (by rfl) (show _=false by rfl) | exact vl_eql_bl (by rfl) (by rfl) (by rfl) (decide_nb _) | exact vl_eql_b (by rfl) (by rfl) (by rfl) | exact vl_eql_st (by rfl) (by rfl) (by first | rfl | assumption) | exact vl_eql_sf (by rfl) (by rfl) (by first | decide | assumption) | exact vl_eql_s (by rfl) (by rfl) | exact vl_nil_eq (by rfl) (by rfl) (by rfl) | exact vl_nilS (by rfl) (by rfl) (by rfl) rE | exact vl_eqlT_t (by rfl) (by rfl) (by first | rfl | assumption) | exact vl_eqlT_f (by rfl) (by rfl) (by assumption) | exact vl_eqlT (by rfl) (by rfl)) | (apply isNeq;first | exact vl_neq_t (by rfl) (by rfl) rO | exact vl_neq_f (by rfl) (by rfl) rO | exact vl_neq (by rfl) (by rfl) | exact vl_neq_bl (by rfl) (by rfl) (by rfl) (show _=true by rfl) | exact vl_neq_bl (by rfl) (by rfl) (by rfl) (show _=false by rfl) | exact vl_neq_b (by rfl) (by rfl) (by rfl) | exact vl_neq_st (by rfl) (by rfl) (by first | rfl | assumption) | exact vl_neq_sf (by rfl) (by rfl) (by first | (intro h;exact h (by rfl)) | decide | assumption) | exact vl_neq_s (by rfl) (by rfl) | exact vl_nnilS (by rfl) (by rfl) (by rfl) rE | exact vl_neqT_f (by rfl) (by rfl) (by first | rfl | assumption) | exact vl_neqT_t (by rfl) (by rfl) (by assumption) | exact vl_neqT (by rfl) (by rfl)) | (apply isLeq;first | exact vl_leq_t (by rfl) (by rfl) rO | exact vl_leq_f (by rfl) (by rfl) rO | exact vl_leq (by rfl) (by rfl)) | (apply isGtr;first | exact vl_gtr_t (by rfl) (by rfl) rO | exact vl_gtr_f (by rfl) (by rfl) rO | exact vl_gtr (by rfl) (by rfl)) | (apply isGeq;first | exact vl_geq_t (by rfl) (by rfl) rO | exact vl_geq_f (by rfl) (by rfl) rO | exact vl_geq (by rfl) (by rfl)) | exact vl_sub64 (by rfl) (by rfl) rO rO | exact vl_rem0e (by rfl) (by rfl) (by assumption) rO rO | exact vl_rem0 (by rfl) (by rfl) rO rO | exact vl_mul64 (by rfl) (by rfl) rO rO | exact vl_quo0 (by rfl) (by rfl) rO rO rO | exact vl_add_s (by rfl) (by rfl) rO | exact vl_bits (by rfl) (by rfl) (by rfl) | exact vl_addu8 (by rfl) (by rfl) rO rO | exact vl_addu32 (by rfl) (by rfl) rO rO | exact vl_quou8 (by rfl) (by rfl) rO rO rO | exact vl_shl (by rfl) (by rfl) rO | exact vl_shr (by rfl) (by rfl) rO | exact vl_addw (by rfl) (by rfl) | exact vl_subw (by rfl) (by rfl) | exact vl_mulw (by rfl) (by rfl) | exact vl_remt (by rfl) (by rfl) rO) | exact vl_pick_t (by rfl) rE | exact vl_pick_f (by rfl) rE | exact vl_not_t (by rfl) | exact vl_not_f (by rfl) | exact vl_not_d (by rfl) | exact vl_not (by rfl) | (apply isCall;first | exact vl_len_s (by rfl) (by rfl) | exact vl_len_a rE (by rfl) | exact vl_len rE (by rfl) rD | exact vl_lenc rE (by rfl) (by assumption) | exact vl_min (by rfl) (by rfl) | exact vl_max (by rfl) (by rfl)) | exact vl_extract (by rfl) (by rfl) | (apply isSlice;first | exact vl_slH rE (by rfl) (by rfl) rD rE (by rfl) rO rO | exact vl_slL rE (by rfl) (by rfl) rD rE (by rfl) rO rO | exact vl_slLH rE (by rfl) (by rfl) (by rfl) rD rE (by rfl) rO rO rO | exact vl_slHM rE (by rfl) (by rfl) (by rfl) rD rE (by rfl) rO rO rO | exact vl_slLHM rE (by rfl) (by rfl) (by rfl) (by rfl) rD rE (by rfl) rO rO rO rO | exact vl_slBeyond _ (by rfl) (by rfl) (by rfl) rK (by rfl) (by rfl) (by rfl) rO (by rfl) rO rO rO | exact vl_slHc rE (by rfl) (by rfl) rE (by rfl) (by assumption) rO rO | exact vl_slLc rE (by rfl) (by rfl) rE (by rfl) (by assumption) rO rO | exact vl_txH (by rfl) (by rfl) (by rfl) rO rO | exact vl_txL (by rfl) (by rfl) (by rfl) rO rO | exact vl_slArr (by rfl) rE rE (by rfl) (by rfl)) | exact vl_arrPtr rE rD (by rfl) rO (by rfl) | exact vl_nilCheck (by rfl) | (apply isConv;first | exact vl_str rE (by rfl) (by rfl) (by rfl) rD | exact vl_strstr (by rfl) (by rfl) (by rfl) | exact vl_conv (by rfl) (by rfl) (by rfl) (wrapB_i64 _) | exact vl_conv (by rfl) (by rfl) (by rfl) (wrap_i64 rO rO) | exact vl_conv (by rfl) (by rfl) (by rfl) (wrap_u8 rO rO) | exact vl_conv (by rfl) (by rfl) (by rfl) (wrap_u32 rO rO) | exact vl_conv (by rfl) (by rfl) (by rfl) (wrap_u64 rO rO) | exact vl_conv (by rfl) (by rfl) (by rfl) (wrapB_u32 _) | exact vl_conv (by rfl) (by rfl) (by rfl) (wrapB_u64 _) | exact vl_conv (by rfl) (by rfl) (by rfl) (wrapB_u8 _) | exact vl_conv (by rfl) (by rfl) (by rfl) (by rfl)) | exact vl_build_ (by rfl) (by rfl) (by rfl) rL rE | exact vl_buildA_ (by rfl) (by rfl) (by rfl) (by rfl) rL rE | exact vl_idxStr (by rfl) (by rfl) (by rfl) rO | exact vl_makeClo (by rfl) (by rfl)):p:=h
theorem rI {p:Prop} (h:p:=by (first | exact rv_tmp rE | exact rv_cell1 0 (by rfl) (by rfl) (by rfl) (by rfl) | exact rv_cell1 1 (by rfl) (by rfl) (by rfl) (by rfl) | exact rv_cell1 2 (by rfl) (by rfl) (by rfl) (by rfl) | exact rv_cell1 3 (by rfl) (by rfl) (by rfl) (by rfl) | exact rv_cell1 4 (by rfl) (by rfl) (by rfl) (by rfl) | exact rv_cell1 5 (by rfl) (by rfl) (by rfl) (by rfl) | exact rv_cell1 6 (by rfl) (by rfl) (by rfl) (by rfl) | exact rv_cell1 7 (by rfl) (by rfl) (by rfl) (by rfl) | exact rv_cellW 0 (by rfl) (by rfl) (by rfl) (by rfl) (by rfl) | exact rv_cellW 1 (by rfl) (by rfl) (by rfl) (by rfl) (by rfl) | exact rv_cellW 2 (by rfl) (by rfl) (by rfl) (by rfl) (by rfl) | exact rv_cellW 3 (by rfl) (by rfl) (by rfl) (by rfl) (by rfl) | exact rv_cellW 4 (by rfl) (by rfl) (by rfl) (by rfl) (by rfl) | exact rv_cellW 5 (by rfl) (by rfl) (by rfl) (by rfl) (by rfl) | exact rv_cellW 6 (by rfl) (by rfl) (by rfl) (by rfl) (by rfl) | exact rv_cellW 7 (by rfl) (by rfl) (by rfl) (by rfl) (by rfl))):p:=h
theorem rS {p:Prop} (h:p:=by (first | exact res_1 (by rfl) rI | exact res_2 (by rfl) rI rI | exact res_3 (by rfl) rI rI rI | exact res_0 (by rfl))):p:=h
theorem rG {p:Prop} (h:p:=by first | exact knil | exact kcons rE (knil) | exact kcons rE (kcons rE (knil)) | exact kcons rE (kcons rE (kcons rE (knil))) | exact kcons rE (kcons rE (kcons rE (kcons rE (knil)))) | exact kcons rE (kcons rE (kcons rE (kcons rE (kcons rE (knil))))) | exact kcons rE (kcons rE (kcons rE (kcons rE (kcons rE (kcons rE (knil)))))) | exact kcons rE (kcons rE (kcons rE (kcons rE (kcons rE (kcons rE (kcons rE (knil))))))) | exact kcons rE (kcons rE (kcons rE (kcons rE (kcons rE (kcons rE (kcons rE (kcons rE (knil)))))))) | exact kcons rE (kcons rE (kcons rE (kcons rE (kcons rE (kcons rE (kcons rE (kcons rE (kcons rE (knil))))))))) | exact kcons rE (kcons rE (kcons rE (kcons rE (kcons rE (kcons rE (kcons rE (kcons rE (kcons rE (kcons rE (knil)))))))))) | exact kcons rE (kcons rE (kcons rE (kcons rE (kcons rE (kcons rE (kcons rE (kcons rE (kcons rE (kcons rE (kcons rE (knil))))))))))) | exact kcons rE (kcons rE (kcons rE (kcons rE (kcons rE (kcons rE (kcons rE (kcons rE (kcons rE (kcons rE (kcons rE (kcons rE (knil)))))))))))) | exact kcons rE (kcons rE (kcons rE (kcons rE (kcons rE (kcons rE (kcons rE (kcons rE (kcons rE (kcons rE (kcons rE (kcons rE (kcons rE (knil))))))))))))) | exact kcons rE (kcons rE (kcons rE (kcons rE (kcons rE (kcons rE (kcons rE (kcons rE (kcons rE (kcons rE (kcons rE (kcons rE (kcons rE (kcons rE (knil)))))))))))))) | exact kcons rE (kcons rE (kcons rE (kcons rE (kcons rE (kcons rE (kcons rE (kcons rE (kcons rE (kcons rE (kcons rE (kcons rE (kcons rE (kcons rE (kcons rE (knil)))))))))))))))):p:=h
theorem rF {p:Prop} (h:p:=by repeat (first | exact Fac.refl _ | refine Fac.cons _ ?_)):p:=h
structure Hold (p:Prop):Prop where
 out:p
theorem fr {G G':Prop} (k:G') (h:Hold G'→G:=by (intro k;(first | refine fin_ret rS ?_ | refine fin_norm rS ?_);exact k.out)):G:=h ⟨k⟩
theorem rn {G G':Prop} (k:G') (h:Hold G'→G:=by (intro k;(repeat' (first | refine ExL.val (by rfl) (by rfl) (by rfl) rV ?_ | (first | refine Ex.seq ?_ | refine Ex.region ?_ | refine ExL.nil ?_ | refine thn_n ?_ | refine Ex.cond_t (by rfl) ?_ | refine Ex.cond_f (by rfl) ?_ | refine Ex.skip ?_ | refine Ex.block ?_ | refine Ex.exit ?_ | refine Ex.ret ?_ | refine thn_exit ?_ | refine thn_ret ?_ | refine inb_n ?_ | refine inb_hit (by rfl) ?_ | refine inb_miss (by rfl) ?_ | refine inb_ret ?_ | refine rnd_exit ?_ | refine rnd_ret ?_ | refine meet_ret ?_ | refine meet_exit ?_) | (apply exlGuard;first | refine ExL.gskip (by rfl) (by rfl) (by rfl) (by rfl) (by rfl) (by rfl) ?_ | refine ExL.gtake (by rfl) (by rfl) (by rfl) (by rfl) ?_ | refine ExL.gskipU (by rfl) (by rfl) (by rfl) (by rfl) ?_ | (refine ExL.gsplit (by rfl) (by rfl) (by rfl) (fun hN=>?_) (fun hN=>?_) <;> try (exfalso;omega))) | (first | refine st_new_ (by rfl) rE (fun gN=>?_) | refine st_boxA (by rfl) (by rfl) (fun gN=>?_) | refine st_box1 (by rfl) rE rN (fun gN=>?_) | (apply exlStore;first | refine st_store1_ _ (by rfl) rK rE rN (by rfl) (by rfl) rE rE ?_ | refine st_storeW_ _ (by rfl) rK (by rfl) rC (by rfl) (by rfl) (by rfl) rE ?_ | refine st_storeR _ (by rfl) rK (by rfl) rE (by rfl) (by rfl) rE ?_ | refine st_storeA_ _ (by rfl) rK (by rfl) rC (by rfl) (by rfl) (by rfl) rE rE ?_ | refine st_storeB _ (by rfl) (by rfl) rO rO rK (by rfl) rO ?_ | refine st_storeG _ (by rfl) rK rE rN (by rfl) rO (fun csN hcsN=>?_)) | refine st_slice0 (by rfl) (by rfl) (by rfl) (by rfl) (fun gN=>?_) | refine st_slice1T (by rfl) (by rfl) (by rfl) (by rfl) (fun gN=>?_) | refine st_makeT (by rfl) (by rfl) (by rfl) (by rfl) rE (by rfl) rO rO (fun vN oN=>?_) | (apply exlCopy;first | refine st_copyW _ (by rfl) rE rK rE rD (by rfl) rE (by rfl) (fun zsN hzsN=>?_) | refine st_copyS _ (by rfl) (by rfl) rK rE rD (by rfl) rE (by rfl) rO rO (fun zsN hzsN=>?_)) | refine st_sliceB (by rfl) (by rfl) (by rfl) (by rfl) (by rfl) (by rfl) (by rfl) rL rE rE (by rfl) (fun gN=>?_) | refine st_slice1I (by rfl) (by rfl) (by rfl) (by rfl) (by rfl) (by rfl) (fun gN=>?_) | refine st_slice1B (by rfl) (by rfl) (by rfl) (by rfl) (by rfl) (by rfl) rO rO (fun gN=>?_) | refine st_slice1S (by rfl) (by rfl) (by rfl) (by rfl) (by rfl) (by rfl) (fun gN=>?_) | refine st_slice2B (by rfl) (by rfl) (by rfl) (by rfl) (by rfl) (by rfl) (by rfl) rO rO rO rO (fun gN=>?_) | (apply exlConv;first | refine st_bytes (by rfl) (by rfl) (by rfl) (by rfl) (by rfl) rO (fun vN oN=>?_) | refine st_mark _ (by rfl) (by rfl) rK (by rfl) (by rfl) (by rfl) ?_) | refine st_clear _ (0:UInt8) (by rfl) rK (by rfl) (by rfl) (by rfl) (by rfl) (by rfl) rO ?_ | refine st_clearT _ (by rfl) rK rO (by rfl) (by rfl) rO rE ?_ | (apply exlAppend;first | refine st_app0 (by rfl) (by rfl) rE rD (by rfl) rE (by rfl) rE (by rfl) (by rfl) (by rfl) rO (fun vN oN=>?_) | refine st_app _ (by rfl) rE rK rE rD (by rfl) rE (by rfl) rE (by rfl) (by rfl) (by rfl) rO (fun vN oN=>?_) | refine st_shift _ (by rfl) (by rfl) (by rfl) rK rO (by rfl) (by rfl) (by rfl) rO rO rE ?_)) | (refine Ex.cond_d (by rfl) (fun hN=>?_) (fun hN=>?_) <;> try (exfalso;omega))));(repeat' (first | exact k.out | revert hN | revert hcsN | revert csN | revert hzsN | revert zsN | revert oN | revert vN | revert gN)))):G:=h ⟨k⟩
theorem mn {G G':Prop} (k:G') (h:Hold G'→G:=by (intro k;(repeat' (first | refine mx_val (by rfl) (by rfl) (by rfl) rV ?_ | refine mx_nil ?_ | (first | refine mx_gskip (by rfl) (by rfl) (by rfl) (by rfl) ?_ | refine mx_gtake (by rfl) (by rfl) (by rfl) ?_ | refine mx_gskipU (by rfl) (by rfl) (by rfl) ?_) | (first | refine mx_slice1T (by rfl) (by rfl) (by rfl) (by rfl) (fun gN=>?_) | refine mx_slice1I (by rfl) (by rfl) (by rfl) (by rfl) (by rfl) (by rfl) (fun gN=>?_) | refine mx_slice1B (by rfl) (by rfl) (by rfl) (by rfl) (by rfl) (by rfl) rO rO (fun gN=>?_) | refine mx_slice1S (by rfl) (by rfl) (by rfl) (by rfl) (by rfl) (by rfl) (fun gN=>?_) | refine mx_slice2B (by rfl) (by rfl) (by rfl) (by rfl) (by rfl) (by rfl) (by rfl) rO rO rO rO (fun gN=>?_) | refine mx_alloc (by rfl) rE (fun gN=>?_) | refine mx_boxA (by rfl) (by rfl) (fun gN=>?_) | refine mx_slice0 (by rfl) (by rfl) (by rfl) (by rfl) (fun gN=>?_)) | (refine mx_gsplit (by rfl) (by rfl) (by rfl) (fun hN=>?_) (fun hN=>?_) <;> try (exfalso;omega)) | (refine mx_act (by rfl) (by rfl) (by rfl) ?_;(first | (apply exlCopy;first | refine st_copyW _ (by rfl) rE rK rE rD (by rfl) rE (by rfl) (fun zsN hzsN=>?_) | refine st_copyS _ (by rfl) (by rfl) rK rE rD (by rfl) rE (by rfl) rO rO (fun zsN hzsN=>?_)) | (apply exlAppend;first | refine st_app0 (by rfl) (by rfl) rE rD (by rfl) rE (by rfl) rE (by rfl) (by rfl) (by rfl) rO (fun vN oN=>?_) | refine st_app _ (by rfl) rE rK rE rD (by rfl) rE (by rfl) rE (by rfl) (by rfl) (by rfl) rO (fun vN oN=>?_) | refine st_shift _ (by rfl) (by rfl) (by rfl) rK rO (by rfl) (by rfl) (by rfl) rO rO rE ?_));refine ExL.nil ?_;refine mxEnd_n rF ?_)));(repeat' (first | exact k.out | revert hN | revert hcsN | revert csN | revert hzsN | revert zsN | revert oN | revert vN | revert gN)))):G:=h ⟨k⟩
theorem r1 {G G':Prop} (k:G') (h:Hold G'→G:=by (intro k;((first | refine ExL.val (by rfl) (by rfl) (by rfl) rV ?_ | (first | refine Ex.seq ?_ | refine Ex.region ?_ | refine ExL.nil ?_ | refine thn_n ?_ | refine Ex.cond_t (by rfl) ?_ | refine Ex.cond_f (by rfl) ?_ | refine Ex.skip ?_ | refine Ex.block ?_ | refine Ex.exit ?_ | refine Ex.ret ?_ | refine thn_exit ?_ | refine thn_ret ?_ | refine inb_n ?_ | refine inb_hit (by rfl) ?_ | refine inb_miss (by rfl) ?_ | refine inb_ret ?_ | refine rnd_exit ?_ | refine rnd_ret ?_ | refine meet_ret ?_ | refine meet_exit ?_) | (apply exlGuard;first | refine ExL.gskip (by rfl) (by rfl) (by rfl) (by rfl) (by rfl) (by rfl) ?_ | refine ExL.gtake (by rfl) (by rfl) (by rfl) (by rfl) ?_ | refine ExL.gskipU (by rfl) (by rfl) (by rfl) (by rfl) ?_) | (first | refine st_new_ (by rfl) rE (fun gN=>?_) | refine st_boxA (by rfl) (by rfl) (fun gN=>?_) | refine st_box1 (by rfl) rE rN (fun gN=>?_) | (apply exlStore;first | refine st_store1_ _ (by rfl) rK rE rN (by rfl) (by rfl) rE rE ?_ | refine st_storeW_ _ (by rfl) rK (by rfl) rC (by rfl) (by rfl) (by rfl) rE ?_ | refine st_storeR _ (by rfl) rK (by rfl) rE (by rfl) (by rfl) rE ?_ | refine st_storeA_ _ (by rfl) rK (by rfl) rC (by rfl) (by rfl) (by rfl) rE rE ?_ | refine st_storeB _ (by rfl) (by rfl) rO rO rK (by rfl) rO ?_ | refine st_storeG _ (by rfl) rK rE rN (by rfl) rO (fun csN hcsN=>?_)) | refine st_slice0 (by rfl) (by rfl) (by rfl) (by rfl) (fun gN=>?_) | refine st_slice1T (by rfl) (by rfl) (by rfl) (by rfl) (fun gN=>?_) | refine st_makeT (by rfl) (by rfl) (by rfl) (by rfl) rE (by rfl) rO rO (fun vN oN=>?_) | (apply exlCopy;first | refine st_copyW _ (by rfl) rE rK rE rD (by rfl) rE (by rfl) (fun zsN hzsN=>?_) | refine st_copyS _ (by rfl) (by rfl) rK rE rD (by rfl) rE (by rfl) rO rO (fun zsN hzsN=>?_)) | refine st_sliceB (by rfl) (by rfl) (by rfl) (by rfl) (by rfl) (by rfl) (by rfl) rL rE rE (by rfl) (fun gN=>?_) | refine st_slice1I (by rfl) (by rfl) (by rfl) (by rfl) (by rfl) (by rfl) (fun gN=>?_) | refine st_slice1B (by rfl) (by rfl) (by rfl) (by rfl) (by rfl) (by rfl) rO rO (fun gN=>?_) | refine st_slice1S (by rfl) (by rfl) (by rfl) (by rfl) (by rfl) (by rfl) (fun gN=>?_) | refine st_slice2B (by rfl) (by rfl) (by rfl) (by rfl) (by rfl) (by rfl) (by rfl) rO rO rO rO (fun gN=>?_) | (apply exlConv;first | refine st_bytes (by rfl) (by rfl) (by rfl) (by rfl) (by rfl) rO (fun vN oN=>?_) | refine st_mark _ (by rfl) (by rfl) rK (by rfl) (by rfl) (by rfl) ?_) | refine st_clear _ (0:UInt8) (by rfl) rK (by rfl) (by rfl) (by rfl) (by rfl) (by rfl) rO ?_ | refine st_clearT _ (by rfl) rK rO (by rfl) (by rfl) rO rE ?_ | (apply exlAppend;first | refine st_app0 (by rfl) (by rfl) rE rD (by rfl) rE (by rfl) rE (by rfl) (by rfl) (by rfl) rO (fun vN oN=>?_) | refine st_app _ (by rfl) rE rK rE rD (by rfl) rE (by rfl) rE (by rfl) (by rfl) (by rfl) rO (fun vN oN=>?_) | refine st_shift _ (by rfl) (by rfl) (by rfl) rK rO (by rfl) (by rfl) (by rfl) rO rO rE ?_))));(repeat' (first | exact k.out | revert hN | revert hcsN | revert csN | revert hzsN | revert zsN | revert oN | revert vN | revert gN));done)):G:=h ⟨k⟩
theorem m1 {G G':Prop} (k:G') (h:Hold G'→G:=by (intro k;((first | refine mx_val (by rfl) (by rfl) (by rfl) rV ?_ | refine mx_nil ?_ | (first | refine mx_gskip (by rfl) (by rfl) (by rfl) (by rfl) ?_ | refine mx_gtake (by rfl) (by rfl) (by rfl) ?_ | refine mx_gskipU (by rfl) (by rfl) (by rfl) ?_) | (first | refine mx_slice1T (by rfl) (by rfl) (by rfl) (by rfl) (fun gN=>?_) | refine mx_slice1I (by rfl) (by rfl) (by rfl) (by rfl) (by rfl) (by rfl) (fun gN=>?_) | refine mx_slice1B (by rfl) (by rfl) (by rfl) (by rfl) (by rfl) (by rfl) rO rO (fun gN=>?_) | refine mx_slice1S (by rfl) (by rfl) (by rfl) (by rfl) (by rfl) (by rfl) (fun gN=>?_) | refine mx_slice2B (by rfl) (by rfl) (by rfl) (by rfl) (by rfl) (by rfl) (by rfl) rO rO rO rO (fun gN=>?_) | refine mx_alloc (by rfl) rE (fun gN=>?_) | refine mx_boxA (by rfl) (by rfl) (fun gN=>?_) | refine mx_slice0 (by rfl) (by rfl) (by rfl) (by rfl) (fun gN=>?_)) | (refine mx_act (by rfl) (by rfl) (by rfl) ?_;(first | (apply exlCopy;first | refine st_copyW _ (by rfl) rE rK rE rD (by rfl) rE (by rfl) (fun zsN hzsN=>?_) | refine st_copyS _ (by rfl) (by rfl) rK rE rD (by rfl) rE (by rfl) rO rO (fun zsN hzsN=>?_)) | (apply exlAppend;first | refine st_app0 (by rfl) (by rfl) rE rD (by rfl) rE (by rfl) rE (by rfl) (by rfl) (by rfl) rO (fun vN oN=>?_) | refine st_app _ (by rfl) rE rK rE rD (by rfl) rE (by rfl) rE (by rfl) (by rfl) (by rfl) rO (fun vN oN=>?_) | refine st_shift _ (by rfl) (by rfl) (by rfl) rK rO (by rfl) (by rfl) (by rfl) rO rO rE ?_));refine ExL.nil ?_;refine mxEnd_n rF ?_)));(repeat' (first | exact k.out | revert hN | revert hcsN | revert csN | revert hzsN | revert zsN | revert oN | revert vN | revert gN));done)):G:=h ⟨k⟩
theorem rn2 {G G' G'':Prop} (k:G') (k2:G'') (h:Hold G'→Hold G''→G:=by (intro k k2;(repeat' (first | refine ExL.val (by rfl) (by rfl) (by rfl) rV ?_ | (first | refine Ex.seq ?_ | refine Ex.region ?_ | refine ExL.nil ?_ | refine thn_n ?_ | refine Ex.cond_t (by rfl) ?_ | refine Ex.cond_f (by rfl) ?_ | refine Ex.skip ?_ | refine Ex.block ?_ | refine Ex.exit ?_ | refine Ex.ret ?_ | refine thn_exit ?_ | refine thn_ret ?_ | refine inb_n ?_ | refine inb_hit (by rfl) ?_ | refine inb_miss (by rfl) ?_ | refine inb_ret ?_ | refine rnd_exit ?_ | refine rnd_ret ?_ | refine meet_ret ?_ | refine meet_exit ?_) | (apply exlGuard;first | refine ExL.gskip (by rfl) (by rfl) (by rfl) (by rfl) (by rfl) (by rfl) ?_ | refine ExL.gtake (by rfl) (by rfl) (by rfl) (by rfl) ?_ | refine ExL.gskipU (by rfl) (by rfl) (by rfl) (by rfl) ?_ | (refine ExL.gsplit (by rfl) (by rfl) (by rfl) (fun hN=>?_) (fun hN=>?_) <;> try (exfalso;omega))) | (first | refine st_new_ (by rfl) rE (fun gN=>?_) | refine st_boxA (by rfl) (by rfl) (fun gN=>?_) | refine st_box1 (by rfl) rE rN (fun gN=>?_) | (apply exlStore;first | refine st_store1_ _ (by rfl) rK rE rN (by rfl) (by rfl) rE rE ?_ | refine st_storeW_ _ (by rfl) rK (by rfl) rC (by rfl) (by rfl) (by rfl) rE ?_ | refine st_storeR _ (by rfl) rK (by rfl) rE (by rfl) (by rfl) rE ?_ | refine st_storeA_ _ (by rfl) rK (by rfl) rC (by rfl) (by rfl) (by rfl) rE rE ?_ | refine st_storeB _ (by rfl) (by rfl) rO rO rK (by rfl) rO ?_ | refine st_storeG _ (by rfl) rK rE rN (by rfl) rO (fun csN hcsN=>?_)) | refine st_slice0 (by rfl) (by rfl) (by rfl) (by rfl) (fun gN=>?_) | refine st_slice1T (by rfl) (by rfl) (by rfl) (by rfl) (fun gN=>?_) | refine st_makeT (by rfl) (by rfl) (by rfl) (by rfl) rE (by rfl) rO rO (fun vN oN=>?_) | (apply exlCopy;first | refine st_copyW _ (by rfl) rE rK rE rD (by rfl) rE (by rfl) (fun zsN hzsN=>?_) | refine st_copyS _ (by rfl) (by rfl) rK rE rD (by rfl) rE (by rfl) rO rO (fun zsN hzsN=>?_)) | refine st_sliceB (by rfl) (by rfl) (by rfl) (by rfl) (by rfl) (by rfl) (by rfl) rL rE rE (by rfl) (fun gN=>?_) | refine st_slice1I (by rfl) (by rfl) (by rfl) (by rfl) (by rfl) (by rfl) (fun gN=>?_) | refine st_slice1B (by rfl) (by rfl) (by rfl) (by rfl) (by rfl) (by rfl) rO rO (fun gN=>?_) | refine st_slice1S (by rfl) (by rfl) (by rfl) (by rfl) (by rfl) (by rfl) (fun gN=>?_) | refine st_slice2B (by rfl) (by rfl) (by rfl) (by rfl) (by rfl) (by rfl) (by rfl) rO rO rO rO (fun gN=>?_) | (apply exlConv;first | refine st_bytes (by rfl) (by rfl) (by rfl) (by rfl) (by rfl) rO (fun vN oN=>?_) | refine st_mark _ (by rfl) (by rfl) rK (by rfl) (by rfl) (by rfl) ?_) | refine st_clear _ (0:UInt8) (by rfl) rK (by rfl) (by rfl) (by rfl) (by rfl) (by rfl) rO ?_ | refine st_clearT _ (by rfl) rK rO (by rfl) (by rfl) rO rE ?_ | (apply exlAppend;first | refine st_app0 (by rfl) (by rfl) rE rD (by rfl) rE (by rfl) rE (by rfl) (by rfl) (by rfl) rO (fun vN oN=>?_) | refine st_app _ (by rfl) rE rK rE rD (by rfl) rE (by rfl) rE (by rfl) (by rfl) (by rfl) rO (fun vN oN=>?_) | refine st_shift _ (by rfl) (by rfl) (by rfl) rK rO (by rfl) (by rfl) (by rfl) rO rO rE ?_)) | (refine Ex.cond_d (by rfl) (fun hN=>?_) (fun hN=>?_) <;> try (exfalso;omega))));(repeat' (first | exact k.out | exact k2.out | revert hN | revert hcsN | revert csN | revert hzsN | revert zsN | revert oN | revert vN | revert gN)))):G:=h ⟨k⟩ ⟨k2⟩
end
section
theorem check_2int {P : Program} {t e : TypeId} {f0 f1 : Field} (hu : P.underlying t = some (.struct #[f0, f1])) (h0 : f0.type = e ∧ f0.offset = 0 ∧ f0.name ≠ "_") (h1 : f1.type = e ∧ f1.offset = 1 ∧ f1.name ≠ "_") (he : P.underlying e = some (.int .i64)) (w : World) (em : Bool) (r n : Int) :
  (Instr.checkKey em 10000 t (.agg #[.int .i64 r,.int .i64 n])).run P w=.ok () w:=by
 have hA:aggB P e=some false:=by unfold aggB;rw [he]
 have key:∀ m,(∀ (v:Int),(Instr.checkKey em m e (.int .i64 v)).run P w=.ok () w)→(Instr.checkKey em (m+1) t (.agg #[.int .i64 r,.int .i64 n])).run P w=.ok () w:=fun m hi=>by
  simp [Instr.checkKey,run_underlying hu,part,run_isAgg w hA,h0,h1,hi]
 exact key 9999 fun v=>MapKept.run_checkKey (d:=.int .i64) (k:=.int .i64 v) he rfl em 9998
class KeyT (P:outParam Program) (t:TypeId) (κ:outParam Type) [Rep κ] extends EqT P t κ where
 check:∀ (w:World) (em:Bool) (a:κ),(Instr.checkKey em 10000 t (.agg (Rep.cells a).toArray)).run P w=.ok () w
@[reducible] def aggV {α:Type} [Rep α] (a:α):Value:=.agg (Rep.cells a).toArray
section
variable {κ β:Type} [Rep κ] [Rep β]
def MapT (g:Nat) (m:List (κ×β)):Assn:=fun h=>∃ es clock,h=Frag.one g (.map es clock)∧es.toList.map (fun e=>(e.key,e.val))=m.map fun p=>(aggV p.1,aggV p.2)
def mpos [DecidableEq κ] (k:κ):List (κ×β)→Nat→Option (Nat×β)
 | [],_=>none
 | p::m,i=>if k=p.1 then some (i,p.2) else mpos k m (i+1)
theorem sameBits_leaf (n:Nat) {l:Leaf} {v:Value} (h:l.ok v=true):Instr.sameBits n v v=true:=by
 cases l <;> cases v <;> simp [Leaf.ok] at h
 ·cases n <;> simp [Instr.sameBits]
 ·cases n <;> simp [Instr.sameBits]
 ·rename_i str
  exact MapKept.sameBits_self (d:=.string) (k:=.string str) trivial n
theorem okL_mem:∀ {ls:List Leaf} {vs:List Value},okL ls vs=true→∀ v∈vs,∃ l:Leaf,l.ok v=true
 | [],[],_,v,hv=>by simp at hv
 | l::ls,u::vs,h,v,hv=>by
  simp [okL] at h
  rcases List.mem_cons.1 hv with rfl | hv
  ·exact ⟨l,h.1⟩
  ·exact okL_mem h.2 v hv
 | [],_::_,h,_,_=>by simp [okL] at h
 | _::_,[],h,_,_=>by simp [okL] at h
theorem zip_self_all {α:Type} (p:α→α→Bool):∀ (l:List α),(∀ x∈l,p x x=true)→((l.zip l).all fun (x,y)=>p x y)=true
 | [],_=>rfl
 | a::l,h=>by
  simp only [List.zip_cons_cons,List.all_cons,Bool.and_eq_true]
  exact ⟨h a (List.mem_cons_self ..),zip_self_all p l fun x hx=>h x (List.mem_cons_of_mem _ hx)⟩
variable {P:Program} {kt:TypeId}
theorem run_stays [K:KeyT P kt κ] (k:κ) (w:World):(Instr.keyThatStays (aggV k) (aggV k)).run P w=.ok (aggV k) w:=by
 have h:Instr.sameBits 10000 (aggV k) (aggV k)=true:=by
  show Instr.sameBits (9999+1) (.agg _) (.agg _)=true
  simp only [Instr.sameBits,beq_self_eq_true,Bool.true_and]
  refine zip_self_all (fun x y=>Instr.sameBits 9999 x y) _ fun x hx=>?_
  obtain ⟨l,hl⟩:=okL_mem (K.ok k) x hx
  exact sameBits_leaf _ hl
 simp [Instr.keyThatStays,h]
theorem run_asking [K:KeyT P kt κ] [DecidableEq κ] (k:κ) (w:World):∀ (es:List MapEntry) (m:List (κ×β)) (i:Nat),es.map (fun e=>(e.key,e.val))=m.map (fun p=>(aggV p.1,aggV p.2)) →
  (Instr.findAsking kt (aggV k) es i).run P w=.ok ((mpos k m i).map fun q=>(q.1,aggV q.2)) w
 | [],[],i,_=>by simp [Instr.findAsking,mpos]
 | e::es,p::m,i,h=>by
  simp only [List.map_cons,List.cons.injEq,Prod.mk.injEq] at h
  obtain ⟨⟨h1,h2⟩,h3⟩:=h
  have he:=run_eqT (P:=P) (t:=kt) k p.1 w
  unfold Instr.findAsking
  rw [h1]
  by_cases hk:k=p.1
  ·rw [decide_eq_true hk] at he
   rw [show mpos k (p::m) i=some (i,p.2) from if_pos hk]
   simp [he,h2]
  ·rw [decide_eq_false hk] at he
   rw [show mpos k (p::m) i=mpos k m (i+1) from if_neg hk]
   simp [he,run_asking k w es m (i+1) h3]
 | [],_::_,_,h=>by simp at h
 | _::_,[],_,h=>by simp at h
theorem run_find [K:KeyT P kt κ] [DecidableEq κ] (k:κ) (w:World) (es:List MapEntry) (m:List (κ×β)) (h:es.map (fun e=>(e.key,e.val))=m.map (fun p=>(aggV p.1,aggV p.2))) :
  (Instr.findKey kt (aggV k) es).run P w=.ok ((mpos k m 0).map fun q=>(q.1,aggV q.2)) w:=by
 have ha:=K.agg
 unfold aggB at ha
 cases hu:P.underlying kt with
 | none=>rw [hu] at ha;cases ha
 | some d =>
  rw [hu] at ha
  match es,m,h with
  | [],[],_=>simp [Instr.findKey,run_underlying hu,Instr.findNow,mpos]
  | e::es,p::m,h =>
   have hr:=run_asking (P:=P) (kt:=kt) k w (e::es) (p::m) 0 h
   have hn:Instr.findNow d (aggV k) (e::es) 0=none:=by
    cases d <;> simp at ha <;> simp [Instr.findNow,Instr.sameNow]
   simp only [Instr.findKey,Sem.run_bind,run_underlying hu,Result.andThen_ok,hn,hr]
  | [],_::_,h=>simp at h
  | _::_,[],h=>simp at h
end
section
variable {κ β:Type} [Rep κ] [Rep β] {L:List Assn} {F:Frag} {w:World}
theorem map_heap {i g:Nat} {m:List (κ×β)} (hi:L[i]?=some (MapT g m)) (s:Sats w L F):∃ es clock,w.heap[g]?=some (.map es clock)∧es.toList.map (fun e=>(e.key,e.val))=m.map fun p=>(aggV p.1,aggV p.2):=by
 obtain ⟨h,⟨es,clock,rfl,he⟩,d,s'⟩:=Sats.pick hi s
 exact ⟨es,clock,Sats.frame_left s' g _ (Frag.one_self g _),he⟩
theorem map_set {i g:Nat} {m m':List (κ×β)} {es es':Array MapEntry} {clock clock':Nat} (hi:L[i]?=some (MapT g m)) (hg:w.heap[g]?=some (.map es clock)) (he:es'.toList.map (fun e=>(e.key,e.val))=m'.map fun p=>(aggV p.1,aggV p.2)) (s:Sats w L F) :
  Sats { w with heap:=w.heap.setIfInBounds g (.map es' clock') } (L.set i (MapT g m')) F:=by
 obtain ⟨h,⟨es0,clock0,rfl,_⟩,d,s'⟩:=Sats.pick hi s
 have hlt:g<w.heap.size:=(Array.getElem?_eq_some_iff.1 hg).1
 refine Sats.rewrite (o':=.map es' clock') (List.getElem?_eq_some_iff.1 hi).1 d s' ⟨es',clock',rfl,he⟩ (fun n hn=>?_) ?_
 ·show (w.heap.setIfInBounds g _)[n]?=_
  rw [Array.getElem?_setIfInBounds_ne (Ne.symm hn)]
 ·show (w.heap.setIfInBounds g _)[g]?=_
  simp [hlt]
end
section
variable {P:Program} {n:Nat} {ops:Array Oper} {Q:Post} {f:Nat→Value} {L:List Assn} {rest:List Oper} {d:Nat} {ty:TypeId} {pos:String} {af:Array Edge}
variable {κ β:Type} [Rep κ] [Rep β]
theorem st_makeMap (κ β:Type) [Rep κ] [Rep β] {t:TypeId} (hd:Nat.blt d n=true) (h:∀ g,ExL P n ops rest Q (upd f d (.map (some g))) (MapT g ([]:List (κ×β))::L)):ExL P n ops (⟨some d,.makeMap t none,ty,pos,af,none⟩::rest) Q f L:=by
 refine ExL.eff rfl hd (R:=fun v L'=>∃ g,v=.map (some g)∧L'=MapT g ([]:List (κ×β))::L) (fun F w s=>?_) ?_
 ·refine ⟨_,w.alloc (.map #[] 0),_,.inl (by simp [execOp,Instr.makeMap]),Rest.alloc (Rest.refl w) _,Sats.alloc _ s (A:=MapT w.heap.size ([]:List (κ×β))) ⟨#[],0,rfl,rfl⟩,w.heap.size,rfl,rfl⟩
 ·rintro v L' ⟨g,rfl,rfl⟩
  exact h g
variable [DecidableEq κ] {t kt et:TypeId} [K:KeyT P kt κ]
theorem run_lookup [Z:ZRep P et β] {i g:Nat} {m:List (κ×β)} {k:κ} {w:World} {F:Frag} (ht:P.underlying t=some (.map kt et)) (hz:((P.info? et).bind (·.zero))=some (aggV Z.z)) (hi:L[i]?=some (MapT g m)) (s:Sats w L F) :
  (Instr.lookup t (.map (some g)) (aggV k) true).run P w=.ok (.tuple #[match mpos k m 0 with | some q=>aggV q.2 | none=>aggV Z.z,.bool (mpos k m 0).isSome]) w:=by
 obtain ⟨es,clock,hg,he⟩:=map_heap hi s
 have hf:=run_find (P:=P) (kt:=kt) k w es.toList m he
 have hc:=K.check w es.isEmpty k
 have hzv:(zeroValue et).run P w=.ok (aggV Z.z) w:=by
  cases hii:P.info? et with
  | none=>rw [hii] at hz;cases hz
  | some inf =>
   rw [hii] at hz
   have hz:inf.zero=some (aggV Z.z):=hz
   simp [zeroValue,typeInfo,hii,hz]
 cases hp:mpos k m 0 with
 | none =>
  rw [hp] at hf
  simp [Instr.lookup,run_underlying ht,MapKept.run_getObj_map hg,hc,hf,hzv]
 | some q =>
  rw [hp] at hf
  simp [Instr.lookup,run_underlying ht,MapKept.run_getObj_map hg,hc,hf]
theorem st_lookup_some [Z:ZRep P et β] (i:Nat) {x y:Operand} {g j:Nat} {m:List (κ×β)} {k:κ} {b:β} (hd:Nat.blt d n=true) (hx:evalF f x=.map (some g)) (hy:evalF f y=.agg (Rep.cells k).toArray) (hi:L[i]?=some (MapT g m)) (ht:P.underlying t=some (.map kt et)) (hz:((P.info? et).bind (·.zero))=some (aggV Z.z))
  (hp:mpos k m 0=some (j,b)) (h:ExL P n ops rest Q (upd f d (.tuple #[.agg (Rep.cells b).toArray,.bool true])) L):ExL P n ops (⟨some d,.lookup t x y true,ty,pos,af,none⟩::rest) Q f L :=
 ExL.val rfl rfl hd (fun F w s=>by
  have:=run_lookup (P:=P) (k:=k) ht hz hi s
  rw [hp] at this
  simp only [aggV] at this
  simp [execOp,hx,hy,this]) h
theorem st_lookup_none [Z:ZRep P et β] (i:Nat) {x y:Operand} {g:Nat} {m:List (κ×β)} {k:κ} (hd:Nat.blt d n=true) (hx:evalF f x=.map (some g)) (hy:evalF f y=.agg (Rep.cells k).toArray) (hi:L[i]?=some (MapT g m)) (ht:P.underlying t=some (.map kt et)) (hz:((P.info? et).bind (·.zero))=some (aggV Z.z))
  (hp:mpos k m 0=none) (h:ExL P n ops rest Q (upd f d (.tuple #[.agg (Rep.cells Z.z).toArray,.bool false])) L):ExL P n ops (⟨some d,.lookup t x y true,ty,pos,af,none⟩::rest) Q f L :=
 ExL.val rfl rfl hd (fun F w s=>by
  have:=run_lookup (P:=P) (k:=k) ht hz hi s
  rw [hp] at this
  simp only [aggV] at this
  simp [execOp,hx,hy,this]) h
theorem st_mapNew (i:Nat) {x y z:Operand} {g:Nat} {m:List (κ×β)} {k:κ} {b:β} (hx:evalF f x=.map (some g)) (hy:evalF f y=.agg (Rep.cells k).toArray) (hz:evalF f z=.agg (Rep.cells b).toArray) (hi:L[i]?=some (MapT g m)) (ht:P.underlying t=some (.map kt et))
  (hp:mpos k m 0=none) {L':List Assn} (hL:L.set i (MapT g (m++[(k,b)]))=L') (h:ExL P n ops rest Q f L'):ExL P n ops (⟨none,.mapUpdate t x y z,ty,pos,af,none⟩::rest) Q f L:=by
 subst hL
 refine ExL.eff rfl rfl (R:=fun _ L2=>L2=L.set i (MapT g (m++[(k,b)]))) (fun F w s=>?_) (fun v L2 e=>by subst e;exact h)
 obtain ⟨es,clock,hg,he⟩:=map_heap hi s
 have hf:=run_find (P:=P) (kt:=kt) k w es.toList m he
 have hc:=K.check w false k
 rw [hp] at hf
 refine ⟨undef,_,_,.inr ⟨?_,rfl⟩,?_,map_set (es':=es.push { key:=aggV k,val:=aggV b,born:=clock }) (clock':=clock+1) hi hg (by simp [he]) s,rfl⟩
 ·simp [execOp,hx,hy,hz,Instr.mapUpdate,run_underlying ht,MapKept.run_getObj_map hg,hc,hf,MapKept.run_setObj_map _ hg]
 ·exact ⟨rfl,rfl,rfl⟩
theorem eraseIdx_map {α γ:Type} (φ:α→γ):∀ (l:List α) (i:Nat),(l.eraseIdx i).map φ=(l.map φ).eraseIdx i
 | [],i=>by simp
 | a::l,0=>by simp
 | a::l,i+1=>by simp [eraseIdx_map φ l i]
theorem st_mapDel (i:Nat) {x y:Operand} {g j:Nat} {m:List (κ×β)} {k:κ} {b:β} {ts:Array TypeId} (hx:evalF f x=.map (some g)) (hy:evalF f y=.agg (Rep.cells k).toArray) (hi:L[i]?=some (MapT g m)) (hts:ts[0]?=some t) (ht:P.underlying t=some (.map kt et))
  (hp:mpos k m 0=some (j,b)) {L':List Assn} (hL:L.set i (MapT g (m.eraseIdx j))=L') (h:ExL P n ops rest Q f L'):ExL P n ops (⟨none,.call ⟨.builtin .delete,#[x,y],ts⟩,ty,pos,af,none⟩::rest) Q f L:=by
 subst hL
 refine ExL.eff rfl rfl (R:=fun _ L2=>L2=L.set i (MapT g (m.eraseIdx j))) (fun F w s=>?_) (fun v L2 e=>by subst e;exact h)
 obtain ⟨es,clock,hg,he⟩:=map_heap hi s
 have hf:=run_find (P:=P) (kt:=kt) k w es.toList m he
 have hc:=K.check w es.isEmpty k
 rw [hp] at hf
 refine ⟨.tuple #[],_,_,.inl ?_,?_,map_set (es':=es.eraseIdxIfInBounds j) (clock':=clock) hi hg (by rw [Array.toList_eraseIdxIfInBounds,eraseIdx_map,he,eraseIdx_map]) s,rfl⟩
 ·simp [execOp,resolve,invoke,builtin,hx,hy,Builtin.delete_,hts,run_underlying ht,MapKept.run_getObj_map hg,hc,hf,MapKept.run_setObj_map _ hg]
 ·exact ⟨rfl,rfl,rfl⟩
end
end
section
open Go.ChangeShapes Go.WideShapes Go.ChangeAt Go.RowKit
theorem i64_of_wf {n:Int} (h:(Lit.int .i64 n).wf=true):I64 n:=by
 have:=bounds_i64 h;unfold I64;omega
theorem u8_of_wf {n:Int} (h:(Lit.int .u8 n).wf=true):0≤n∧n≤255:=by
 have:=bounds_u8 h;omega
section
variable {H:Type} {enc:TypeId×Value→H} {P:Program} {w:World} {base:Nat} {spare:Nat→Bool} {held:Bool} {fuel:Nat} {t:TypeId} {cs:List Value} {x:DataW H×List MemPlace}
end
theorem Below.trodAll {H:Type} {enc:TypeId×Value→H} {P:Program} (hl:laidOutB P=true) {W W':World} (hb:Kp W W') :
  ∀ (ts:List TypeId) (vs:List Value) (ds:List (DataW H)) (ps:List MemPlace),(∀ t∈ts,P.readableRec t=true∧t<P.types.size)→(∀ x∈ps,x.block<W.heap.size) →
   DataW.TrodAll enc P W 0 (fun _=>true) true ts vs ds ps→DataW.TrodAll enc P W' 0 (fun b=>decide (b<W.heap.size)) true ts vs ds ps
 | [],vs,ds,ps,_,_,h=>by
  obtain ⟨rfl,rfl,rfl⟩:=trodAll_nil h
  rfl
 | t::ts,vs,ds,ps,hr,hlt,h=>by
  obtain ⟨v,vs',d,ds',p,q,rfl,rfl,rfl,h1,h2⟩:=trodAll_cons h
  refine ⟨p,q,?_,?_,rfl⟩
  ·exact Below.trod hl (hr t (by simp)).1 (hr t (by simp)).2 h1 hb (fun x hx=>hlt x (by simp [hx]))
  ·exact Below.trodAll hl hb ts vs' ds' q (fun t ht=>hr t (by simp [ht])) (fun x hx=>hlt x (by simp [hx])) h2
theorem trodAll_lt {H:Type} {enc:TypeId×Value→H} {P:Program} {w:World} {base:Nat} {spare:Nat→Bool} {held:Bool} :
  ∀ (ts:List TypeId) (vs:List Value) (ds:List (DataW H)) (ps:List MemPlace),DataW.TrodAll enc P w base spare held ts vs ds ps→∀ x∈ps,x.block<w.heap.size
 | [],vs,ds,ps,h=>by
  obtain ⟨rfl,rfl,rfl⟩:=trodAll_nil h
  simp
 | t::ts,vs,ds,ps,h=>by
  obtain ⟨v,vs',d,ds',p,q,rfl,rfl,rfl,⟨m,h1⟩,h2⟩:=trodAll_cons h
  intro x hx
  rcases List.mem_append.1 hx with hx | hx
  ·exact DataW.trod_lt m _ _ _ h1 x hx
  ·exact trodAll_lt ts vs' ds' q h2 x hx
theorem trodAll_len {H:Type} {enc:TypeId×Value→H} {P:Program} {w:World} {base:Nat} {spare:Nat→Bool} {held:Bool} :
  ∀ (ts:List TypeId) (vs:List Value) (ds:List (DataW H)) (ps:List MemPlace),DataW.TrodAll enc P w base spare held ts vs ds ps→ds.length=ts.length
 | [],vs,ds,ps,h=>by
  obtain ⟨rfl,rfl,rfl⟩:=trodAll_nil h
  rfl
 | t::ts,vs,ds,ps,h=>by
  obtain ⟨v,vs',d,ds',p,q,rfl,rfl,rfl,h1,h2⟩:=trodAll_cons h
  simp [trodAll_len ts vs' ds' q h2]
structure Given {H:Type} (enc:TypeId×Value→H) (P:Program) (fn:Func) (W:World) (base:Nat) (args:Array Value) (ds:List (DataW H)) (ps:List MemPlace):Prop where
 ok:∀ (j:Nat) t v,fn.params[j]?=some t→args[j]?=some v→Value.okWide P W .any base t v
 trod:DataW.TrodAll enc P W 0 (fun _=>true) true fn.params.toList args.toList ds ps
 sized:(DataW.weightsEach P fn.params.toList ds).all (·≤reachBytes)=true
theorem law_lifts {C:Checked} {f:FuncId} {fn:Func} {s:ChangeSpec} {tb:TypeId} (own:ownKnob C.prog.godebug=none) (noInit:C.prog.inits.idxOf? f=none)
  (hfn:C.prog.funcs[f]?=some fn) (laid:laidOutB C.prog=true) (hres:fn.resultTypes=#[tb]) (hb:C.prog.underlying tb=some .bool) (hvars:s.vars=[])
  (hread:∀ t∈fn.params.toList,C.prog.readableRec t=true∧t<C.prog.types.size)
  (hs:∀ (H:Type) (ds:List (DataW H)),ds.length=fn.params.toList.length→s.fn H ds={ results:=[.lit (.bool true)],args:=ds })
  (os:Os) (started:os.Started) (H:Type) (enc:TypeId×Value→H)
  (witness:∃ (w:World) (tape:Tape) (i:Input),w.os=os∧(w.forCall tape i).Shaped C.prog∧i.vars=[]∧Input.okWide C.prog (w.forCall tape i) .any w.heap.size f i ∧
   s.pre6 enc C.prog fn [] false (w.forCall tape i).memory i.args∧Assume.holds {} C.prog (lone (Frame.enter C.prog f i.args .normal) [] (w.forCall tape i)))
  (walk:∀ (W:World) (base:Nat) (args:Array Value) (ds:List (DataW H)) (ps:List MemPlace),Given enc C.prog fn W base args ds ps→Calls C.prog f args W (Yes W)) :
  ReturnsInHanded {} C os f .any (s.pre6 enc C.prog fn [] false) (s.post enc C.prog fn false true false false):=by
 refine returnsInHanded_of_change_sized own started noInit hfn witness ?_
 intro W base args ds gs before hval hW _ hsz _
 have hW':=hW
 obtain ⟨p,q,hA,hV,rfl,hfz,hnd⟩:=hW
 rw [hvars] at hV
 obtain ⟨rfl,rfl⟩:gs=[]∧q=[]:=by
  cases gs with
  | nil=>exact ⟨rfl,hV⟩
  | cons g gs=>exact hV.elim
 have hsz':(DataW.weightsEach C.prog fn.params.toList ds).all (·≤reachBytes)=true:=by
  have e:s.plain.varTypes C.prog=[]:=by unfold DataSpec.varTypes;simp [ChangeSpec.plain,hvars]
  rw [e] at hsz
  simpa using hsz
 have lt:=trodAll_lt _ _ _ _ hA
 refine (walk W base args ds p ⟨hval,hA,hsz'⟩).mono fun e W' ⟨he,hk⟩=>?_
 subst he
 have hd:=trodAll_len _ _ _ _ hA
 refine ⟨_,rfl,ds,[],p++[],[]++[],p,[],hW',?_,?_,?_,Below.frame hk _,fun h=>by cases h⟩
 ·rw [List.append_nil,hs H ds hd,hres]
  exact ⟨[],[],shut_bool hb true,rfl,rfl⟩
 ·rw [List.append_nil,hs H ds hd]
  exact Below.trodAll laid hk _ _ _ _ hread lt hA
 ·rw [List.append_nil,hs H ds hd,hvars]
  rfl
end
section
open Go.ChangeShapes Go.WideShapes Go.ChangeAt Go.RowKit
def OkT {H:Type} (enc:TypeId×Value→H) (P:Program) (w:World) (t:TypeId) (cs:List Value):Prop :=
 ∃ fuel d ps,DataW.trod enc P w 0 (fun _=>true) true fuel t cs=some (d,ps)∧(d.weights P t).all (·≤reachBytes)=true
section
variable {H:Type} {enc:TypeId×Value→H} {P:Program} {w:World} {t:TypeId} {cs:List Value}
theorem okT_int {k:IntKind} (hu:P.underlying t=some (.int k)) (h:OkT enc P w t cs):∃ n,cs=[.int k n]∧(Lit.int k n).wf=true:=by
 obtain ⟨fuel,d,ps,ht,_⟩:=h
 obtain ⟨n,h1,_,h3⟩:=DataW.trod_int hu ht
 exact ⟨n,h1,h3⟩
theorem okT_string (hu:P.underlying t=some .string) (h:OkT enc P w t cs):∃ l:List UInt8,cs=[.string (S l)]∧l.length≤reachBytes:=by
 obtain ⟨fuel,d,ps,ht,hw⟩:=h
 obtain ⟨s,h1,h2,_⟩:=DataW.trod_string hu ht
 simp only [Prod.mk.injEq] at h2
 obtain ⟨rfl,_⟩:=h2
 refine ⟨s.data.toList,by rw [h1,← S_of],?_⟩
 simpa [DataW.weights] using hw
theorem weightsEach_mem:∀ {ts:List TypeId} {ds:List (DataW H)} {i:Nat} {t:TypeId} {d:DataW H},(DataW.weightsEach P ts ds).all (·≤reachBytes)=true→ts[i]?=some t→ds[i]?=some d→(d.weights P t).all (·≤reachBytes)=true
 | [],_,_,_,_,_,h,_=>by simp at h
 | _::_,[],_,_,_,_,_,h=>by simp at h
 | t::ts,d::ds,0,_,_,hw,h1,h2=>by
  simp at h1 h2
  subst h1;subst h2
  rw [DataW.weightsEach,List.all_append,Bool.and_eq_true] at hw
  exact hw.1
 | t::ts,d::ds,i+1,_,_,hw,h1,h2=>by
  rw [DataW.weightsEach,List.all_append,Bool.and_eq_true] at hw
  exact weightsEach_mem hw.2 (by simpa using h1) (by simpa using h2)
theorem weightsAll_mem {e:TypeId}:∀ {ds:List (DataW H)} {d:DataW H},(DataW.weightsAll P e ds).all (·≤reachBytes)=true→d∈ds→(d.weights P e).all (·≤reachBytes)=true
 | [],_,_,h=>by cases h
 | d::ds,_,hw,h=>by
  rw [DataW.weightsAll,List.all_append,Bool.and_eq_true] at hw
  rcases List.mem_cons.1 h with e | e
  ·subst e;exact hw.1
  ·exact weightsAll_mem hw.2 e
theorem okT_struct {fs:Array Field} (hu:P.underlying t=some (.struct fs)) (h:OkT enc P w t cs):cs.length=P.cellsOf t∧∀ (i:Nat) (f:Field),fs[i]?=some f→OkT enc P w f.type ((cs.drop f.offset).take (P.cellsOf f.type)):=by
 obtain ⟨fuel,d,ps,ht,hw⟩:=h
 obtain ⟨xs,n,rfl,hx,hl,hxl,hf⟩:=DataW.trod_struct hu ht
 simp only [Prod.mk.injEq] at hx
 obtain ⟨rfl,_⟩:=hx
 refine ⟨hl,fun i f hi=>?_⟩
 have h1:=hf i f hi
 have hil:i<xs.length:=by rw [hxl];exact (Array.getElem?_eq_some_iff.1 hi).1
 rw [List.getElem?_eq_getElem hil] at h1
 refine ⟨n,xs[i].1,xs[i].2,h1,?_⟩
 simp only [DataW.weights,hu] at hw
 refine weightsEach_mem hw (i:=i) ?_ ?_
 ·rw [List.getElem?_map]
  have:fs.toList[i]?=some f:=by simpa using hi
  rw [this];rfl
 ·rw [List.getElem?_map,List.getElem?_eq_getElem hil];rfl
theorem cells?_get {b:Nat} {a:Addr} {n:Nat} {cs:List Value} (h:w.cells? b a n=some cs):cs.length=n∧∀ j v,cs[j]?=some v→w.cell? (a.add j)=some v:=by
 unfold World.cells? at h
 split at h
 ·have hl:=mapM_some_length h
  simp at hl
  refine ⟨hl,fun j v hj=>?_⟩
  have hjl:j<n:=by rw [← hl];exact (List.getElem?_eq_some_iff.1 hj).1
  have:=mapM_some_get h j j (by simp [hjl])
  rw [this,hj]
 ·cases h
theorem okT_slice {e:TypeId} (hu:P.underlying t=some (.slice e)) (h:OkT enc P w t cs):cs=[.slice none 0 0]∨∃ a len cap,cs=[.slice (some a) len cap]∧len≤cap∧cap≤maxLen∧len * P.bytesOf e≤reachBytes ∧
  ∀ i,i<len→∃ ecs,ecs.length=P.cellsOf e∧(∀ j v,ecs[j]?=some v→w.cell? (a.add (i * P.cellsOf e+j))=some v)∧OkT enc P w e ecs:=by
 obtain ⟨fuel,d,ps,ht,hw⟩:=h
 rcases DataW.trod_slice hu ht with ⟨h1,_⟩ | ⟨a,len,cap,elems,rest,n,rfl,rfl,hx,_,hlc,hcm,hel,hget,_,_⟩
 ·exact .inl h1
 ·right
  simp only [Prod.mk.injEq] at hx
  obtain ⟨rfl,_⟩:=hx
  simp only [DataW.weights,hu,List.all_cons,Bool.and_eq_true,List.all_append,List.length_map,decide_eq_true_eq] at hw
  refine ⟨a,len,cap,rfl,hlc,hcm,?_,fun i hi=>?_⟩
  ·have:len * P.bytesOf e≤(elems.length+rest.length) * P.bytesOf e:=Nat.mul_le_mul_right _ (by omega)
   omega
  ·have h1:=hget i hi
   have hil:i<elems.length:=by omega
   rw [List.getElem?_eq_getElem hil] at h1
   cases hc:w.cells? 0 (a.add (i * P.cellsOf e)) (P.cellsOf e) with
   | none=>rw [hc] at h1;cases h1
   | some ecs =>
    rw [hc] at h1
    simp only [Option.bind_some] at h1
    obtain ⟨hl,hcell⟩:=cells?_get hc
    refine ⟨ecs,hl,fun j v hj=>by rw [← addr_add2];exact hcell j v hj,n,elems[i].1,elems[i].2,h1,?_⟩
    exact weightsAll_mem hw.2.1 (List.mem_map.2 ⟨elems[i],List.getElem_mem hil,rfl⟩)
theorem okT_list {e:TypeId} {α:Type} [Rep α] (Good:α→Prop) (hu:P.underlying t=some (.slice e)) (hs:P.cellsOf e=Rep.sz α) (he:∀ ecs,OkT enc P w e ecs→∃ a:α,ecs=Rep.cells a∧Good a) (h:OkT enc P w t cs) :
  ∃ v,∃ xs:List α,cs=[v]∧v.oneCell'=true∧Sl w v (Rep.sz α) xs.length (cellsOf xs)∧(∀ a∈xs,Good a)∧xs.length * P.bytesOf e≤reachBytes:=by
 rcases okT_slice hu h with rfl | ⟨a,len,cap,rfl,hlc,hcm,hb,hget⟩
 ·exact ⟨_,[],rfl,rfl,Sl.nil w _,by simp,by simp⟩
 ·have key:∀ i,i<len→∃ x:α,Good x∧∀ j v,(Rep.cells x)[j]?=some v→w.cell? (a.add (i * Rep.sz α+j))=some v:=fun i hi=>by
   obtain ⟨ecs,_,hc,hok⟩:=hget i hi
   obtain ⟨x,rfl,hg⟩:=he ecs hok
   exact ⟨x,hg,by rw [← hs];exact hc⟩
  have build:∀ m,m≤len→∃ xs:List α,xs.length=m∧(∀ x∈xs,Good x)∧∀ i (hi:i<xs.length) j v,(Rep.cells (xs[i]'hi))[j]?=some v→w.cell? (a.add (i * Rep.sz α+j))=some v:=by
   intro m
   induction m with
   | zero=>intro _;exact ⟨[],rfl,by simp,fun i hi=>by simp at hi⟩
   | succ m ih =>
    intro hm
    obtain ⟨xs,h1,h2,h3⟩:=ih (by omega)
    obtain ⟨x,hg,hc⟩:=key m (by omega)
    refine ⟨xs++[x],by simp [h1],?_,fun i hi j v hj=>?_⟩
    ·intro y hy
     rcases List.mem_append.1 hy with h | h
     ·exact h2 y h
     ·simp at h;subst h;exact hg
    ·by_cases him:i<xs.length
     ·rw [List.getElem_append_left him] at hj
      exact h3 i him j v hj
     ·have:i=m:=by simp at hi;omega
      subst this
      rw [List.getElem_append_right (by omega)] at hj
      simp at hj
      exact hc j v hj
  obtain ⟨xs,h1,h2,h3⟩:=build len (Nat.le_refl _)
  refine ⟨_,xs,rfl,rfl,⟨cellsOf_len xs,some a,cap,by rw [h1],by rw [h1];exact hlc,hcm,(fun h=>by cases h),fun ad had j u hj=>?_⟩,h2,by rw [h1];exact hb⟩
  cases had
  have hp:0<Rep.sz α:=Rep.pos
  have hjl:j<xs.length * Rep.sz α:=by rw [← cellsOf_len];exact (List.getElem?_eq_some_iff.1 hj).1
  have hi:j / Rep.sz α<xs.length:=Nat.div_lt_of_lt_mul (by rw [Nat.mul_comm];exact hjl)
  have ho:j % Rep.sz α<Rep.sz α:=Nat.mod_lt _ hp
  have ej:j=j / Rep.sz α * Rep.sz α+j % Rep.sz α:=by rw [Nat.mul_comm];exact (Nat.div_add_mod _ _).symm
  rw [ej] at hj ⊢
  rw [cellsOf_get hi ho] at hj
  exact h3 _ hi _ _ hj
theorem okT_u8i (hu:P.underlying t=some (.int .u8)) (h:OkT enc P w t cs):∃ n:Int,cs=[.int .u8 n]∧0≤n∧n≤255:=by
 obtain ⟨n,rfl,hw⟩:=okT_int hu h
 have:=u8_of_wf hw
 exact ⟨n,rfl,by omega,by omega⟩
theorem okT_i64 (hu:P.underlying t=some (.int .i64)) (h:OkT enc P w t cs):∃ n:Int,cs=[.int .i64 n]∧I64 n:=by
 obtain ⟨n,rfl,hw⟩:=okT_int hu h
 exact ⟨n,rfl,i64_of_wf hw⟩
theorem arg_ok {b0:Nat} {r:Reach} {v:Value} {d:DataW H} {p:List MemPlace} (hv:Value.okWide P w r b0 t v) (h:DataW.Trod enc P w 0 (fun _=>true) true t v d p) (hw:(d.weights P t).all (·≤reachBytes)=true):OkT enc P w t v.cells.toList:=by
 obtain ⟨fuel,hf⟩:=h
 exact ⟨fuel,d,p,hf,hw⟩
theorem arg_agg {b0:Nat} {r:Reach} {v:Value} (ha:aggB P t=some true) (hv:Value.okWide P w r b0 t v):v=.agg v.cells.toList.toArray:=by
 unfold aggB at ha
 unfold Value.okWide at hv
 cases hu:P.underlying t with
 | none=>rw [hu] at ha;cases ha
 | some x =>
  rw [hu] at ha hv
  cases x <;> simp at ha <;> (obtain ⟨cs,rfl,_⟩:=hv;simp [Value.cells])
theorem arg_one {b0:Nat} {r:Reach} {v u:Value} (ha:aggB P t=some false) (hv:Value.okWide P w r b0 t v) (h:v.cells.toList=[u]) (h1:u.oneCell'=true):v=u:=by
 cases v with
 | agg cs =>
  exfalso
  unfold aggB at ha
  unfold Value.okWide at hv
  cases hu:P.underlying t with
  | none=>rw [hu] at ha;cases ha
  | some x =>
   rw [hu] at ha hv
   cases x <;> simp at ha <;> (simp [Cell.okWide,Cell.ok,hu] at hv)
 | _=>simpa [Value.cells] using h
end
theorem hread_ok {P:Program} {ts:List TypeId} (h:(ts.all fun t=>P.readableRec t && decide (t<P.types.size))=true):∀ t∈ts,P.readableRec t=true∧t<P.types.size:=by
 intro t ht
 have:=List.all_eq_true.1 h t ht
 simpa using this
theorem sized_two {H:Type} {P:Program} {t:TypeId} {ts:List TypeId} {d:DataW H} {ds:List (DataW H)} (h:(DataW.weightsEach P (t::ts) (d::ds)).all (·≤reachBytes)=true):(d.weights P t).all (·≤reachBytes)=true∧(DataW.weightsEach P ts ds).all (·≤reachBytes)=true:=by
 rw [DataW.weightsEach,List.all_append,Bool.and_eq_true] at h
 exact h
end
theorem rJ {p:Prop} (h:p:=by rfl):p:=h
theorem rM {p:Prop} (h:p:=by omega):p:=h
theorem rQ {p:Prop} (h:p:=by kernel_rfl):p:=h
abbrev O1 (v:Value):Prop:=v.oneCell'=true
theorem mw {G G':Prop} (k:G') (h:Hold G'→G:=by (intro k;refine ExL.nil ?_;refine mxEnd_n rF ?_;refine mn ?_;exact k.out)):G:=h ⟨k⟩
theorem re0 {G:Prop} (h:G:=by (refine rn ?_;intros;refine fr ?_;exact ⟨_,rB,rfl,rfl⟩)):G:=h
theorem re1 {G:Prop} (h:G:=by (refine rn ?_;intros;refine fr ?_;exact ⟨_,rP,rfl,rfl⟩)):G:=h
theorem re2 {G:Prop} (h:G:=by (refine rn ?_;intros;refine fr ?_;exact ⟨_,rB,by assumption,rfl⟩)):G:=h
theorem re3 {G:Prop} (h:G:=by (refine rn ?_;intros;refine fr ?_;exact ⟨_,rB,rfl⟩)):G:=h
theorem re4 {G:Prop} (h:G:=by (refine rn ?_;intros;refine fr ?_;exact ⟨_,rP,rfl⟩)):G:=h
theorem re5 {G:Prop} (h:G:=by (refine rn ?_;intros;refine fr ?_;exact ⟨_,rB,⟨rfl,rfl⟩,rfl⟩)):G:=h
theorem re6 {G:Prop} (h:G:=by (refine rn ?_;intros;refine fr ?_;exact ⟨_,rB,by assumption,rfl,rfl⟩)):G:=h
theorem re7 {G:Prop} (h:G:=by (refine rn ?_;intros;refine fr ?_;exact ⟨_,rB,rfl,rfl,rfl⟩)):G:=h
theorem re8 {G:Prop} (h:G:=by (refine rn ?_;intros;refine fr ?_;exact ⟨_,rP,_,rfl,rfl⟩)):G:=h
theorem re9 {G:Prop} (h:G:=by (refine rn ?_;intros;refine fr ?_;exact ⟨_,rB,_,rfl,rfl⟩)):G:=h
theorem mu4 {G G':Prop} (k:G') (h:Hold G'→G:=by (intro k;refine Ex.mixA 4 _ rfl (by kernel_rfl) (Fac.refl _) ?_;refine mn ?_;exact k.out)):G:=h ⟨k⟩
theorem mu5 {G G':Prop} (k:G') (h:Hold G'→G:=by (intro k;refine Ex.mixA 5 _ rfl (by kernel_rfl) (Fac.refl _) ?_;refine mn ?_;exact k.out)):G:=h ⟨k⟩
theorem mu6 {G G':Prop} (k:G') (h:Hold G'→G:=by (intro k;refine Ex.mixA 6 _ rfl (by kernel_rfl) (Fac.refl _) ?_;refine mn ?_;exact k.out)):G:=h ⟨k⟩
theorem mu7 {G G':Prop} (k:G') (h:Hold G'→G:=by (intro k;refine Ex.mixA 7 _ rfl (by kernel_rfl) (Fac.refl _) ?_;refine mn ?_;exact k.out)):G:=h ⟨k⟩
theorem mu8 {G G':Prop} (k:G') (h:Hold G'→G:=by (intro k;refine Ex.mixA 8 _ rfl (by kernel_rfl) (Fac.refl _) ?_;refine mn ?_;exact k.out)):G:=h ⟨k⟩
theorem mu9 {G G':Prop} (k:G') (h:Hold G'→G:=by (intro k;refine Ex.mixA 9 _ rfl (by kernel_rfl) (Fac.refl _) ?_;refine mn ?_;exact k.out)):G:=h ⟨k⟩
theorem mu10 {G G':Prop} (k:G') (h:Hold G'→G:=by (intro k;refine Ex.mixA 10 _ rfl (by kernel_rfl) (Fac.refl _) ?_;refine mn ?_;exact k.out)):G:=h ⟨k⟩
theorem mu11 {G G':Prop} (k:G') (h:Hold G'→G:=by (intro k;refine Ex.mixA 11 _ rfl (by kernel_rfl) (Fac.refl _) ?_;refine mn ?_;exact k.out)):G:=h ⟨k⟩
theorem mu12 {G G':Prop} (k:G') (h:Hold G'→G:=by (intro k;refine Ex.mixA 12 _ rfl (by kernel_rfl) (Fac.refl _) ?_;refine mn ?_;exact k.out)):G:=h ⟨k⟩
theorem mu13 {G G':Prop} (k:G') (h:Hold G'→G:=by (intro k;refine Ex.mixA 13 _ rfl (by kernel_rfl) (Fac.refl _) ?_;refine mn ?_;exact k.out)):G:=h ⟨k⟩
theorem mu14 {G G':Prop} (k:G') (h:Hold G'→G:=by (intro k;refine Ex.mixA 14 _ rfl (by kernel_rfl) (Fac.refl _) ?_;refine mn ?_;exact k.out)):G:=h ⟨k⟩
theorem mu16 {G G':Prop} (k:G') (h:Hold G'→G:=by (intro k;refine Ex.mixA 16 _ rfl (by kernel_rfl) (Fac.refl _) ?_;refine mn ?_;exact k.out)):G:=h ⟨k⟩
theorem mu17 {G G':Prop} (k:G') (h:Hold G'→G:=by (intro k;refine Ex.mixA 17 _ rfl (by kernel_rfl) (Fac.refl _) ?_;refine mn ?_;exact k.out)):G:=h ⟨k⟩
theorem mu20 {G G':Prop} (k:G') (h:Hold G'→G:=by (intro k;refine Ex.mixA 20 _ rfl (by kernel_rfl) (Fac.refl _) ?_;refine mn ?_;exact k.out)):G:=h ⟨k⟩
theorem mu21 {G G':Prop} (k:G') (h:Hold G'→G:=by (intro k;refine Ex.mixA 21 _ rfl (by kernel_rfl) (Fac.refl _) ?_;refine mn ?_;exact k.out)):G:=h ⟨k⟩
theorem mu22 {G G':Prop} (k:G') (h:Hold G'→G:=by (intro k;refine Ex.mixA 22 _ rfl (by kernel_rfl) (Fac.refl _) ?_;refine mn ?_;exact k.out)):G:=h ⟨k⟩
theorem mu24 {G G':Prop} (k:G') (h:Hold G'→G:=by (intro k;refine Ex.mixA 24 _ rfl (by kernel_rfl) (Fac.refl _) ?_;refine mn ?_;exact k.out)):G:=h ⟨k⟩
theorem mu26 {G G':Prop} (k:G') (h:Hold G'→G:=by (intro k;refine Ex.mixA 26 _ rfl (by kernel_rfl) (Fac.refl _) ?_;refine mn ?_;exact k.out)):G:=h ⟨k⟩
end Go.Proofs.YtogcfijlhpaeeaaGreat
