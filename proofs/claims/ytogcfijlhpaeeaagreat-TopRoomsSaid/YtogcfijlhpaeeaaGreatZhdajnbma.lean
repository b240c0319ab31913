/- Texts, one behind the other. No condition. -/
import Derived.Test.YtogcfijlhpaeeaaGreatZcjnnfnef
import Derived.Test.YtogcfijlhpaeeaaGreatZehjcikgl
import Derived.Test.YtogcfijlhpaeeaaGreatZidbabpgd
open Go.RowKit
set_option linter.unusedSimpArgs false
set_option linter.unusedVariables false
set_option linter.unusedSectionVars false
set_option maxHeartbeats 32000000
namespace Go.Proofs.YtogcfijlhpaeeaaGreat
section
theorem frag_assoc3 {a b c:Frag}:(a.add b).add c=a.add (b.add c):=by
 funext n
 unfold Frag.add
 cases a n <;> rfl
section
variable {P:Program} {n:Nat} {Q:Post} {f:Nat→Value} {L:List Assn}
theorem ExM.rangeFunc {x:Operand} {p:Nat} {A B:Code} {lb:Array Value} {gf:FuncId} (K:List Assn→Prop) (hx:evalF f x=.func (.func gf) #[] lb) (hrun:∀ (xs:Array Value) (w:World),(callFunc gf xs).run P w=.ok (.enter gf xs) w)
  (hit:∀ (l D0:Nat) (tm:Array Value) (fn:FuncId),tm.size=n→(∀ t,tm.getD t undef=f t) →
   Fn P gf (#[.func (.yield l) #[] #[]]++lb) (Pt l (recL .ready fn tm p A B D0)::Pt D0 (.deferred (some []))::L) fun v L'=>∃ M',L'=Pt l (recL .ready fn tm p A B D0)::Pt D0 (.deferred (some []))::M'∧K M')
  (h:∀ M',K M'→Q .normal f M'):ExM P n (.rangeFunc x #[p] A B) Q f L:=fun F w0 f0 ws a w ⟨ms,G,hn,hd,hG,H⟩ hc=>by
 refine (wpIn_wide (n:=1)).1 (wpIn_rangeFunc ?_)
 intro fn _
 rw [show (Fence.wide.round:Option Nat)=none from rfl]
 have sz:(w.alloc (.deferred (some []))).heap.size=w.heap.size+1:=World.size_alloc ..
 refine ⟨w.heap.size+1,[{ target:=.collected w.heap.size,args:=#[] }],(w.alloc (.deferred (some []))).alloc (recL .ready fn a.tmps p A B w.heap.size),{ target:=.fn (.func gf) lb,args:=#[.func (.yield (w.heap.size+1)) #[] #[]] },(w.alloc (.deferred (some []))).alloc (recL .ready fn a.tmps p A B w.heap.size),gf,
  #[.func (.yield (w.heap.size+1)) #[] #[]]++lb,(w.alloc (.deferred (some []))).alloc (recL .ready fn a.tmps p A B w.heap.size),run_enterLoop_outer _ _ _ _ _,?_,fun f' _=>trivial,?_,(fun e=>by cases e),?_⟩
 ·have hx2:a.eval x=.func (.func gf) #[] lb:=by rw [H.2.1.eval];exact hx
  simp only [resolve,hx2]
  simp [go_sem]
 ·simp [invoke,go_sem,hrun]
 ·have s1:=Sats.alloc (A:=Pt w.heap.size (.deferred (some []))) (.deferred (some [])) H.2.2.1 rfl
  have s2:=Sats.alloc (A:=Pt (w.heap.size+1) (recL .ready fn a.tmps p A B w.heap.size)) (recL .ready fn a.tmps p A B w.heap.size) s1 (by rw [sz];rfl)
  refine callsIn_wide.2 ((hit (w.heap.size+1) w.heap.size a.tmps fn H.2.1.2.1 H.2.1.2.2 (G.add F) w0 _ (Rest.alloc (Rest.alloc H.1 _) _) s2).mono ?_)
  rintro e w3 ⟨v,L',rfl,hr,hs,M',rfl,hK⟩
  obtain ⟨hl,s3⟩:=Sats.putPt (o':=.loop { state:=.exhausted,pending:=none,fn:=fn,tmps:=a.tmps,params:=#[p],assign:=A,body:=B,defers:=w.heap.size }) hs
  refine ⟨none,_,run_endLoop hl (by simp),?_⟩
  have s4:Sats _ (Pt w.heap.size (.deferred (some []))::M') (G.add F):=(Sub.drop _ (Sub.refl _)) _ _ s3
  obtain ⟨hh,rfl,dd,s5⟩:=s4
  have hnew:w.heap.size ∉ ms:=fun hm=>by
   have h1:=hG _ hm
   have h2:=dd w.heap.size
   rw [Frag.one_self] at h2
   rcases h2 with h2 | h2
   ·cases h2
   ·unfold Frag.add at h2;rw [h1] at h2;cases h2
  have ddG:(Frag.one w.heap.size (.deferred (some []))).disj G:=fun k=>by
   rcases dd k with h2 | h2
   ·exact .inl h2
   ·right
    unfold Frag.add at h2
    cases hg:G k with
    | none=>rfl
    | some o=>rw [hg] at h2;cases h2
  have ddF:(Frag.one w.heap.size (.deferred (some []))).disj F:=fun k=>by
   rcases dd k with h2 | h2
   ·exact .inl h2
   ·right
    unfold Frag.add at h2
    cases hg:G k with
    | none=>rw [hg] at h2;exact h2
    | some o=>rw [hg] at h2;cases h2
  refine ⟨f,M',⟨w.heap.size::ms,(Frag.one w.heap.size (.deferred (some []))).add G,List.nodup_cons.2 ⟨hnew,hn⟩,?_,?_,hr,?_,?_,H.2.2.2⟩,h M' hK⟩
  ·intro k
   rcases ddF k with h2 | h2
   ·rcases hd k with h3 | h3
    ·left;unfold Frag.add;rw [h2];exact h3
    ·exact .inr h3
   ·exact .inr h2
  ·intro k hk
   rcases List.mem_cons.1 hk with rfl | hk
   ·unfold Frag.add;rw [Frag.one_self]
   ·have h1:=hG k hk
    have hne:k≠w.heap.size:=fun e=>hnew (e ▸ hk)
    unfold Frag.add
    rw [Frag.one_other _ hne]
    exact h1
  ·refine ⟨?_,H.2.1.2⟩
   show _++a.defers=_
   rw [H.2.1.1]
   rfl
  ·rw [frag_assoc3];exact s5
theorem sats_kill {w w':World} {L:List Assn} {G F:Frag} (s:Sats w L (G.add F)) (hd:G.disj F) (hw:∀ (k:Nat) (o:Obj),G k=none→w.heap[k]?=some o→w'.heap[k]?=some o):Sats w' L F:=by
 have:=Sats.swap (h:=G) (h':=fun _=>none) (fun _ _=>rfl) hw (fun k o e=>by cases e) hd s
 have e:Frag.add (fun _=>none) F=F:=by funext k;rfl
 rwa [e] at this
theorem leaves_marks {fn:Func} {tmps:Array Value} {R:Ending→World→Prop}:∀ (ms:List Nat) (w:World),ms.Nodup→(∀ k∈ms,w.heap[k]?=some (.deferred (some []))) →
  (∀ w':World,(∀ (k:Nat) (o:Obj),k ∉ ms→w.heap[k]?=some o→w'.heap[k]?=some o)→Rest w w'→∃ v,(results fn tmps).run P w'=.ok v w'∧R (.returned v) w') →
  LeavesInM Fence.wide 0 P fn tmps R (marksD ms) .returning w
 | [],w,_,_,h=>h w (fun k o _ e=>e) (Rest.refl w)
 | m::ms,w,hn,hm,h=>by
  obtain ⟨hn1,hn2⟩:=List.nodup_cons.1 hn
  have hk:=hm m (List.mem_cons_self ..)
  refine ⟨by simp,.inl ⟨m,_,rfl,run_takeDeferred hk,?_⟩⟩
  refine leaves_marks ms _ hn2 (fun k hk2=>?_) (fun w' h1 h2=>h w' (fun k o hk2 ho=>?_) (Rest.trans (Rest.putObj (Rest.refl w) m _) h2))
  ·have hne:k≠m:=fun e=>hn1 (e ▸ hk2)
   exact (World.putObj_heap_other rM).trans (hm k (List.mem_cons_of_mem _ hk2))
  ·rw [List.mem_cons,not_or] at hk2
   have hne:=hk2.1
   exact h1 k o hk2.2 ((World.putObj_heap_other rM).trans ho)
theorem Fn.of_exM {k:FuncId} {fn:Func} {c:Code} {args:Array Value} {R:Value→List Assn→Prop} (hf:P.funcs[k]?=some fn) (hb:fn.body=some c) (hnn:fn.ntmps=n) (hn:Nat.ble args.size n=true)
  (h:ExM P n c (fin P fn R) (frame0 args) L):Fn P k args L R:=by
 subst hnn
 have hn:=Nat.le_of_ble_eq_true hn
 intro F w0 w r s
 refine (callsIn_wide (n:=0)).1 (callsIn_of_wp_marks hf hb trivial ?_ rfl)
 have ag:Agree [] fn.ntmps { tmps:=args++Array.replicate (fn.ntmps - args.size) undef,defers:=[] } (frame0 args):=by
  refine ⟨rfl,by simp;omega,fun t=>?_⟩
  simp only [frame0,Array.getD_eq_getD_getElem?,List.getD_eq_getElem?_getD,Array.getElem?_toList]
  by_cases ht:t<args.size
  ·rw [Array.getElem?_append_left ht]
  ·rw [Array.getElem?_append_right rM,Array.getElem?_replicate,Array.getElem?_eq_none (show args.size≤t by omega)]
   split <;> rfl
 have e0:Frag.add (fun _=>none) F=F:=by funext k;rfl
 refine wpIn_wide.2 (wp_mono (h F w0 (frame0 args) (fun _=>true) _ w ⟨[],fun _=>none,List.nodup_nil,fun _=>.inl rfl,by simp,r,ag,by rw [e0];exact s,fun t ht=>by cases ht⟩ (fun _ _=>rfl)) ?_)
 have fin2:∀ (a:Act) (w':World) (f:Nat→Value) (L':List Assn),HereM fn.ntmps F w0 (frame0 args) (fun _=>true) a w' f L'→(∃ v L2,ResV P fn f L' v∧Sub L2 L'∧R v L2) →
   LeavesInM Fence.wide 0 P fn a.tmps (fun e w'=>∃ v L',e=.returned v∧Rest w0 w'∧Sats w' L' F∧R v L') a.defers .returning w':=fun a w' f L' ⟨ms,G,hn,hd,hG,H⟩ ⟨v,L2,hv,hs,hR⟩=>by
  rw [H.2.1.1]
  refine leaves_marks ms w' hn (fun k hk=>Sats.frame_left H.2.2.1 k _ (hG k hk)) (fun w2 h1 h2=>?_)
  have s2:Sats w2 L' F:=sats_kill H.2.2.1 hd (fun k o hk ho=>h1 k o (fun hm=>by rw [hG k hm] at hk;cases hk) ho)
  exact ⟨v,hv F w2 a.tmps H.2.1.2.2 s2,v,L2,rfl,Rest.trans H.1 h2,hs w2 F s2,hR⟩
 rintro e a w' ⟨f,L',H,q⟩
 cases e with
 | normal=>exact fin2 a w' f L' H q
 | ret=>exact fin2 a w' f L' H q
 | _=>exact q.elim
end
end
section
section
variable {P:Program} {n:Nat} {ops:Array Oper} {Q:Post} {f:Nat→Value} {L:List Assn} {rest:List Oper} {o:Oper}
theorem ExY.at (m:Nat) (hd:(ops.toList.take m).all noDefer=true) (h:ExL P n ops (ops.toList.take m) (midY P n ops (ops.toList.drop m) Q) f L):ExY P n ops ops.toList Q f L:=by
 have:=ExY.app _ _ hd h
 rwa [List.take_append_drop] at this
theorem midY_n {l2:List Oper} (h:ExY P n ops l2 Q f L):midY P n ops l2 Q .normal f L:=h
theorem ExY.gtake {j s:Nat} {want:Bool} (hg:o.guard=some (j,want)) (hs:(ops[j]?).bind (·.dst)=some s) (hsn:Nat.blt s n=true) (hb:f s=.bool want)
  (h:ExY P n ops ({ o with guard:=none }::rest) Q f L):ExY P n ops (o::rest) Q f L:=by
 intro D F w0 f0 ws a w H hc
 have hy:=yielded_of (ops:=ops) H hs hsn hb
 have hw:Region.wanted o (yielded ops a.tmps)=true:=by
  simp only [Region.wanted,hg,hy]
  simp
 have h1:=h D F w0 f0 ws a w H (by simpa [writesL] using hc)
 have e1:wpListIn Fence.wide 0 P ops (Lift D n F w0 f0 ws Q) ({ o with guard:=none }::rest) a w=(if Region.wanted { o with guard:=none } (yielded ops a.tmps) then ({ o with guard:=none }:Oper).wpIn Fence.wide 0 P a w (wpListIn Fence.wide 0 P ops (Lift D n F w0 f0 ws Q) rest) (Lift D n F w0 f0 ws Q) else _):=rfl
 rw [e1,if_pos (wanted_none rfl)] at h1
 show (if Region.wanted o (yielded ops a.tmps) then o.wpIn Fence.wide 0 P a w (wpListIn Fence.wide 0 P ops (Lift D n F w0 f0 ws Q) rest) (Lift D n F w0 f0 ws Q) else _)
 rw [if_pos hw]
 exact h1
theorem Calm.fin {fn:Func} {R:Value→List Assn→Prop}:Calm (fin P fn R):=fun e f L q=>by
 cases e with
 | normal=>exact ⟨(fun c h=>by cases h),(fun h=>by cases h)⟩
 | ret=>exact ⟨(fun c h=>by cases h),(fun h=>by cases h)⟩
 | _=>exact q.elim
theorem Calm.thn {c:Code} (h:Calm Q):Calm (thn P n c Q):=fun e f L q=>by
 cases e with
 | normal=>exact ⟨(fun c h=>by cases h),(fun h=>by cases h)⟩
 | _=>exact h _ _ _ q
theorem Calm.rnd {I:Nat→List Value→List Assn→Prop} {m:Nat} {ss:List Nat} (h:Calm Q):Calm (rnd I m ss Q):=fun e f L q=>by
 cases e with
 | normal=>exact ⟨(fun c h=>by cases h),(fun h=>by cases h)⟩
 | _=>exact h _ _ _ q
theorem Calm.rndB {l:Nat} {o:Obj} {K:List Assn→Prop}:Calm (rndB l o K):=fun e f L q=>by
 cases e with
 | normal=>exact ⟨(fun c h=>by cases h),(fun h=>by cases h)⟩
 | _=>exact q.elim
theorem Calm.rndA {l nb:Nat} {o1 o2:Obj} {B:Code} {K:List Assn→Prop}:Calm (rndA l P nb o1 o2 B K):=fun e f L q=>by
 cases e with
 | normal=>exact ⟨(fun c h=>by cases h),(fun h=>by cases h)⟩
 | _=>exact q.elim
end
end
section
def StdN.zero:StdN:=⟨Clk.zero,0,0,0⟩
instance:Rep StdN:=⟨8,fun s=>[.int .i64 s.clk.a,.int .i64 s.clk.b,.int .i64 s.clk.c,.int .i64 s.clk.d,.int .i64 s.clk.e,.int .i64 s.sent,.int .i64 s.held,.int .i64 s.log],by decide,fun _=>rfl,fun _=>rfl⟩
structure StdW where
 hub:HsU
 n0:StdN
 n1:StdN
 n2:StdN
 n3:StdN
 n4:StdN
deriving DecidableEq
instance:Rep StdW:=⟨76,fun s=>Rep.cells s.hub++Rep.cells s.n0++Rep.cells s.n1++Rep.cells s.n2++Rep.cells s.n3++Rep.cells s.n4,by decide,fun _=>rfl,fun _=>rfl⟩
def StdW.zero:StdW:=⟨⟨false,⟨Clk.zero,Clk.zero,Clk.zero,Clk.zero,Clk.zero,Clk.zero,Clk.zero⟩⟩,StdN.zero,StdN.zero,StdN.zero,StdN.zero,StdN.zero⟩
def WSt.stdI (w:WSt) (j i:Nat):StdN:=if i<j then (w.nodes.getD i NSt.fresh).std else StdN.zero
def WSt.stdU (w:WSt) (j:Nat):StdW:=⟨w.hub.siteU,w.stdI j 0,w.stdI j 1,w.stdI j 2,w.stdI j 3,w.stdI j 4⟩
def WSt.stdW (w:WSt):StdW:=w.stdU w.nodes.length
set_option maxRecDepth 20000 attribute [local irreducible] Ex ExL Fn thn inb rnd fin meet Tab Mix mxEnd Val Sats RdT Rd RowT Row Blk Sub Fac ResV RVal Evs subs subs3 Hid Capd
section
attribute [local irreducible] Star NodeA HubA LkA nodesA
theorem wstanding_F {k:Nat} (gw gh gl:Nat) (vs:Value) (gs:List Ptr) (c:Cfg) (w:WSt) (M:List Assn) (ok:WOk k c w) (hk:k≤198) (ov:vs.oneCell'=true) (hgl:gs.length=w.nodes.length) :
  Fn Tryz.prog 64 #[ptrV gw] (wdO gw gh gl vs gs c w M) fun v L'=>v=.agg (Rep.cells w.stdW).toArray∧L'=wdO gw gh gl vs gs c w M:=by
 have hn5:=ok.n5
 refine Fn.of_ex Tryz.func64 rfl Tryz.ntmps64 rfl ?_
 (refine rn ?_;(repeat (first | intro (g:Nat) | intro h)))
 refine st_callIs [4] rJ Tryz.call36 rE rJ (hSiteA (k:=k) gh c w.hub _ ok.hub rM) ?_
 rintro _ _ ⟨rfl,rfl⟩
 have hsU:Rep.cells (w.stdU 0)=Rep.cells w.hub.siteU++List.replicate 40 (.int .i64 0):=rfl
 generalize hhs:w.hub.siteU=hs at hsU
 (refine rn ?_;(repeat (first | intro (g:Nat) | intro h)))
 rename_i g2
 revert g
 intro g3
 refine Ex.sub (L':=Blk g3 132 (Rep.cells (w.stdU 0))::WdB gw gh gl vs::Nds vs gs::Star (nodesA c gs w.nodes)::HubA gh c w.hub::LkA gl w.keys::Blk g2 132 (Rep.cells StdW.zero)::M) ?_ (by rw [hsU];exact rP)
 clear hsU
 refine Ex.loop [19] (fun z vs2 L'=>∃ (j:Nat),j≤w.nodes.length∧z=w.nodes.length - j∧vs2=[.int .i64 j]∧L'=Blk g3 132 (Rep.cells (w.stdU j))::WdB gw gh gl vs::Nds vs gs::Star (nodesA c gs w.nodes)::HubA gh c w.hub::LkA gl w.keys::Blk g2 132 (Rep.cells StdW.zero)::M) w.nodes.length ⟨0,by omega,rfl,rfl,rfl⟩ ?_
 rintro z vs2 g1 L1 ⟨j,hj,rfl,rfl,rfl⟩
 refine Ex.keep [2,3,17,18,19] rG (fun gk=>?_)
 by_cases hlt:j<w.nodes.length
 ·have hh:w.has (j:Int):=⟨by omega,by omega⟩
  have okn:=ok.node hh
  have hjg:j<gs.length:=by omega
  have hjt:((j:Int)).toNat=j:=Int.toNat_natCast j
  (refine rn ?_;(repeat (first | intro (g:Nat) | intro h)))
  have hgg:gs[j]'hjg=gs.getD (j:Int).toNat ⟨0⟩:=by rw [hjt];simp [List.getD_eq_getElem?_getD,hjg]
  refine Ex.sub (L':=NodeA (gs.getD (j:Int).toNat ⟨0⟩).g c j (w.node j)::Blk g3 132 (Rep.cells (w.stdU j))::WdB gw gh gl vs::Nds vs gs::nodesBut c gs w j::HubA gh c w.hub::LkA gl w.keys::Blk g2 132 (Rep.cells StdW.zero)::M) ?_ (Sub.trans (B:=NodeA (gs.getD (j:Int).toNat ⟨0⟩).g c j (w.node j)::wdR gw gh gl vs gs c w j (Blk g3 132 (Rep.cells (w.stdU j))::Blk g2 132 (Rep.cells StdW.zero)::M)) rP (Sub.trans (wd_open hh _) rP))
  rw [hgg]
  (refine Ex.mixA 7 M rfl rQ rF ?_;(refine mn ?_;(repeat (first | intro (g:Nat) | intro h))))
  (refine mx_act rJ rJ rJ ?_;refine st_callIs [] rJ Tryz.call58 rE rJ (nSiteA (k:=k) _ c j (w.node j) _ okn rM) ?_)
  rintro _ _ ⟨u1,u2,ou1,ou2,rfl,rfl⟩
  have hstd:(w.nodes.getD j NSt.fresh).std=⟨(w.node j).site.clk,(w.node j).site.sent,(w.node j).site.held.length,(w.node j).site.log.length⟩:=by
   have:w.node j=w.nodes.getD j NSt.fresh:=by unfold WSt.node;rw [hjt]
   rw [this];rfl
  have hsI:=fun i=>show w.stdI (j+1) i=if i<j+1 then (w.nodes.getD i NSt.fresh).std else StdN.zero from rfl
  obtain ⟨sp,hsp⟩:∃ sp,sp=(w.node j).site:=⟨_,rfl⟩
  rw [← hsp] at hstd ⊢
  have hfin:∀ g6:Nat,Sub (Blk g3 132 (Rep.cells (w.stdU (j+1)))::WdB gw gh gl vs::Nds vs gs::Star (nodesA c gs w.nodes)::HubA gh c w.hub::LkA gl w.keys::Blk g2 132 (Rep.cells StdW.zero)::M) (Blk g3 132 (Rep.cells (w.stdU (j+1)))::Blk g6 65 (siteC sp u1 u2)::Mks u1 sp.held::Mks u2 sp.log::NodeA (gs.getD (j:Int).toNat ⟨0⟩).g c j (w.node j)::WdB gw gh gl vs::Nds vs gs::nodesBut c gs w j::HubA gh c w.hub::LkA gl w.keys::Blk g2 132 (Rep.cells StdW.zero)::M):=fun g6 =>
   Sub.cons _ (Sub.trans (B:=Star (nodesA c gs w.nodes)::WdB gw gh gl vs::Nds vs gs::HubA gh c w.hub::LkA gl w.keys::Blk g2 132 (Rep.cells StdW.zero)::M) rP (Sub.trans (nodes_back hh _) rP))
  have hj5:j=0∨j=1∨j=2∨j=3∨j=4:=by omega
  rcases hj5 with rfl | rfl | rfl | rfl | rfl
  ·have e0:w.stdU 0=⟨w.hub.siteU,StdN.zero,StdN.zero,StdN.zero,StdN.zero,StdN.zero⟩:=rfl
   have e1:w.stdU (0+1)=⟨w.hub.siteU,(w.nodes.getD 0 NSt.fresh).std,StdN.zero,StdN.zero,StdN.zero,StdN.zero⟩:=rfl
   rw [hstd] at e1
   rw [e0]
   (refine ExL.nil ?_;refine mxEnd_n rF ?_;(refine mn ?_;(repeat (first | intro (g:Nat) | intro h))))
   (refine mx_act rJ rJ rJ ?_;(first | refine st_store1_ 0 rJ rJ rE rN rJ rJ rE rE ?_ | refine st_storeW_ 0 rJ rJ rJ rC rJ rJ rJ rE ?_ | refine st_storeR 0 rJ rJ rJ rE rJ rJ rE ?_);refine ExL.nil ?_;refine mxEnd_n rF ?_;(refine mn ?_;(repeat (first | intro (g:Nat) | intro h))))
   (refine rn ?_;(repeat (first | intro (g:Nat) | intro h)))
   revert g
   intro g6
   refine Ex.reord [4] rE ?_
   (refine Ex.mixA 23 (_::_::_::_::_::_::_::_::_::_::M) rfl rQ rF ?_;(refine mn ?_;(repeat (first | intro (g:Nat) | intro h))))
   refine mx_act rJ rJ rJ ?_
   refine st_storeA_ 0 rJ rJ rJ rC rJ rJ rJ rE rE ?_
   refine ExL.nil ?_
   refine mxEnd_n rF ?_
   (repeat' (first | (refine m1 ?_;(repeat (first | intro (g:Nat) | intro h))) | (refine mx_gsplit rJ rJ rJ (fun h=>?_) (fun h=>?_) <;> try (exfalso;omega))))
   (refine mx_act rJ rJ rJ ?_;(first | refine st_store1_ 0 rJ rJ rE rN rJ rJ rE rE ?_ | refine st_storeW_ 0 rJ rJ rJ rC rJ rJ rJ rE ?_ | refine st_storeR 0 rJ rJ rJ rE rJ rJ rE ?_);refine ExL.nil ?_;refine mxEnd_n rF ?_;(refine mn ?_;(repeat (first | intro (g:Nat) | intro h))))
   (repeat' (first | (refine m1 ?_;(repeat (first | intro (g:Nat) | intro h))) | (refine mx_gsplit rJ rJ rJ (fun h=>?_) (fun h=>?_) <;> try (exfalso;omega))))
   (refine mx_act rJ rJ rJ ?_;(first | refine st_store1_ 0 rJ rJ rE rN rJ rJ rE rE ?_ | refine st_storeW_ 0 rJ rJ rJ rC rJ rJ rJ rE ?_ | refine st_storeR 0 rJ rJ rJ rE rJ rJ rE ?_);refine ExL.nil ?_;refine mxEnd_n rF ?_;(refine mn ?_;(repeat (first | intro (g:Nat) | intro h))))
   (repeat' (first | (refine m1 ?_;(repeat (first | intro (g:Nat) | intro h))) | (refine mx_gsplit rJ rJ rJ (fun h=>?_) (fun h=>?_) <;> try (exfalso;omega))))
   (refine rn ?_;(repeat (first | intro (g:Nat) | intro h)))
   refine rnd_n ⟨w.nodes.length - (0+1),Blk g3 132 (Rep.cells (w.stdU (0+1)))::WdB gw gh gl vs::Nds vs gs::Star (nodesA c gs w.nodes)::HubA gh c w.hub::LkA gl w.keys::Blk g2 132 (Rep.cells StdW.zero)::M,by omega,?_,0+1,by omega,rfl,lcons (vint rM) rfl,rfl⟩
   have h:=hfin g6
   rw [e1] at h ⊢
   exact h
  ·have e0:w.stdU 1=⟨w.hub.siteU,(w.nodes.getD 0 NSt.fresh).std,StdN.zero,StdN.zero,StdN.zero,StdN.zero⟩:=rfl
   have e1:w.stdU (1+1)=⟨w.hub.siteU,(w.nodes.getD 0 NSt.fresh).std,(w.nodes.getD 1 NSt.fresh).std,StdN.zero,StdN.zero,StdN.zero⟩:=rfl
   rw [hstd] at e1
   rw [e0]
   generalize (w.nodes.getD 0 NSt.fresh).std=s0 at *
   (refine ExL.nil ?_;refine mxEnd_n rF ?_;(refine mn ?_;(repeat (first | intro (g:Nat) | intro h))))
   (refine mx_act rJ rJ rJ ?_;(first | refine st_store1_ 0 rJ rJ rE rN rJ rJ rE rE ?_ | refine st_storeW_ 0 rJ rJ rJ rC rJ rJ rJ rE ?_ | refine st_storeR 0 rJ rJ rJ rE rJ rJ rE ?_);refine ExL.nil ?_;refine mxEnd_n rF ?_;(refine mn ?_;(repeat (first | intro (g:Nat) | intro h))))
   (refine rn ?_;(repeat (first | intro (g:Nat) | intro h)))
   revert g
   intro g6
   refine Ex.reord [4] rE ?_
   (refine Ex.mixA 23 (_::_::_::_::_::_::_::_::_::_::M) rfl rQ rF ?_;(refine mn ?_;(repeat (first | intro (g:Nat) | intro h))))
   refine mx_act rJ rJ rJ ?_
   refine st_storeA_ 0 rJ rJ rJ rC rJ rJ rJ rE rE ?_
   refine ExL.nil ?_
   refine mxEnd_n rF ?_
   (repeat' (first | (refine m1 ?_;(repeat (first | intro (g:Nat) | intro h))) | (refine mx_gsplit rJ rJ rJ (fun h=>?_) (fun h=>?_) <;> try (exfalso;omega))))
   (refine mx_act rJ rJ rJ ?_;(first | refine st_store1_ 0 rJ rJ rE rN rJ rJ rE rE ?_ | refine st_storeW_ 0 rJ rJ rJ rC rJ rJ rJ rE ?_ | refine st_storeR 0 rJ rJ rJ rE rJ rJ rE ?_);refine ExL.nil ?_;refine mxEnd_n rF ?_;(refine mn ?_;(repeat (first | intro (g:Nat) | intro h))))
   (repeat' (first | (refine m1 ?_;(repeat (first | intro (g:Nat) | intro h))) | (refine mx_gsplit rJ rJ rJ (fun h=>?_) (fun h=>?_) <;> try (exfalso;omega))))
   (refine mx_act rJ rJ rJ ?_;(first | refine st_store1_ 0 rJ rJ rE rN rJ rJ rE rE ?_ | refine st_storeW_ 0 rJ rJ rJ rC rJ rJ rJ rE ?_ | refine st_storeR 0 rJ rJ rJ rE rJ rJ rE ?_);refine ExL.nil ?_;refine mxEnd_n rF ?_;(refine mn ?_;(repeat (first | intro (g:Nat) | intro h))))
   (repeat' (first | (refine m1 ?_;(repeat (first | intro (g:Nat) | intro h))) | (refine mx_gsplit rJ rJ rJ (fun h=>?_) (fun h=>?_) <;> try (exfalso;omega))))
   (refine rn ?_;(repeat (first | intro (g:Nat) | intro h)))
   refine rnd_n ⟨w.nodes.length - (1+1),Blk g3 132 (Rep.cells (w.stdU (1+1)))::WdB gw gh gl vs::Nds vs gs::Star (nodesA c gs w.nodes)::HubA gh c w.hub::LkA gl w.keys::Blk g2 132 (Rep.cells StdW.zero)::M,by omega,?_,1+1,by omega,rfl,lcons (vint rM) rfl,rfl⟩
   have h:=hfin g6
   rw [e1] at h ⊢
   exact h
  ·have e0:w.stdU 2=⟨w.hub.siteU,(w.nodes.getD 0 NSt.fresh).std,(w.nodes.getD 1 NSt.fresh).std,StdN.zero,StdN.zero,StdN.zero⟩:=rfl
   have e1:w.stdU (2+1)=⟨w.hub.siteU,(w.nodes.getD 0 NSt.fresh).std,(w.nodes.getD 1 NSt.fresh).std,(w.nodes.getD 2 NSt.fresh).std,StdN.zero,StdN.zero⟩:=rfl
   rw [hstd] at e1
   rw [e0]
   generalize (w.nodes.getD 0 NSt.fresh).std=s0 at *
   generalize (w.nodes.getD 1 NSt.fresh).std=s1 at *
   (refine ExL.nil ?_;refine mxEnd_n rF ?_;(refine mn ?_;(repeat (first | intro (g:Nat) | intro h))))
   (refine mx_act rJ rJ rJ ?_;(first | refine st_store1_ 0 rJ rJ rE rN rJ rJ rE rE ?_ | refine st_storeW_ 0 rJ rJ rJ rC rJ rJ rJ rE ?_ | refine st_storeR 0 rJ rJ rJ rE rJ rJ rE ?_);refine ExL.nil ?_;refine mxEnd_n rF ?_;(refine mn ?_;(repeat (first | intro (g:Nat) | intro h))))
   (refine rn ?_;(repeat (first | intro (g:Nat) | intro h)))
   revert g
   intro g6
   refine Ex.reord [4] rE ?_
   (refine Ex.mixA 23 (_::_::_::_::_::_::_::_::_::_::M) rfl rQ rF ?_;(refine mn ?_;(repeat (first | intro (g:Nat) | intro h))))
   refine mx_act rJ rJ rJ ?_
   refine st_storeA_ 0 rJ rJ rJ rC rJ rJ rJ rE rE ?_
   refine ExL.nil ?_
   refine mxEnd_n rF ?_
   (repeat' (first | (refine m1 ?_;(repeat (first | intro (g:Nat) | intro h))) | (refine mx_gsplit rJ rJ rJ (fun h=>?_) (fun h=>?_) <;> try (exfalso;omega))))
   (refine mx_act rJ rJ rJ ?_;(first | refine st_store1_ 0 rJ rJ rE rN rJ rJ rE rE ?_ | refine st_storeW_ 0 rJ rJ rJ rC rJ rJ rJ rE ?_ | refine st_storeR 0 rJ rJ rJ rE rJ rJ rE ?_);refine ExL.nil ?_;refine mxEnd_n rF ?_;(refine mn ?_;(repeat (first | intro (g:Nat) | intro h))))
   (repeat' (first | (refine m1 ?_;(repeat (first | intro (g:Nat) | intro h))) | (refine mx_gsplit rJ rJ rJ (fun h=>?_) (fun h=>?_) <;> try (exfalso;omega))))
   (refine mx_act rJ rJ rJ ?_;(first | refine st_store1_ 0 rJ rJ rE rN rJ rJ rE rE ?_ | refine st_storeW_ 0 rJ rJ rJ rC rJ rJ rJ rE ?_ | refine st_storeR 0 rJ rJ rJ rE rJ rJ rE ?_);refine ExL.nil ?_;refine mxEnd_n rF ?_;(refine mn ?_;(repeat (first | intro (g:Nat) | intro h))))
   (repeat' (first | (refine m1 ?_;(repeat (first | intro (g:Nat) | intro h))) | (refine mx_gsplit rJ rJ rJ (fun h=>?_) (fun h=>?_) <;> try (exfalso;omega))))
   (refine rn ?_;(repeat (first | intro (g:Nat) | intro h)))
   refine rnd_n ⟨w.nodes.length - (2+1),Blk g3 132 (Rep.cells (w.stdU (2+1)))::WdB gw gh gl vs::Nds vs gs::Star (nodesA c gs w.nodes)::HubA gh c w.hub::LkA gl w.keys::Blk g2 132 (Rep.cells StdW.zero)::M,by omega,?_,2+1,by omega,rfl,lcons (vint rM) rfl,rfl⟩
   have h:=hfin g6
   rw [e1] at h ⊢
   exact h
  ·have e0:w.stdU 3=⟨w.hub.siteU,(w.nodes.getD 0 NSt.fresh).std,(w.nodes.getD 1 NSt.fresh).std,(w.nodes.getD 2 NSt.fresh).std,StdN.zero,StdN.zero⟩:=rfl
   have e1:w.stdU (3+1)=⟨w.hub.siteU,(w.nodes.getD 0 NSt.fresh).std,(w.nodes.getD 1 NSt.fresh).std,(w.nodes.getD 2 NSt.fresh).std,(w.nodes.getD 3 NSt.fresh).std,StdN.zero⟩:=rfl
   rw [hstd] at e1
   rw [e0]
   generalize (w.nodes.getD 0 NSt.fresh).std=s0 at *
   generalize (w.nodes.getD 1 NSt.fresh).std=s1 at *
   generalize (w.nodes.getD 2 NSt.fresh).std=s2 at *
   (refine ExL.nil ?_;refine mxEnd_n rF ?_;(refine mn ?_;(repeat (first | intro (g:Nat) | intro h))))
   (refine mx_act rJ rJ rJ ?_;(first | refine st_store1_ 0 rJ rJ rE rN rJ rJ rE rE ?_ | refine st_storeW_ 0 rJ rJ rJ rC rJ rJ rJ rE ?_ | refine st_storeR 0 rJ rJ rJ rE rJ rJ rE ?_);refine ExL.nil ?_;refine mxEnd_n rF ?_;(refine mn ?_;(repeat (first | intro (g:Nat) | intro h))))
   (refine rn ?_;(repeat (first | intro (g:Nat) | intro h)))
   revert g
   intro g6
   refine Ex.reord [4] rE ?_
   (refine Ex.mixA 23 (_::_::_::_::_::_::_::_::_::_::M) rfl rQ rF ?_;(refine mn ?_;(repeat (first | intro (g:Nat) | intro h))))
   refine mx_act rJ rJ rJ ?_
   refine st_storeA_ 0 rJ rJ rJ rC rJ rJ rJ rE rE ?_
   refine ExL.nil ?_
   refine mxEnd_n rF ?_
   (repeat' (first | (refine m1 ?_;(repeat (first | intro (g:Nat) | intro h))) | (refine mx_gsplit rJ rJ rJ (fun h=>?_) (fun h=>?_) <;> try (exfalso;omega))))
   (refine mx_act rJ rJ rJ ?_;(first | refine st_store1_ 0 rJ rJ rE rN rJ rJ rE rE ?_ | refine st_storeW_ 0 rJ rJ rJ rC rJ rJ rJ rE ?_ | refine st_storeR 0 rJ rJ rJ rE rJ rJ rE ?_);refine ExL.nil ?_;refine mxEnd_n rF ?_;(refine mn ?_;(repeat (first | intro (g:Nat) | intro h))))
   (repeat' (first | (refine m1 ?_;(repeat (first | intro (g:Nat) | intro h))) | (refine mx_gsplit rJ rJ rJ (fun h=>?_) (fun h=>?_) <;> try (exfalso;omega))))
   (refine mx_act rJ rJ rJ ?_;(first | refine st_store1_ 0 rJ rJ rE rN rJ rJ rE rE ?_ | refine st_storeW_ 0 rJ rJ rJ rC rJ rJ rJ rE ?_ | refine st_storeR 0 rJ rJ rJ rE rJ rJ rE ?_);refine ExL.nil ?_;refine mxEnd_n rF ?_;(refine mn ?_;(repeat (first | intro (g:Nat) | intro h))))
   (repeat' (first | (refine m1 ?_;(repeat (first | intro (g:Nat) | intro h))) | (refine mx_gsplit rJ rJ rJ (fun h=>?_) (fun h=>?_) <;> try (exfalso;omega))))
   (refine rn ?_;(repeat (first | intro (g:Nat) | intro h)))
   refine rnd_n ⟨w.nodes.length - (3+1),Blk g3 132 (Rep.cells (w.stdU (3+1)))::WdB gw gh gl vs::Nds vs gs::Star (nodesA c gs w.nodes)::HubA gh c w.hub::LkA gl w.keys::Blk g2 132 (Rep.cells StdW.zero)::M,by omega,?_,3+1,by omega,rfl,lcons (vint rM) rfl,rfl⟩
   have h:=hfin g6
   rw [e1] at h ⊢
   exact h
  ·have e0:w.stdU 4=⟨w.hub.siteU,(w.nodes.getD 0 NSt.fresh).std,(w.nodes.getD 1 NSt.fresh).std,(w.nodes.getD 2 NSt.fresh).std,(w.nodes.getD 3 NSt.fresh).std,StdN.zero⟩:=rfl
   have e1:w.stdU (4+1)=⟨w.hub.siteU,(w.nodes.getD 0 NSt.fresh).std,(w.nodes.getD 1 NSt.fresh).std,(w.nodes.getD 2 NSt.fresh).std,(w.nodes.getD 3 NSt.fresh).std,(w.nodes.getD 4 NSt.fresh).std⟩:=rfl
   rw [hstd] at e1
   rw [e0]
   generalize (w.nodes.getD 0 NSt.fresh).std=s0 at *
   generalize (w.nodes.getD 1 NSt.fresh).std=s1 at *
   generalize (w.nodes.getD 2 NSt.fresh).std=s2 at *
   generalize (w.nodes.getD 3 NSt.fresh).std=s3 at *
   (refine ExL.nil ?_;refine mxEnd_n rF ?_;(refine mn ?_;(repeat (first | intro (g:Nat) | intro h))))
   (refine mx_act rJ rJ rJ ?_;(first | refine st_store1_ 0 rJ rJ rE rN rJ rJ rE rE ?_ | refine st_storeW_ 0 rJ rJ rJ rC rJ rJ rJ rE ?_ | refine st_storeR 0 rJ rJ rJ rE rJ rJ rE ?_);refine ExL.nil ?_;refine mxEnd_n rF ?_;(refine mn ?_;(repeat (first | intro (g:Nat) | intro h))))
   (refine rn ?_;(repeat (first | intro (g:Nat) | intro h)))
   revert g
   intro g6
   refine Ex.reord [4] rE ?_
   (refine Ex.mixA 23 (_::_::_::_::_::_::_::_::_::_::M) rfl rQ rF ?_;(refine mn ?_;intros))
   refine mx_act rJ rJ rJ ?_
   refine st_storeA_ 0 rJ rJ rJ rC rJ rJ rJ rE rE ?_
   refine ExL.nil ?_
   refine mxEnd_n rF ?_
   (repeat' (first | (refine m1 ?_;intros) | (refine mx_gsplit rJ rJ rJ (fun h=>?_) (fun h=>?_) <;> try (exfalso;omega))))
   (refine mx_act rJ rJ rJ ?_;(first | refine st_store1_ 0 rJ rJ rE rN rJ rJ rE rE ?_ | refine st_storeW_ 0 rJ rJ rJ rC rJ rJ rJ rE ?_ | refine st_storeR 0 rJ rJ rJ rE rJ rJ rE ?_);refine mw ?_;intros)
   (repeat' (first | (refine m1 ?_;intros) | (refine mx_gsplit rJ rJ rJ (fun h=>?_) (fun h=>?_) <;> try (exfalso;omega))))
   (refine mx_act rJ rJ rJ ?_;(first | refine st_store1_ 0 rJ rJ rE rN rJ rJ rE rE ?_ | refine st_storeW_ 0 rJ rJ rJ rC rJ rJ rJ rE ?_ | refine st_storeR 0 rJ rJ rJ rE rJ rJ rE ?_);refine mw ?_;intros)
   (repeat' (first | (refine m1 ?_;intros) | (refine mx_gsplit rJ rJ rJ (fun h=>?_) (fun h=>?_) <;> try (exfalso;omega))))
   (refine rn ?_;intros)
   refine rnd_n ⟨w.nodes.length - (4+1),Blk g3 132 (Rep.cells (w.stdU (4+1)))::WdB gw gh gl vs::Nds vs gs::Star (nodesA c gs w.nodes)::HubA gh c w.hub::LkA gl w.keys::Blk g2 132 (Rep.cells StdW.zero)::M,by omega,?_,4+1,by omega,rfl,lcons (vint rM) rfl,rfl⟩
   have h:=hfin g6
   rw [e1] at h ⊢
   exact h
 ·obtain rfl:j=w.nodes.length:=by omega
  have e:w.stdU w.nodes.length=w.stdW:=rfl
  rw [e]
  generalize w.stdW=sw
  exact re1
end
end
end Go.Proofs.YtogcfijlhpaeeaaGreat
