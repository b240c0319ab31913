/- Texts, one behind the other. No condition. -/
import Derived.Defers
import Derived.Ground.GgzProg
import Derived.Ground.SlgmProg
import Derived.Laws.LoneSync
import Derived.Laws.NewBlocks
import Derived.Laws.Pointers
import Derived.RegionCalls
import Derived.RegionTactic
import Derived.Shelf.SlIter.Nil
import Derived.Shelf.SortM.Plain
import Derived.Shelf.SortM.SortNone
import Derived.Sort.OwnSorted
import Derived.Tactics
import Derived.Tactics2
import Derived.Test.YtogcfijlhpaeeaaGreatChecked
import Derived.Test.YtogcfijlhpaeeaaGreatZajmfbmbb
import Derived.Test.YtogcfijlhpaeeaaGreatZehjcikgl
import Derived.Test.YtogcfijlhpaeeaaGreatZgaognfij
import Derived.Test.YtogcfijlhpaeeaaGreatZiegkalfj
open Go.RowKit
set_option linter.unusedSimpArgs false
set_option linter.unusedVariables false
set_option linter.unusedSectionVars false
set_option maxHeartbeats 32000000
namespace Go.Proofs.YtogcfijlhpaeeaaGreat
section
set_option maxRecDepth 20000 attribute [local irreducible] Ex ExL Fn thn inb rnd fin meet Tab Mix mxEnd Val Sats RdT Rd RowT Row Blk Sub Fac ResV RVal Evs subs subs3 Hid Capd
section
theorem fList_small {b:List UInt8} {l:List Ev} (h:fList b=some l):l.length≤255∧∀ e∈l,e.ed.key.length≤8∧e.ed.value.length≤12:=by
 rcases b with _ | ⟨c,q⟩
 ·cases h
 ·have h:(rEvsN c.toNat q).map Prod.fst=some l:=h
  cases hr:rEvsN c.toNat q with
  | none=>rw [hr] at h;cases h
  | some p =>
   obtain ⟨l2,q2⟩:=p
   rw [hr] at h
   simp only [Option.map_some,Option.some.injEq] at h
   subst h
   obtain ⟨h1,h2⟩:=rEvsN_small _ _ _ _ hr
   have:=c.toNat_lt
   exact ⟨by omega,h2⟩
theorem frRead_small {b:List UInt8} {x:Rcd} (h:frRead b=some x):x.l.length≤255∧∀ e∈x.l,e.ed.key.length≤8∧e.ed.value.length≤12:=by
 unfold frRead at h
 split at h
 ·cases h
 ·split at h
  ·split at h
   ·split at h
    ·cases h
    ·rename_i h3
     split at h
     ·cases h
     ·split at h
      ·cases h
      ·simp only [Option.some.injEq] at h
       subst h
       split at h3
       ·exact fList_small h3
       ·simp only [Option.some.injEq] at h3
        subst h3
        exact ⟨Nat.zero_le _,fun e he=>by cases he⟩
   ·cases h
  ·cases h
theorem ftake_F (v0:Value) (b:List UInt8) (M:List Assn) (hr:RdT M v0 b) (o0:v0.oneCell'=true) (hb:b.length≤1000000000):Fn Tryz.prog 135 #[v0] M
  fun r L'=>((frTake b).2≠0∧(∃ y,r=.tuple #[.agg (rcC y (.slice none 0 0)).toArray,.int .i64 (frTake b).2])∧L'=M)∨((frTake b).2=0∧∃ u,u.oneCell'=true∧r=.tuple #[.agg (rcC (frTake b).1 u).toArray,.int .i64 0]∧L'=Evs_ u (frTake b).1.l::M):=by
 refine Fn.of_ex Tryz.func135 rfl Tryz.ntmps135 rfl ?_
 by_cases h1:2048<b.length
 ·have hF:frTake b=(Rcd.zero,5):=by unfold frTake;rw [if_pos h1]
  rw [hF]
  (refine rn ?_;intros)
  (refine fr ?_)
  exact ⟨_,rB,.inl ⟨by decide,⟨⟨0,0,0,Clk.zero,[]⟩,rfl⟩,rfl⟩⟩
 (refine rn ?_;intros)
 refine st_callIs [] rJ Tryz.call194 rJ rJ (copen_F _ b _ rD rM) ?_
 rintro _ _ (⟨hO,rfl,rfl⟩ | ⟨body,u,hO,ou,rfl,rfl⟩)
 ·have hF:frTake b=(Rcd.zero,4):=by unfold frTake;rw [if_neg h1,hO]
  rw [hF]
  (refine rn ?_;intros)
  (refine fr ?_)
  exact ⟨_,rB,.inl ⟨by decide,⟨⟨0,0,0,Clk.zero,[]⟩,rfl⟩,rfl⟩⟩
 have hbl:=crcOpen_len hO
 (refine rn ?_;intros)
 refine st_callIs [] rJ Tryz.call195 rJ rJ (fread_F _ body _ rD ou rM) ?_
 rintro _ _ (⟨hR,⟨y,rfl⟩,rfl⟩ | ⟨x,u2,hR,ou2,rfl,rfl⟩)
 ·have hF:frTake b=(Rcd.zero,3):=by unfold frTake;rw [if_neg h1,hO];simp only;rw [hR]
  rw [hF]
  (refine rn ?_;intros)
  (refine fr ?_)
  exact ⟨_,rB,.inl ⟨by decide,⟨⟨0,0,0,Clk.zero,[]⟩,rfl⟩,rfl⟩⟩
 obtain ⟨hxl,hxs⟩:=frRead_small hR
 (refine rn ?_;intros)
 refine st_callIs [] rJ Tryz.call109 rJ rJ (fput_F x u2 _ rD ou2 rM (fun e he=>by have:=hxs e he;omega)) ?_
 rintro _ _ (⟨hM,rfl,rfl⟩ | ⟨hM,v9,o9,rfl,rfl⟩)
 ·have hF:frTake b=(Rcd.zero,3):=by unfold frTake;rw [if_neg h1,hO];simp only;rw [hR];simp only;rw [if_neg (fun h=>hM h.1)]
  rw [hF]
  (refine rn ?_;intros)
  (refine fr ?_)
  exact ⟨_,rB,.inl ⟨by decide,⟨⟨0,0,0,Clk.zero,[]⟩,rfl⟩,rfl⟩⟩
 have hxb:=x.fbytes_len hM
 (refine rn ?_;intros)
 refine st_callIs [] rJ Tryz.call196 rJ rJ (bequal_F v9 v0 x.fbytes b _ rD (hr.sub rB) o9 o0 rM rM) ?_
 rintro _ _ ⟨rfl,rfl⟩
 by_cases hE:x.fbytes=b
 ·have hF:frTake b=(x,0):=by unfold frTake;rw [if_neg h1,hO];simp only;rw [hR];simp only;rw [if_pos ⟨hM,hE⟩]
  rw [hF,decide_eq_true hE]
  (refine rn ?_;intros)
  (refine fr ?_)
  exact ⟨_,rB,.inr ⟨rfl,u2,ou2,rfl,rfl⟩⟩
 ·have hF:frTake b=(Rcd.zero,3):=by unfold frTake;rw [if_neg h1,hO];simp only;rw [hR];simp only;rw [if_neg (fun h=>hE h.2)]
  rw [hF,decide_eq_false hE]
  (refine rn ?_;intros)
  (refine fr ?_)
  exact ⟨_,rB,.inl ⟨by decide,⟨⟨0,0,0,Clk.zero,[]⟩,rfl⟩,rfl⟩⟩
end
end
section
theorem disable (w:World):(callFunc 338 #[]).run Tryz.prog w=.ok (.value (.tuple #[])) w:=run_call_mark0 Tryz.func338 rQ rQ rQ .disable rQ w
theorem enable (w:World):(callFunc 340 #[]).run Tryz.prog w=.ok (.value (.tuple #[])) w:=run_call_mark0 Tryz.func340 rQ rQ rQ .enable rQ w
theorem acquire (a:Addr) (w:World):(callFunc 341 #[.pointer (some a)]).run Tryz.prog w=.ok (.value (.tuple #[])) w:=run_call_marked Tryz.func341 rQ rQ rQ .acquire rQ a w
theorem releaseMerge (a:Addr) (w:World):(callFunc 343 #[.pointer (some a)]).run Tryz.prog w=.ok (.value (.tuple #[])) w:=run_call_marked Tryz.func343 rQ rQ rQ .releaseMerge rQ a w
set_option maxRecDepth 100000 in
theorem store_deferred (a:Addr) (x:Value) (u:FrameMode) (w:World) (hc:w.cell? a=some x) (hz:w.frozen? a=false) :
  CallsD Tryz.prog 316 #[.pointer (some a),.bool true] u w fun e u' w'=>u'=u∧(e=.returned (.tuple #[])∧w'=w.drew.setCell a (.int .u32 1)):=by
 have hc':w.drew.cell? a=some x:=by go_simp
 have hz':w.drew.frozen? a=false:=by go_simp
 have hst:=run_call_store (P:=Tryz.prog) Tryz.func335 rQ rQ rQ rQ (k:=.u32) (y:=1) hc' hz'
 go_enter_d Tryz.func316,Tryz.ntmps316
 go_wp2
 go_region_calls
 all_goals (go_end0;exact ⟨rfl,rfl⟩)
set_option maxRecDepth 100000 in
theorem unlock_deferred (a:Addr) (u:FrameMode) (w:World) (hc:w.cell? a=some (.int .i32 1)) (hz:w.frozen? a=false) :
  CallsD Tryz.prog 315 #[.pointer (some a)] u w fun e u' w'=>u'=u∧(e=.returned (.tuple #[])∧w'=w.setCell a (.int .i32 0)):=by
 have hd:=disable
 have he:=enable
 have hr:=releaseMerge
 have hadd:=run_call_add (P:=Tryz.prog) Tryz.func344 rQ rQ rQ .i32 rQ (y:=-1) (s:=0) hc hz (by simp [go_sem];rfl)
 have hcv:=run_convert_to_unsafe (P:=Tryz.prog) (src:=409) (dst:=413) Tryz.underlying409 Tryz.underlying413 rQ hc
 go_enter_d Tryz.func315,Tryz.ntmps315
 go_wp2
 go_end0
 go_wp2
 first | (go_end0;exact ⟨rfl,rfl⟩) | exact ⟨rfl,rfl⟩ | skip
set_option maxRecDepth 100000 in
theorem lock_free (a:Addr) (w:World) (hc:w.cell? a=some (.int .i32 0)) (hz:w.frozen? a=false) :
  Calls Tryz.prog 314 #[.pointer (some a)] w fun e w'=>e=.returned (.tuple #[])∧w'=w.setCell a (.int .i32 1):=by
 have hd:=disable
 have he:=enable
 have ha:=acquire
 have hcas:=run_call_cas_hit (P:=Tryz.prog) Tryz.func339 rQ rQ rQ .i32 rQ (y:=1) hc hz
 have hc':(w.setCell a (.int .i32 1)).cell? a=some (.int .i32 1):=World.cell?_setCell_same w a _ hc
 have hcv:=run_convert_to_unsafe (P:=Tryz.prog) (src:=409) (dst:=413) Tryz.underlying409 Tryz.underlying413 rQ hc'
 go_enter Tryz.func314,Tryz.ntmps314
 go_wp2
 first | go_end0 | (simp only [Exit.inBlock,Exit.then];refine bodyPost_ret (results_none rfl _ _ _) rfl ?_) | refine bodyPost_ret (results_none rfl _ _ _) rfl ?_
 go_wp2
 first | (go_end0;exact ⟨rfl,rfl⟩) | exact ⟨rfl,rfl⟩ | skip
set_option maxRecDepth 100000 in
theorem slow_any (b off:Nat) (pl:Addr) (hpb:¬ b=pl.block) (x3:Value) (w:World) (hp:w.cell? pl=some (.pointer (some ⟨b,off,none⟩)))
  (h0:w.cell? ⟨b,off,none⟩=some (.int .u32 0)) (h1:w.cell? ⟨b,off+1,none⟩=some (.int .i32 0)) (h3:w.cell? ⟨b,off+3,none⟩=some x3)
  (f0:w.frozen? ⟨b,off,none⟩=false) (f1:w.frozen? ⟨b,off+1,none⟩=false) (f3:w.frozen? ⟨b,off+3,none⟩=false) :
  Calls Tryz.prog 276 #[.pointer (some ⟨b,off,none⟩),.func (.func 238) #[] #[.pointer (some pl)]] w fun e w'=>e=.returned (.tuple #[]) ∧
   w'=((((w.setCell ⟨b,off+1,none⟩ (.int .i32 1)).setCell ⟨b,off+3,none⟩ (.map (some w.heap.size))).alloc (.map #[] 0)).drew.setCell ⟨b,off,none⟩ (.int .u32 1)).setCell ⟨b,off+1,none⟩ (.int .i32 0):=by
 have hl:=run_call_load (P:=Tryz.prog) Tryz.func313 rQ rQ rQ .u32 rQ (w:=w.setCell ⟨b,off+1,none⟩ (.int .i32 1)) (a:=⟨b,off,none⟩) (x:=0) ((World.cell?_setCell_other _ ⟨b,off+1,none⟩ ⟨b,off,none⟩ _ (by simp)).trans h0)
 have hp1:(w.setCell ⟨b,off+1,none⟩ (.int .i32 1)).cell? pl=some (.pointer (some ⟨b,off,none⟩)):=(World.cell?_setCell_other _ ⟨b,off+1,none⟩ pl _ (fun h=>hpb (by rw [← h]))).trans hp
 have h31:(w.setCell ⟨b,off+1,none⟩ (.int .i32 1)).cell? ⟨b,off+3,none⟩=some x3:=(World.cell?_setCell_other _ ⟨b,off+1,none⟩ ⟨b,off+3,none⟩ _ (by simp)).trans h3
 have hnot:∀ (x:Bool) (w:World),(Op.unary .not (.bool x)).run Tryz.prog w=.ok (.bool (!x)) w:=fun _ _=>rfl
 have hb:b<w.heap.size:=by
  rcases Nat.lt_or_ge b w.heap.size with h | h
  ·exact h
  ·simp [World.cell?,Array.getElem?_eq_none h] at h0
 have hmm:∀ w:World,(Instr.makeMap 253 none).run Tryz.prog w=.ok (.map (some w.heap.size)) (w.alloc (.map #[] 0)):=fun w=>by simp [Instr.makeMap]
 have h32:((w.setCell ⟨b,off+1,none⟩ (.int .i32 1)).alloc (.map #[] 0)).cell? ⟨b,off+3,none⟩=some x3:=(World.cell?_alloc_past _ _ _ (by simpa using hb)).trans h31
 have f32:((w.setCell ⟨b,off+1,none⟩ (.int .i32 1)).alloc (.map #[] 0)).frozen? ⟨b,off+3,none⟩=false:=(World.frozen?_alloc_past _ _ _ (by simpa using hb)).trans (by go_simp)
 go_enter_defers Tryz.func276,Tryz.ntmps276
 go_wp2_with (go_at_call 314;refine (lock_free ⟨b,off+1,none⟩ _ (by go_simp) (by go_simp)).mono ?_;rintro e w' ⟨rfl,rfl⟩)
 go_wp2
 have hbs:b<((w.setCell ⟨b,off+1,none⟩ (.int .i32 1)).setCell ⟨b,off+3,none⟩ (.map (some w.heap.size))).heap.size:=by simpa using hb
 refine leaves_cons (f:=316) (args:=#[.pointer (some ⟨b,off,none⟩),.bool true]) (by simp) (by simp [go_sem]) ?_
 refine (store_deferred ⟨b,off,none⟩ (.int .u32 0) .returning _ ?_ ?_).mono ?_
 ·exact (World.cell?_alloc_past _ _ _ hbs).trans ((World.cell?_setCell_other _ ⟨b,off+3,none⟩ ⟨b,off,none⟩ _ (by simp)).trans ((World.cell?_setCell_other _ ⟨b,off+1,none⟩ ⟨b,off,none⟩ _ (by simp)).trans h0))
 ·exact (World.frozen?_alloc_past _ _ _ hbs).trans (by simp [f0])
 rintro e u' w'' ⟨rfl,rfl,rfl⟩
 refine leaves_cons (f:=315) (args:=#[.pointer (some ⟨b,off+1,none⟩)]) (by simp [settle]) (by simp [go_sem]) ?_
 refine (unlock_deferred ⟨b,off+1,none⟩ _ _ ?_ ?_).mono ?_
 ·refine (World.cell?_setCell_other _ ⟨b,off,none⟩ ⟨b,off+1,none⟩ _ (by simp)).trans ?_
  rw [World.cell?_drew]
  exact (World.cell?_alloc_past _ _ _ hbs).trans ((World.cell?_setCell_other _ ⟨b,off+3,none⟩ ⟨b,off+1,none⟩ _ (by simp)).trans (World.cell?_setCell_same w _ _ h1))
 ·have:(((w.setCell ⟨b,off+1,none⟩ (.int .i32 1)).setCell ⟨b,off+3,none⟩ (.map (some w.heap.size))).alloc (.map #[] 0)).frozen? ⟨b,off+1,none⟩=false:=(World.frozen?_alloc_past _ _ _ hbs).trans (by simp [f1])
  simpa using this
 rintro e u' w'' ⟨rfl,rfl,rfl⟩
 simp [Leaves,settle,results,Tryz.results276]
set_option maxRecDepth 100000 in
theorem do_first (b off:Nat) (pl:Addr) (hpb:¬ b=pl.block) (x3:Value) (w:World) (hp:w.cell? pl=some (.pointer (some ⟨b,off,none⟩)))
  (h0:w.cell? ⟨b,off,none⟩=some (.int .u32 0)) (h1:w.cell? ⟨b,off+1,none⟩=some (.int .i32 0)) (h3:w.cell? ⟨b,off+3,none⟩=some x3)
  (f0:w.frozen? ⟨b,off,none⟩=false) (f1:w.frozen? ⟨b,off+1,none⟩=false) (f3:w.frozen? ⟨b,off+3,none⟩=false) :
  Calls Tryz.prog 237 #[.pointer (some ⟨b,off,none⟩),.func (.func 238) #[] #[.pointer (some pl)]] w fun e w'=>e=.returned (.tuple #[]) ∧
   w'=((((w.setCell ⟨b,off+1,none⟩ (.int .i32 1)).setCell ⟨b,off+3,none⟩ (.map (some w.heap.size))).alloc (.map #[] 0)).drew.setCell ⟨b,off,none⟩ (.int .u32 1)).setCell ⟨b,off+1,none⟩ (.int .i32 0):=by
 have hl:=run_call_load (P:=Tryz.prog) Tryz.func313 rQ rQ rQ .u32 rQ h0
 have hnot:∀ (x:Bool) (w:World),(Op.unary .not (.bool x)).run Tryz.prog w=.ok (.bool (!x)) w:=fun _ _=>rfl
 go_enter Tryz.func237,Tryz.ntmps237
 go_wp2_with (first | (go_at_call 276;refine (slow_any b off pl hpb x3 _ hp h0 h1 h3 f0 f1 f3).mono ?_;rintro e w' ⟨rfl,rfl⟩) | (go_at_call 275;go_in))
 first | (go_end0;exact ⟨rfl,rfl⟩) | exact ⟨rfl,rfl⟩ | skip
theorem do_done (a:Addr) (d:Int) (hd:¬ d=0) (fv:Value) (w:World) (h0:w.cell? a=some (.int .u32 d)) :
  Calls Tryz.prog 237 #[.pointer (some a),fv] w fun e w'=>e=.returned (.tuple #[])∧w'=w:=by
 have hl:=run_call_load (P:=Tryz.prog) Tryz.func313 rQ rQ rQ .u32 rQ h0
 have hnot:∀ (x:Bool) (w:World),(Op.unary .not (.bool x)).run Tryz.prog w=.ok (.bool (!x)) w:=fun _ _=>rfl
 have hd':(d != 0)=true:=by simp [hd]
 go_enter Tryz.func237,Tryz.ntmps237
 go_wp2
 first | (go_end0;exact ⟨rfl,rfl⟩) | exact ⟨rfl,rfl⟩ | skip
end
section
theorem atomAdd (a:Addr) (x y:Int) (w:World) (hc:w.cell? a=some (.int .i64 x)) (hz:w.frozen? a=false) (hs:IntKind.i64.wrap (x+y)=x+y) :
  Calls Tryz.prog 240 #[.pointer (some a),.int .i64 y] w fun e w'=>e=.returned (.int .i64 (x+y))∧w'=w.setCell a (.int .i64 (x+y)):=by
 have hadd:=run_call_add (P:=Tryz.prog) Tryz.func283 rQ rQ rQ .i64 rQ (y:=y) (s:=x+y) hc hz (by simp [go_sem,hs])
 go_enter Tryz.func240,Tryz.ntmps240
 go_wp2
 go_returns
 exact ⟨rfl,rfl⟩
theorem atomAdd_F (g o:Nat) (t:TypeId) (cs cs':List Value) (x y:Int) (M:List Assn) (hc:cs[o]?=some (.int .i64 x)) (hs:IntKind.i64.wrap (x+y)=x+y) (he:cs.set o (.int .i64 (x+y))=cs') :
  Fn Tryz.prog 240 #[.pointer (some ⟨g,o,none⟩),.int .i64 y] (Blk g t cs::M) fun r L'=>L'=Blk g t cs'::M:=fun F w0 w r s=>by
 have hl:o<cs.length:=(List.getElem?_eq_some_iff.1 hc).1
 refine (atomAdd ⟨g,o,none⟩ x y w (blk_cell (i:=0) rfl hc s) (blk_frozen (i:=0) rfl hl s) hs).mono ?_
 rintro e w' ⟨rfl,rfl⟩
 refine ⟨_,_,rfl,Rest.setCell r _ _,?_,rfl⟩
 have:=blk_store (i:=0) (.int .i64 (x+y)) rfl hl s
 rw [he] at this
 exact this
@[reducible] def lvC (d:Int) (s:Value) (kv:Value) (z:Int):List Value:=[.int .u32 d,.int .i32 0,s,kv,.int .i64 z]
theorem once_done (g:Nat) (fv s kv:Value) (z:Int) (M:List Assn):Fn Tryz.prog 237 #[.pointer (some ⟨g,0,none⟩),fv] (Blk g 269 (lvC 1 s kv z)::M) fun r L'=>L'=Blk g 269 (lvC 1 s kv z)::M:=fun F w0 w r s=>by
 refine (do_done ⟨g,0,none⟩ 1 (by decide) fv w (blk_cell (i:=0) rfl rfl s)).mono ?_
 rintro e w' ⟨rfl,rfl⟩
 exact ⟨_,_,rfl,r,s,rfl⟩
theorem once_first (g p:Nat) (s kv:Value) (z:Int) (t:TypeId) (M:List Assn):Fn Tryz.prog 237 #[.pointer (some ⟨g,0,none⟩),.func (.func 238) #[] #[.pointer (some ⟨p,0,none⟩)]] (Blk p t [.pointer (some ⟨g,0,none⟩)]::Blk g 269 (lvC 0 s kv z)::M)
  fun r L'=>∃ gm,L'=MapV kvS gm []::Blk p t [.pointer (some ⟨g,0,none⟩)]::Blk g 269 (lvC 1 s (.map (some gm)) z)::M:=fun F w0 w r st=>by
 have hp:=blk_cell (i:=0) (o:=0) rfl rfl st
 have h0:=blk_cell (i:=1) (o:=0) rfl rfl st
 have h1:=blk_cell (i:=1) (o:=1) rfl rfl st
 have h3:=blk_cell (i:=1) (o:=3) rfl rfl st
 have hne:¬ g=p:=fun e=>by
  subst e
  have:=hp.symm.trans h0
  cases this
 refine (do_first g 0 ⟨p,0,none⟩ hne kv w hp h0 h1 h3 (blk_frozen (i:=1) rfl (by simp) st) (blk_frozen (i:=1) rfl (by simp) st) (blk_frozen (i:=1) rfl (by simp) st)).mono ?_
 rintro e w' ⟨rfl,rfl⟩
 have s1:=blk_store (i:=1) (o:=1) (.int .i32 1) rfl (by simp) st
 have s2:=blk_store (i:=1) (o:=3) (.map (some w.heap.size)) rfl (by simp) s1
 have s3:=Sats.alloc (.map #[] 0) s2 (A:=MapV kvS w.heap.size ([]:List (List UInt8×Value))) (by
  have e:((w.setCell ⟨g,1,none⟩ (.int .i32 1)).setCell ⟨g,3,none⟩ (.map (some w.heap.size))).heap.size=w.heap.size:=by simp
  exact ⟨#[],0,by rw [e],rfl,MapKept.stamped_empty 0⟩)
 have s4:=blk_store (i:=2) (o:=0) (.int .u32 1) rfl (by simp) (Sats.drew s3)
 have s5:=blk_store (i:=2) (o:=1) (.int .i32 0) rfl (by simp) s4
 exact ⟨_,_,rfl,r,s5,w.heap.size,rfl⟩
end
section
def Ev.bel (a e:Ev):Bool:=e.c.has a.r a.n
def lvCreated (l:List Ev) (e:Ev):Bool:=l.any fun a=>decide (a.ed.kind=1) && a.bel e
def lvWithout (l:List Ev) (e:Ev) (k:Int) (q:Ev→Bool):List Ev:=l.filter fun a=>!(decide (a.ed.kind=k) && q a && a.bel e)
def lvCounted (l:List Ev):List Ev:=l.filter fun a=>decide (a.ed.kind=1) || lvCreated l a
def qAll (_:Ev):Bool:=true
def qLab (e a:Ev):Bool:=decide (a.ed.label=e.ed.label)
def qSame (e a:Ev):Bool:=decide (a.ed.label=e.ed.label) && decide (a.ed.value=e.ed.value)
def lvWith (l:List Ev) (e:Ev):List Ev :=
 if e.ed.kind=1 then l++[e] else
 if e.ed.kind=2 then lvCounted (lvWithout l e 1 qAll) else
 if e.ed.kind=3 then (if lvCreated l e=true then lvWithout l e 3 (qLab e)++[e] else l) else
 if e.ed.kind=5 then lvWithout l e 4 (qSame e) else
 if lvCreated l e=true then lvWithout l e 4 (qSame e)++[e] else l
theorem lvWithout_len (l:List Ev) (e:Ev) (k:Int) (q:Ev→Bool):(lvWithout l e k q).length≤l.length:=List.length_filter_le ..
theorem lvCounted_len (l:List Ev):(lvCounted l).length≤l.length:=List.length_filter_le ..
theorem lvWith_len (l:List Ev) (e:Ev):(lvWith l e).length≤l.length+1:=by
 have h1:=lvWithout_len l e 1 qAll
 have h2:=lvCounted_len (lvWithout l e 1 qAll)
 have h3:=lvWithout_len l e 3 (qLab e)
 have h4:=lvWithout_len l e 4 (qSame e)
 unfold lvWith
 split
 ·simp
 ·split
  ·omega
  ·split
   ·split
    ·simp;omega
    ·omega
   ·split
    ·omega
    ·split
     ·simp;omega
     ·omega
end
section
set_option maxRecDepth 20000 attribute [local irreducible] Ex ExL Fn thn inb rnd fin meet Tab Mix mxEnd Val Sats RdT Rd RowT Row Blk Sub Fac ResV RVal Evs subs subs3 Hid Capd
section
def PredF (fn:FuncId) (us:List Value) (q:Ev→Bool) (A:Assn):Prop:=∀ (a:Ev) (M:List Assn),Fn Tryz.prog fn (([]:List Value)++[Value.agg (Rep.cells a).toArray]++us).toArray (A::M) fun r L'=>r=.bool (q a)∧L'=A::M
theorem cre1_F (p:Nat) (e:Ev):PredF 317 [.pointer (some ⟨p,0,none⟩)] (fun a=>decide (a.ed.kind=1) && a.bel e) (Blk p 80 (Rep.cells e)):=fun a M=>by
 refine Fn.of_ex Tryz.func317 rfl Tryz.ntmps317 rfl ?_
 by_cases hk:a.ed.kind=1
 ·(refine rn ?_;intros)
  refine st_callIs [] rJ Tryz.call308 rJ rJ (below_F a e _) ?_
  rintro _ _ ⟨rfl,rfl⟩
  (refine rn ?_;intros)
  (refine fr ?_)
  exact ⟨_,rB,by simp only [hk,decide_true,Bool.true_and];rfl,rfl⟩
 ·(refine rn ?_;intros)
  (refine fr ?_)
  exact ⟨_,rB,by simp [hk],rfl⟩
theorem wi1_F (p:Nat) (e:Ev):PredF 279 [] qAll (Blk p 80 (Rep.cells e)):=fun a M=>by
 refine Fn.of_ex Tryz.func279 rfl Tryz.ntmps279 rfl ?_
 exact re0
theorem wi2_F (p:Nat) (e:Ev):PredF 281 [.pointer (some ⟨p,0,none⟩)] (qLab e) (Blk p 80 (Rep.cells e)):=fun a M=>by
 refine Fn.of_ex Tryz.func281 rfl Tryz.ntmps281 rfl ?_
 (refine rn ?_;intros)
 (refine fr ?_)
 exact ⟨_,rB,by unfold qLab;rfl,rfl⟩
theorem wi3_F (p:Nat) (e:Ev):PredF 282 [.pointer (some ⟨p,0,none⟩)] (qSame e) (Blk p 80 (Rep.cells e)):=fun a M=>by
 refine Fn.of_ex Tryz.func282 rfl Tryz.ntmps282 rfl ?_
 by_cases hk:a.ed.label=e.ed.label
 ·by_cases hv:a.ed.value=e.ed.value
  ·(refine rn ?_;intros)
   (refine fr ?_)
   exact ⟨_,rB,by unfold qSame;simp [hk,hv],rfl⟩
  ·(refine rn ?_;intros)
   (refine fr ?_)
   exact ⟨_,rB,by unfold qSame;simp [hk,hv],rfl⟩
 ·(refine rn ?_;intros)
  (refine fr ?_)
  exact ⟨_,rB,by unfold qSame;simp [hk],rfl⟩
theorem idxEv_F (fn:FuncId) (us:List Value) (q:Ev→Bool) (A:Assn) (hq:PredF fn us q A) (hrun:∀ (xs:Array Value) (w:World),(callFunc fn xs).run Tryz.prog w=.ok (.enter fn xs) w) (v0:Value) (l:List Ev) (M:List Assn) (hr:RdT (A::M) v0 l) (hl:l.length≤1000000000) :
  Fn Tryz.prog 332 #[v0,.func (.func fn) #[] us.toArray] (A::M) fun r L'=>(∃ i:Int,(0≤i↔l.any q=true)∧r=.int .i64 i)∧L'=A::M:=by
 refine Fn.of_ex Tryz.func332 rfl Tryz.ntmps332 rfl ?_
 (refine rn ?_;intros)
 refine Ex.loop [8] (fun z vs L'=>∃ i:Nat,i≤l.length∧z=l.length - i∧(∀ j (hj:j<l.length),j<i→q (l[j]'hj)=false)∧vs=[.int .i64 i]∧L'=A::M) l.length ⟨0,by omega,rfl,fun j _ hj=>by omega,rfl,rfl⟩ ?_
 rintro z vs g0 L1 ⟨i,hi,rfl,hno,rfl,rfl⟩
 refine Ex.keep [0,1,7,8] rG (fun gk=>?_)
 by_cases hlt:i<l.length
 ·(refine rn ?_;intros)
  refine st_callC [] (xs:=[.tmp 15]) (fs:=[]) (us:=us) (vs:=[.agg (Rep.cells (l[i]'hlt)).toArray]) rJ rJ hrun rE rJ (hq (l[i]'hlt) _) ?_
  rintro _ _ ⟨rfl,rfl⟩
  cases hqi:q (l[i]'hlt) with
  | true =>
   (refine rn ?_;intros)
   (refine fr ?_)
   exact ⟨_,rB,⟨i,⟨fun _=>List.any_eq_true.2 ⟨_,List.getElem_mem hlt,hqi⟩,fun _=>by omega⟩,rfl⟩,rfl⟩
  | false =>
   (refine rn ?_;intros)
   exact rnd_n ⟨l.length - (i+1),_,by omega,rB,i+1,by omega,rfl,fun j hj hji=>by
    rcases Nat.lt_or_ge j i with h | h
    ·exact hno j hj h
    ·have:j=i:=by omega
     subst this;exact hqi,lcons (vint rM) rfl,rfl⟩
 ·(refine rn ?_;intros)
  (refine fr ?_)
  refine ⟨_,rB,⟨-1,⟨fun h=>by omega,fun h=>?_⟩,rfl⟩,rfl⟩
  obtain ⟨x,hx,hqx⟩:=List.any_eq_true.1 h
  obtain ⟨j,hj,rfl⟩:=List.getElem_of_mem hx
  rw [hno j hj rM] at hqx
  cases hqx
theorem contEv_F (fn:FuncId) (us:List Value) (q:Ev→Bool) (A:Assn) (hq:PredF fn us q A) (hrun:∀ (xs:Array Value) (w:World),(callFunc fn xs).run Tryz.prog w=.ok (.enter fn xs) w) (v0:Value) (l:List Ev) (M:List Assn) (hr:RdT (A::M) v0 l) (hl:l.length≤1000000000) :
  Fn Tryz.prog 306 #[v0,.func (.func fn) #[] us.toArray] (A::M) fun r L'=>r=.bool (l.any q)∧L'=A::M:=by
 refine Fn.of_ex Tryz.func306 rfl Tryz.ntmps306 rfl ?_
 (refine rn ?_;intros)
 refine st_callIs [] rJ Tryz.call332 rJ rJ (idxEv_F fn us q A hq hrun v0 l M hr hl) ?_
 rintro _ _ ⟨⟨i,hi,rfl⟩,rfl⟩
 (refine rn ?_;intros)
 (refine fr ?_)
 refine ⟨_,rB,?_,rfl⟩
 by_cases h:l.any q=true
 ·rw [h,decide_eq_true (hi.2 h)]
 ·rw [decide_eq_false (fun k=>h (hi.1 k))]
  simp only [Bool.not_eq_true] at h
  rw [h]
theorem lcreated_F (v0:Value) (l:List Ev) (e:Ev) (M:List Assn) (hr:RdT M v0 l) (hl:l.length≤1000000000):Fn Tryz.prog 280 #[v0,.agg (Rep.cells e).toArray] M fun r L'=>r=.bool (lvCreated l e)∧L'=M:=by
 refine Fn.of_ex Tryz.func280 rfl Tryz.ntmps280 rfl ?_
 (refine rn ?_;(repeat (first | intro (g:Nat) | intro h)))
 refine st_callIs [] rJ Tryz.call306 rJ rJ (contEv_F 317 [.pointer (some ⟨g,0,none⟩)] _ _ (cre1_F g e) Tryz.call317 v0 l M rD hl) ?_
 rintro _ _ ⟨rfl,rfl⟩
 exact re0
end
section
theorem lwithout_F (fn:FuncId) (us:List Value) (q:Ev→Bool) (A:Assn) (hq:PredF fn us q A) (hrun:∀ (xs:Array Value) (w:World),(callFunc fn xs).run Tryz.prog w=.ok (.enter fn xs) w) (v0:Value) (l:List Ev) (e:Ev) (k:Int) (M:List Assn) (hr:RdT M v0 l) (hl:l.length≤1000000000) :
  Fn Tryz.prog 278 #[v0,.agg (Rep.cells e).toArray,.int .i64 k,.func (.func fn) #[] us.toArray] (A::M) fun r L'=>r.oneCell'=true∧L'=Evs_ r (lvWithout l e k q)::A::M:=by
 refine Fn.of_ex Tryz.func278 rfl Tryz.ntmps278 rfl ?_
 (refine rn ?_;(repeat (first | intro (g:Nat) | intro (v:Value) | intro h)))
 revert g
 intro g5
 refine Ex.sub ?_ (Sub.empty (α:=Ev) none 80 _)
 refine Ex.loop [9,14] (fun z vs L'=>∃ (i:Nat) (v:Value),i≤l.length∧z=l.length - i∧v.oneCell'=true∧vs=[v,.int .i64 i]∧L'=Evs_ v (lvWithout (l.take i) e k q)::Blk g5 80 (Rep.cells e)::A::M) l.length ⟨0,_,by omega,rfl,rfl,rfl,rfl⟩ ?_
 rintro z vs g0 L1 ⟨i,v,hi,rfl,ov,rfl,rfl⟩
 refine Ex.keep [2,3,5,9,12,13,14] rG (fun gk=>?_)
 by_cases hlt:i<l.length
 ·have hw:=lvWithout_len (l.take i) e k q
  rw [List.length_take] at hw
  have hs:lvWithout (l.take (i+1)) e k q=lvWithout (l.take i) e k q++(if (!(decide ((l[i]'hlt).ed.kind=k) && q (l[i]'hlt) && (l[i]'hlt).bel e))=true then [l[i]'hlt] else []):=by
   unfold lvWithout
   rw [List.take_succ_eq_append_getElem hlt,List.filter_append]
   congr 1
   simp only [List.filter_cons,List.filter_nil]
  by_cases hk:(l[i]'hlt).ed.kind=k
  ·(refine rn ?_;(repeat (first | intro (g:Nat) | intro (v:Value) | intro h)))
   revert g
   intro g1
   refine st_callC [3] (xs:=[.tmp 24]) (fs:=[]) (us:=us) (vs:=[.agg (Rep.cells (l[i]'hlt)).toArray]) rJ rJ hrun rE rJ (hq (l[i]'hlt) _) ?_
   rintro _ _ ⟨rfl,rfl⟩
   cases hqi:q (l[i]'hlt) with
   | false =>
    rw [hqi] at hs
    simp only [Bool.and_false,Bool.false_and,Bool.not_false,if_true] at hs
    (refine rn ?_;(repeat (first | intro (v:Value) | intro h)))
    rw [← hs]
    exact rnd_n ⟨l.length - (i+1),_,by omega,Sub.fr [4,4] rE rB,i+1,_,by omega,rfl,by assumption,lcons rfl (lcons (vint rM) rfl),rfl⟩
   | true =>
    rw [hqi,decide_eq_true hk] at hs
    (refine rn ?_;(repeat (first | intro (v:Value) | intro h)))
    refine st_callIs [] rJ Tryz.call308 rJ rJ (below_F (l[i]'hlt) e _) ?_
    rintro _ _ ⟨rfl,rfl⟩
    rw [show (e.c.has (l[i]'hlt).r (l[i]'hlt).n)=(l[i]'hlt).bel e from rfl]
    cases hb:(l[i]'hlt).bel e with
    | false =>
     rw [hb] at hs
     simp only [Bool.and_false,Bool.not_false,if_true] at hs
     (refine rn ?_;(repeat (first | intro (v:Value) | intro h)))
     rw [← hs]
     exact rnd_n ⟨l.length - (i+1),_,by omega,Sub.fr [4,4] rE rB,i+1,_,by omega,rfl,by assumption,lcons rfl (lcons (vint rM) rfl),rfl⟩
    | true =>
     rw [hb] at hs
     simp only [Bool.and_true,Bool.not_true,Bool.false_eq_true,if_false,List.append_nil] at hs
     (refine rn ?_;(repeat (first | intro (v:Value) | intro h)))
     rw [← hs]
     exact rnd_n ⟨l.length - (i+1),_,by omega,Sub.fr [3,3] rE rB,i+1,v,by omega,rfl,ov,lcons rfl (lcons (vint rM) rfl),rfl⟩
  ·rw [decide_eq_false hk] at hs
   simp only [Bool.false_and,Bool.not_false,if_true] at hs
   (refine rn ?_;intros)
   rw [← hs]
   exact rnd_n ⟨l.length - (i+1),_,by omega,rB,i+1,_,by omega,rfl,by assumption,lcons rfl (lcons (vint rM) rfl),rfl⟩
 ·obtain rfl:i=l.length:=by omega
  rw [List.take_length]
  (refine rn ?_;intros)
  (refine fr ?_)
  exact ⟨_,rB,ov,rfl⟩
theorem lcounted_F (v0:Value) (l:List Ev) (M:List Assn) (hr:RdT M v0 l) (hl:l.length≤1000000000) :
  Fn Tryz.prog 277 #[v0] M fun r L'=>r.oneCell'=true∧L'=Evs_ r (lvCounted l)::M:=by
 refine Fn.of_ex Tryz.func277 rfl Tryz.ntmps277 rfl ?_
 (refine rn ?_;(repeat (first | intro (v:Value) | intro h)))
 refine Ex.sub ?_ (Sub.empty (α:=Ev) none 80 _)
 refine Ex.loop [3,8] (fun z vs L'=>∃ (i:Nat) (v:Value),i≤l.length∧z=l.length - i∧v.oneCell'=true∧vs=[v,.int .i64 i]∧L'=Evs_ v ((l.take i).filter fun a=>decide (a.ed.kind=1) || lvCreated l a)::M) l.length ⟨0,_,by omega,rfl,rfl,rfl,rfl⟩ ?_
 rintro z vs g0 L1 ⟨i,v,hi,rfl,ov,rfl,rfl⟩
 refine Ex.keep [0,3,6,7,8] rG (fun gk=>?_)
 by_cases hlt:i<l.length
 ·have hw:((l.take i).filter fun a=>decide (a.ed.kind=1) || lvCreated l a).length≤l.length:=by
   have:=List.length_filter_le (fun a=>decide (a.ed.kind=1) || lvCreated l a) (l.take i)
   rw [List.length_take] at this
   omega
  have hs:(l.take (i+1)).filter (fun a=>decide (a.ed.kind=1) || lvCreated l a)=(l.take i).filter (fun a=>decide (a.ed.kind=1) || lvCreated l a)++(if (decide ((l[i]'hlt).ed.kind=1) || lvCreated l (l[i]'hlt))=true then [l[i]'hlt] else []):=by
   rw [List.take_succ_eq_append_getElem hlt,List.filter_append]
   congr 1
   simp only [List.filter_cons,List.filter_nil]
  obtain ⟨Y,hY⟩:∃ Y,Y=(l.take i).filter (fun a=>decide (a.ed.kind=1) || lvCreated l a):=⟨_,rfl⟩
  rw [← hY] at hs hw ⊢
  by_cases hk:(l[i]'hlt).ed.kind=1
  ·rw [decide_eq_true hk] at hs
   simp only [Bool.true_or,if_true] at hs
   (refine rn ?_;(repeat (first | intro (v:Value) | intro h)))
   rw [← hs]
   exact rnd_n ⟨l.length - (i+1),_,by omega,rB,i+1,_,by omega,rfl,by assumption,lcons rfl (lcons (vint rM) rfl),rfl⟩
  ·rw [decide_eq_false hk] at hs
   simp only [Bool.false_or] at hs
   (refine rn ?_;(repeat (first | intro (v:Value) | intro h)))
   refine st_callIs [] rJ Tryz.call280 rJ rJ (lcreated_F v0 l (l[i]'hlt) _ rD hl) ?_
   rintro _ _ ⟨rfl,rfl⟩
   cases hc:lvCreated l (l[i]'hlt) with
   | true =>
    rw [hc] at hs
    simp only [if_true] at hs
    (refine rn ?_;(repeat (first | intro (v:Value) | intro h)))
    rw [← hs]
    exact rnd_n ⟨l.length - (i+1),_,by omega,rB,i+1,_,by omega,rfl,by assumption,lcons rfl (lcons (vint rM) rfl),rfl⟩
   | false =>
    rw [hc] at hs
    simp only [Bool.false_eq_true,if_false,List.append_nil] at hs
    (refine rn ?_;(repeat (first | intro (v:Value) | intro h)))
    rw [← hs]
    exact rnd_n ⟨l.length - (i+1),_,by omega,rB,i+1,v,by omega,rfl,ov,lcons rfl (lcons (vint rM) rfl),rfl⟩
 ·obtain rfl:i=l.length:=by omega
  rw [List.take_length]
  (refine rn ?_;intros)
  (refine fr ?_)
  exact ⟨_,rB,ov,rfl⟩
end
section
theorem lwith_F (v0:Value) (l:List Ev) (e:Ev) (M:List Assn) (o0:v0.oneCell'=true) (hl:l.length≤1000000) :
  Fn Tryz.prog 239 #[v0,.agg (Rep.cells e).toArray] (Evs_ v0 l::M) fun r L'=>r.oneCell'=true∧L'=Evs_ r (lvWith l e)::M:=by
 have h1:=lvWithout_len l e 1 qAll
 have h3:=lvWithout_len l e 3 (qLab e)
 have h4:=lvWithout_len l e 4 (qSame e)
 unfold lvWith
 refine Fn.of_ex Tryz.func239 rfl Tryz.ntmps239 rfl ?_
 by_cases k1:e.ed.kind=1
 ·rw [if_pos k1]
  (refine rn ?_;(repeat (first | intro (g:Nat) | intro (o:O1 _) | intro h)))
  (refine fr ?_)
  exact ⟨_,Sub.fr [2] rE rB,by assumption,rfl⟩
 rw [if_neg k1]
 by_cases k2:e.ed.kind=2
 ·rw [if_pos k2]
  (refine rn ?_;(repeat (first | intro (g:Nat) | intro (o:O1 _) | intro h)))
  refine st_callIs [] rJ Tryz.call278 rJ rJ (lwithout_F 279 [] qAll _ (wi1_F g e) Tryz.call279 v0 l e 1 _ rD rM) ?_
  rintro v1 _ ⟨o1,rfl⟩
  (refine rn ?_;(repeat (first | intro (g:Nat) | intro (o:O1 _) | intro h)))
  refine st_callIs [] rJ Tryz.call277 rJ rJ (lcounted_F v1 _ _ rD rM) ?_
  rintro v2 _ ⟨o2,rfl⟩
  (refine rn ?_;(repeat (first | intro (g:Nat) | intro (o:O1 _) | intro h)))
  (refine fr ?_)
  exact ⟨_,rB,o2,rfl⟩
 rw [if_neg k2]
 by_cases k3:e.ed.kind=3
 ·rw [if_pos k3]
  (refine rn ?_;(repeat (first | intro (g:Nat) | intro (o:O1 _) | intro h)))
  refine st_callIs [] rJ Tryz.call280 rJ rJ (lcreated_F v0 l e _ rD rM) ?_
  rintro _ _ ⟨rfl,rfl⟩
  cases hc:lvCreated l e with
  | false =>
   rw [if_neg (by simp)]
   (refine rn ?_;(repeat (first | intro (g:Nat) | intro (o:O1 _) | intro h)))
   (refine fr ?_)
   exact ⟨_,rB,o0,rfl⟩
  | true =>
   rw [if_pos rfl]
   (refine rn ?_;(repeat (first | intro (g:Nat) | intro (o:O1 _) | intro h)))
   (refine mu7 ?_;(repeat (first | intro (g:Nat) | intro (o:O1 _) | intro h)))
   (refine mx_act rJ rJ rJ ?_;refine st_callIs [] rJ Tryz.call278 rE rJ (lwithout_F 281 [.pointer (some ⟨g,0,none⟩)] (qLab e) _ (wi2_F g e) Tryz.call281 v0 l e 3 _ rD rM) ?_)
   rintro v1 _ ⟨o1,rfl⟩
   (refine ExL.nil ?_;refine mxEnd_n rF ?_;(refine mn ?_;(repeat (first | intro (g:Nat) | intro (o:O1 _) | intro h))))
   (refine rn ?_;(repeat (first | intro (g:Nat) | intro (o:O1 _) | intro h)))
   (refine fr ?_)
   exact ⟨_,rB,o,rfl⟩
 rw [if_neg k3]
 by_cases k5:e.ed.kind=5
 ·rw [if_pos k5]
  (refine rn ?_;(repeat (first | intro (g:Nat) | intro (o:O1 _) | intro h)))
  refine st_callIs [] rJ Tryz.call278 rJ rJ (lwithout_F 282 [.pointer (some ⟨g,0,none⟩)] (qSame e) _ (wi3_F g e) Tryz.call282 v0 l e 4 _ rD rM) ?_
  rintro v1 _ ⟨o1,rfl⟩
  (refine rn ?_;(repeat (first | intro (g:Nat) | intro (o:O1 _) | intro h)))
  (refine fr ?_)
  exact ⟨_,rB,o1,rfl⟩
 rw [if_neg k5]
 (refine rn ?_;(repeat (first | intro (g:Nat) | intro (o:O1 _) | intro h)))
 refine st_callIs [] rJ Tryz.call280 rJ rJ (lcreated_F v0 l e _ rD rM) ?_
 rintro _ _ ⟨rfl,rfl⟩
 cases hc:lvCreated l e with
 | false =>
  rw [if_neg (by simp)]
  (refine rn ?_;(repeat (first | intro (g:Nat) | intro (o:O1 _) | intro h)))
  (refine fr ?_)
  exact ⟨_,rB,o0,rfl⟩
 | true =>
  rw [if_pos rfl]
  (refine rn ?_;(repeat (first | intro (g:Nat) | intro (o:O1 _) | intro h)))
  (refine mu7 ?_;(repeat (first | intro (g:Nat) | intro (o:O1 _) | intro h)))
  have hW:=fun (M:List Assn) (hr:RdT M v0 l)=>lwithout_F 282 [.pointer (some ⟨g,0,none⟩)] (qSame e) _ (wi3_F g e) Tryz.call282 v0 l e 4 M hr rM
  (refine mx_act rJ rJ rJ ?_;refine st_callIs [] rJ Tryz.call278 rE rJ (hW _ rD) ?_)
  rintro v1 _ ⟨o1,rfl⟩
  (refine ExL.nil ?_;refine mxEnd_n rF ?_;(refine mn ?_;(repeat (first | intro (o:O1 _) | intro h))))
  (refine rn ?_;(repeat (first | intro (o:O1 _) | intro h)))
  (refine fr ?_)
  exact ⟨_,rB,o,rfl⟩
end
end
section
abbrev KMap:=List (List UInt8×List Ev)
def lvUpd (k:List UInt8) (f:List Ev→List Ev):KMap→KMap
 | []=>if f []=[] then [] else [(k,f [])]
 | p::m=>if k=p.1 then (if f p.2=[] then m else (k,f p.2)::m) else p::lvUpd k f m
def lvApply (m:KMap) (e:Ev):KMap:=lvUpd e.ed.key (fun l=>lvWith l e) m
def lvTot (m:KMap):Nat:=(m.map fun p=>p.2.length).sum
structure KRow where
 k:List UInt8
 v:Value
 o:v.oneCell'=true
 l:List Ev
def KRow.kl (r:KRow):List UInt8×List Ev:=(r.k,r.l)
def KRow.kv (r:KRow):List UInt8×Value:=(r.k,r.v)
def KRow.ev (r:KRow):Assn:=Evs_ r.v r.l
theorem kpos (k:List UInt8):∀ (ms:List KRow) (s:Nat),(mposV k (ms.map KRow.kv) s=none∧∀ f,lvUpd k f (ms.map KRow.kl)=ms.map KRow.kl++(if f []=[] then [] else [(k,f [])])) ∨
  ∃ i,∃ h:i<ms.length,mposV k (ms.map KRow.kv) s=some (s+i,(ms[i]'h).v)∧(ms[i]'h).k=k∧∀ f,lvUpd k f (ms.map KRow.kl)=if f (ms[i]'h).l=[] then (ms.map KRow.kl).eraseIdx i else (ms.map KRow.kl).set i (k,f (ms[i]'h).l)
 | [],s=>.inl ⟨rfl,fun f=>rfl⟩
 | r::ms,s=>by
  by_cases hk:k=r.k
  ·refine .inr ⟨0,by simp,?_,hk.symm,fun f=>?_⟩
   ·show (if k=r.k then some (s,r.v) else _)=_
    rw [if_pos hk];rfl
   ·show (if k=r.k then (if f r.l=[] then ms.map KRow.kl else (k,f r.l)::ms.map KRow.kl) else _)=_
    rw [if_pos hk];rfl
  ·have hp:mposV k ((r::ms).map KRow.kv) s=mposV k (ms.map KRow.kv) (s+1):=by
    show (if k=r.k then some (s,r.v) else _)=_
    rw [if_neg hk]
   have hu:∀ f,lvUpd k f ((r::ms).map KRow.kl)=r.kl::lvUpd k f (ms.map KRow.kl):=fun f=>by
    show (if k=r.k then _ else r.kl::lvUpd k f (ms.map KRow.kl))=_
    rw [if_neg hk]
   rcases kpos k ms (s+1) with ⟨h1,h2⟩ | ⟨i,hi,h1,h2,h3⟩
   ·exact .inl ⟨by rw [hp,h1],fun f=>by rw [hu,h2];rfl⟩
   ·refine .inr ⟨i+1,by simpa using hi,by rw [hp,h1];simp;omega,h2,fun f=>?_⟩
    rw [hu,h3]
    simp only [List.getElem_cons_succ,List.map_cons,List.eraseIdx_cons_succ,List.set_cons_succ]
    split <;> rfl
theorem lvUpd_tot (k:List UInt8) (f:List Ev→List Ev) (hf:∀ l,(f l).length≤l.length+1):∀ m:KMap,lvTot (lvUpd k f m)≤lvTot m+1
 | []=>by
  have:=hf []
  unfold lvUpd lvTot
  split
  ·simp
  ·simp at this ⊢;omega
 | p::m=>by
  have ih:=lvUpd_tot k f hf m
  have:=hf p.2
  unfold lvUpd
  split
  ·split
   ·unfold lvTot;simp;omega
   ·unfold lvTot;simp;omega
  ·unfold lvTot at ih ⊢;simp at ih ⊢;omega
theorem lvTot_mem:∀ {m:KMap} {p:List UInt8×List Ev},p∈m→p.2.length≤lvTot m
 | q::m,p,h=>by
  have hc:lvTot (q::m)=q.2.length+lvTot m:=rfl
  rcases List.mem_cons.1 h with rfl | h
  ·omega
  ·have:=lvTot_mem h
   omega
theorem lvTot_set:∀ (m:KMap) (i:Nat) (h:i<m.length) (p:List UInt8×List Ev),(lvTot (m.set i p):Int)=lvTot m+(p.2.length - (m[i]'h).2.length)
 | [],_,h,_=>by simp at h
 | q::m,0,h,p=>by unfold lvTot;simp;omega
 | q::m,i+1,h,p=>by
  have:=lvTot_set m i (by simpa using h) p
  unfold lvTot at this ⊢;simp at this ⊢;omega
theorem lvTot_erase:∀ (m:KMap) (i:Nat) (h:i<m.length),(lvTot (m.eraseIdx i):Int)=lvTot m+(0 - (m[i]'h).2.length)
 | [],_,h=>by simp at h
 | q::m,0,h=>by unfold lvTot;simp;omega
 | q::m,i+1,h=>by
  have:=lvTot_erase m i (by simpa using h)
  unfold lvTot at this ⊢;simp at this ⊢;omega
def LvA (g:Nat) (m:KMap):Assn:=fun h =>
 (m=[]∧Blk g 269 (lvC 0 (.int .u32 0) (.map none) 0) h) ∨
 ∃ (gm:Nat) (ms:List KRow),ms.map KRow.kl=m∧Star [Blk g 269 (lvC 1 (.int .u32 0) (.map (some gm)) (lvTot m)),MapV kvS gm (ms.map KRow.kv),Star (ms.map KRow.ev)] h
theorem star3 (A B C:Assn) (L:List Assn):Sub (A::B::C::L) (Star [A,B,C]::L) :=
 Sub.trans (Sub.cons A (Sub.trans (Sub.cons B (Sub.trans (Sub.cons C (Sub.drop _ (Sub.refl L))) (Star.open1 (A:=C) (As:=[]) L))) (Star.open1 (A:=B) (As:=[C]) L))) (Star.open1 (A:=A) (As:=[B,C]) L)
theorem star3c (A B C:Assn) (L:List Assn):Sub (Star [A,B,C]::L) (A::B::C::L) :=
 Sub.trans (Star.close1 (A:=A) (As:=[B,C]) L) (Sub.cons A (Sub.trans (Star.close1 (A:=B) (As:=[C]) L) (Sub.cons B (Sub.trans (Star.close1 (A:=C) (As:=[]) L) (Sub.cons C (Star.nil L))))))
@[reducible] def lvO (g gm:Nat) (z:Int) (ms:List KRow) (M:List Assn):List Assn:=Blk g 269 (lvC 1 (.int .u32 0) (.map (some gm)) z)::MapV kvS gm (ms.map KRow.kv)::Star (ms.map KRow.ev)::M
theorem LvA.cls {g gm:Nat} {m:KMap} {ms:List KRow} {z:Int} (h:ms.map KRow.kl=m) (hz:z=lvTot m) (M:List Assn):Sub (LvA g m::M) (lvO g gm z ms M):=by
 subst hz
 exact Sub.trans (Sub.cons' (fun x a=>.inr ⟨gm,ms,h,a⟩) (Sub.refl M)) (star3c _ _ _ M)
theorem LvA.fn {P:Program} {k:FuncId} {args:Array Value} {g:Nat} {m:KMap} {M:List Assn} {R:Value→List Assn→Prop}
  (h0:m=[]→Fn P k args (Blk g 269 (lvC 0 (.int .u32 0) (.map none) 0)::M) R) (h:∀ gm ms,ms.map KRow.kl=m→Fn P k args (lvO g gm (lvTot m) ms M) R):Fn P k args (LvA g m::M) R:=fun F w0 w r ⟨x,a,d,s⟩=>by
 rcases a with ⟨rfl,a⟩ | ⟨gm,ms,hs,a⟩
 ·exact h0 rfl F w0 w r ⟨x,a,d,s⟩
 ·exact h gm ms hs F w0 w r (star3 _ _ _ M w F ⟨x,a,d,s⟩)
theorem Fn.resv {P:Program} {k:FuncId} {args:Array Value} {L:List Assn} {R R':Value→List Assn→Prop} (h:Fn P k args L R) (hr:∀ v L',R v L'→∃ L2,Sub L2 L'∧R' v L2):Fn P k args L R':=fun F w0 w r s =>
 (h F w0 w r s).mono fun e w' ⟨v,L',he,hr',hs,hR⟩=>let ⟨L2,h1,h2⟩:=hr v L' hR;⟨v,L2,he,hr',h1 w' F hs,h2⟩
theorem once_A (g p:Nat) (t:TypeId) (m:KMap) (M:List Assn):Fn Tryz.prog 237 #[.pointer (some ⟨g,0,none⟩),.func (.func 238) #[] #[.pointer (some ⟨p,0,none⟩)]] (Blk p t [.pointer (some ⟨g,0,none⟩)]::LvA g m::M)
  fun r L'=>∃ gm ms,ms.map KRow.kl=m∧L'=Blk p t [.pointer (some ⟨g,0,none⟩)]::lvO g gm (lvTot m) ms M:=fun F w0 w r ⟨xp,ap,dp,x,a,d,s⟩=>by
 rcases a with ⟨rfl,a⟩ | ⟨gm,ms,hs,a⟩
 ·refine Fn.resv (once_first g p (.int .u32 0) (.map none) 0 t M) ?_ F w0 w r ⟨xp,ap,dp,x,a,d,s⟩
  rintro v L' ⟨gm,rfl⟩
  refine ⟨_,?_,gm,[],rfl,rfl⟩
  exact Sub.trans (Sub.cons _ (Sub.cons _ (Sub.cons _ (Star.nil M)))) (Sub.fr [2,2] rfl (Sub.refl _))
 ·have h1:Sub (Blk g 269 (lvC 1 (.int .u32 0) (.map (some gm)) (lvTot m))::Blk p t [.pointer (some ⟨g,0,none⟩)]::MapV kvS gm (ms.map KRow.kv)::Star (ms.map KRow.ev)::M) (Blk p t [.pointer (some ⟨g,0,none⟩)]::lvO g gm (lvTot m) ms M):=Sub.front (L:=Blk p t [.pointer (some ⟨g,0,none⟩)]::lvO g gm (lvTot m) ms M) 1 rfl
  have h2:Sub (Blk p t [.pointer (some ⟨g,0,none⟩)]::lvO g gm (lvTot m) ms M) (Blk g 269 (lvC 1 (.int .u32 0) (.map (some gm)) (lvTot m))::Blk p t [.pointer (some ⟨g,0,none⟩)]::MapV kvS gm (ms.map KRow.kv)::Star (ms.map KRow.ev)::M):=Sub.front (L:=Blk g 269 (lvC 1 (.int .u32 0) (.map (some gm)) (lvTot m))::Blk p t [.pointer (some ⟨g,0,none⟩)]::MapV kvS gm (ms.map KRow.kv)::Star (ms.map KRow.ev)::M) 1 rfl
  refine Fn.resv (Fn.sub (once_done g (.func (.func 238) #[] #[.pointer (some ⟨p,0,none⟩)]) (.int .u32 0) (.map (some gm)) (lvTot m) (Blk p t [.pointer (some ⟨g,0,none⟩)]::MapV kvS gm (ms.map KRow.kv)::Star (ms.map KRow.ev)::M)) h1) ?_ F w0 w r ⟨xp,ap,dp,star3 _ _ _ M w _ ⟨x,a,d,s⟩⟩
  rintro v L' rfl
  exact ⟨_,h2,gm,ms,hs,rfl⟩
end
section
theorem lvTot_app (m:KMap) (p:List UInt8×List Ev):lvTot (m++[p])=lvTot m+p.2.length:=by
 unfold lvTot;simp
theorem front3 {E A B C S:Assn} {L:List Assn} (X:Assn) (h:Sub (E::S::L) (X::L)):Sub (E::A::B::C::S::L) (A::B::C::X::L) :=
 Sub.trans (Sub.front (L:=A::B::C::E::S::L) 3 rfl) (Sub.cons A (Sub.cons B (Sub.cons C h)))
theorem map_eraseIdx {α β:Type} (φ:α→β) (l:List α) (i:Nat):(l.eraseIdx i).map φ=(l.map φ).eraseIdx i:=eraseIdx_map φ l i
theorem kstep (k:List UInt8) (f:List Ev→List Ev) (ms:List KRow):∃ (v0:Value) (l0:List Ev) (b:Bool) (X:List Assn),v0.oneCell'=true∧lookV k (ms.map KRow.kv) (.slice none 0 0)=(v0,b) ∧
  (∀ (A B C:Assn) (L:List Assn),Sub (Evs_ v0 l0::A::B::C::Star X::L) (A::B::C::Star (ms.map KRow.ev)::L))∧l0.length≤lvTot (ms.map KRow.kl) ∧
  (f l0=[]→∃ ms2:List KRow,mdel k (ms.map KRow.kv)=ms2.map KRow.kv∧X=ms2.map KRow.ev∧ms2.map KRow.kl=lvUpd k f (ms.map KRow.kl)) ∧
  (∀ (v1:Value),v1.oneCell'=true→f l0≠[]→∃ ms2:List KRow,mput k v1 (ms.map KRow.kv)=ms2.map KRow.kv∧(∀ L,Sub (Star (ms2.map KRow.ev)::L) (Evs_ v1 (f l0)::Star X::L))∧ms2.map KRow.kl=lvUpd k f (ms.map KRow.kl)) ∧
  ((lvTot (lvUpd k f (ms.map KRow.kl)):Nat):Int)=(lvTot (ms.map KRow.kl):Nat)+(((f l0).length:Int) - l0.length):=by
 rcases kpos k ms 0 with ⟨hp,hu⟩ | ⟨i,hi,hp,hk,hu⟩
 ·refine ⟨.slice none 0 0,[],false,ms.map KRow.ev,rfl,by unfold lookV;rw [hp],fun A B C L=>?_,Nat.zero_le _,fun hf=>?_,fun v1 o1 hf=>?_,?_⟩
  ·exact Sub.empty (α:=Ev) none 80 _
  ·exact ⟨ms,by unfold mdel;rw [hp],rfl,by rw [hu,if_pos hf,List.append_nil]⟩
  ·refine ⟨ms++[⟨k,v1,o1,f []⟩],by unfold mput;rw [hp];simp [KRow.kv],fun L=>?_,by rw [hu,if_neg hf];simp [KRow.kl]⟩
   rw [List.map_append]
   exact Star.last _ L
  ·rw [hu]
   by_cases hf:f []=[]
   ·rw [if_pos hf,hf];simp
   ·rw [if_neg hf,lvTot_app];simp
 ·rw [Nat.zero_add] at hp
  have hil:i<(ms.map KRow.ev).length:=by simpa using hi
  have hkl:(ms.map KRow.kl)[i]'(by simpa using hi)=((ms[i]'hi).k,(ms[i]'hi).l):=by rw [List.getElem_map];rfl
  refine ⟨(ms[i]'hi).v,(ms[i]'hi).l,true,(ms.map KRow.ev).eraseIdx i,(ms[i]'hi).o,by unfold lookV;rw [hp],fun A B C L=>?_,?_,fun hf=>?_,fun v1 o1 hf=>?_,?_⟩
  ·exact front3 _ (Star.focus L (by simp [hi];rfl))
  ·have:((ms[i]'hi).k,(ms[i]'hi).l)∈ms.map KRow.kl:=by rw [← hkl];exact List.getElem_mem _
   exact lvTot_mem this
  ·exact ⟨ms.eraseIdx i,by unfold mdel;rw [hp,map_eraseIdx],by rw [map_eraseIdx],by rw [hu,if_pos hf,map_eraseIdx]⟩
  ·refine ⟨ms.set i ⟨k,v1,o1,f (ms[i]'hi).l⟩,by unfold mput;rw [hp,List.map_set];rfl,fun L=>?_,by rw [hu,if_neg hf,List.map_set];rfl⟩
   rw [List.map_set]
   exact Star.unfocus _ L hil
  ·rw [hu]
   by_cases hf:f (ms[i]'hi).l=[]
   ·rw [if_pos hf,hf,lvTot_erase _ i (by simpa using hi),hkl];simp
   ·rw [if_neg hf,lvTot_set _ i (by simpa using hi),hkl]
end
section
theorem ExL.capd {P:Program} {n:Nat} {ops:Array Oper} {l:List Oper} {Q:Post} {f:Nat→Value} {L:List Assn} {α:Type} [Rep α] {v:Value} {xs:List α} (hr:RdT L v xs) (h:Capd v xs.length→ExL P n ops l Q f L):ExL P n ops l Q f L :=
 fun D F w0 f0 ws a w H hc=>h (hr.capd w F H.2.2.1) D F w0 f0 ws a w H hc
set_option maxRecDepth 20000 attribute [local irreducible] Ex ExL Fn thn inb rnd fin meet Tab Mix mxEnd Val Sats RdT Rd RowT Row Blk Sub Fac ResV RVal Evs subs subs3 Hid Capd
section
attribute [local irreducible] Star MapV
theorem live_New (M:List Assn):Fn Tryz.prog 186 #[] M fun r L'=>∃ g,r=.pointer (some ⟨g,0,none⟩)∧L'=LvA g []::M:=by
 refine Fn.resv (R:=fun r L'=>∃ g,r=.pointer (some ⟨g,0,none⟩)∧L'=Blk g 269 (lvC 0 (.int .u32 0) (.map none) 0)::M) ?_ ?_
 ·refine Fn.of_ex Tryz.func186 rfl Tryz.ntmps186 rfl ?_
  (refine rn ?_;(repeat (first | intro (g:Nat) | intro (v:Value) | intro h)))
  (refine fr ?_)
  exact ⟨_,rB,_,rfl,rfl⟩
 ·rintro v L' ⟨g,rfl,rfl⟩
  exact ⟨_,Sub.cons' (fun x a=>.inl ⟨rfl,a⟩) (Sub.refl M),g,rfl,rfl⟩
theorem lapply_F (gS:Nat) (m:KMap) (e:Ev) (M:List Assn) (hm:e.May) (hk:e.ed.key.length≤1000) (hv:e.ed.value.length≤1000) (ht:lvTot m≤1000000) :
  Fn Tryz.prog 175 #[.pointer (some ⟨gS,0,none⟩),.agg (Rep.cells e).toArray] (LvA gS m::M) fun r L'=>r=.int .i64 0∧L'=LvA gS (lvApply m e)::M:=by
 refine Fn.resv (R:=fun r L'=>r=.int .i64 0∧∃ gm ms2 z,ms2.map KRow.kl=lvApply m e∧z=((lvTot (lvApply m e):Nat):Int)∧L'=lvO gS gm z ms2 M) ?_ ?_
 rotate_left
 ·rintro v L' ⟨rfl,gm,ms2,z,h1,h2,rfl⟩
  exact ⟨_,LvA.cls h1 h2 M,rfl,rfl⟩
 refine Fn.of_ex Tryz.func175 rfl Tryz.ntmps175 rfl ?_
 (refine rn ?_;(repeat (first | intro (g:Nat) | intro (v:Value) | intro (o:O1 _) | intro (cs:List Value) | intro (hcs:_=List.set _ _ _) | intro (zs:List _) | intro h)))
 refine st_callIs [] rJ Tryz.call236 rJ rJ (evMay_F e _ rM rM) ?_
 rintro _ _ ⟨⟨y,hy,rfl⟩,rfl⟩
 obtain rfl:y=0:=hy.2 hm
 rename_i gp
 revert g
 intro ge
 (refine rn ?_;(repeat (first | intro (v:Value) | intro h)))
 refine st_callIs [2,2] rJ Tryz.call237 rE rJ (once_A gS gp _ m _) ?_
 rintro _ _ ⟨gm,ms,rfl,rfl⟩
 obtain ⟨v0,l0,bb,X,o0,hlook,hfoc,hl0,hdel,hput,htot⟩:=kstep e.ed.key (fun l=>lvWith l e) ms
 have hwl:=lvWith_len l0 e
 obtain ⟨m,hm2⟩:∃ m,m=ms.map KRow.kl:=⟨_,rfl⟩
 rw [← hm2] at hdel hput htot ht hl0 ⊢
 rw [show lvUpd e.ed.key (fun l=>lvWith l e) m=lvApply m e from rfl] at hdel hput htot
 obtain ⟨z,hz⟩:∃ z:Int,z=(lvTot m:Nat):=⟨_,rfl⟩
 rw [← hz]
 obtain ⟨kvs,hkvs⟩:∃ kvs,kvs=ms.map KRow.kv:=⟨_,rfl⟩
 rw [← hkvs] at hlook hdel hput
 unfold lvO
 rw [← hkvs]
 (refine rn ?_;(repeat (first | intro (v:Value) | intro h)))
 (refine mu7 ?_;(repeat (first | intro (v:Value) | intro h)))
 refine mx_act rJ rJ rJ ?_
 refine ExL.val rJ rJ rJ (vl_look1 (kt:=9) (et:=86) 2 (k:=e.ed.key) (m:=kvs) rJ rJ rJ rQ (z:=.slice none 0 0) rQ) ?_
 rw [hlook]
 (refine ExL.nil ?_;refine mxEnd_n rF ?_;(refine mn ?_;(repeat (first | intro (v:Value) | intro h))))
 (refine rn ?_;(repeat (first | intro (v:Value) | intro h)))
 refine ExL.sub ?_ (hfoc _ _ _ _)
 refine ExL.capd (v:=v0) (xs:=l0) rD (fun hcap=>?_)
 refine st_callIs [] rJ Tryz.call239 rJ rJ (lwith_F v0 l0 e _ o0 rM) ?_
 rintro v1 _ ⟨o1,rfl⟩
 (refine rn ?_;intros)
 refine st_callIs [2] rJ Tryz.call240 rE rJ (atomAdd_F gS 4 _ _ (lvC 1 (.int .u32 0) (.map (some gm)) (lvTot (lvApply m e):Nat)) z (((lvWith l0 e).length:Int) - l0.length) _ rJ (by rw [IntKind.wrap_i64];omega) (by rw [htot,← hz];rfl)) ?_
 rintro _ _ rfl
 by_cases hn:lvWith l0 e=[]
 ·obtain ⟨ms2,h1,h2,h3⟩:=hdel hn
  have hn0:(lvWith l0 e).length=0:=by rw [hn];rfl
  (refine rn ?_;intros)
  refine Ex.reord [3] rE ?_
  (refine Ex.mixA 7 (Blk gS 269 (lvC 1 (.int .u32 0) (.map (some gm)) (lvTot (lvApply m e):Nat))::Evs_ v1 (lvWith l0 e)::Blk gp 182 [.pointer (some ⟨gS,0,none⟩)]::Star X::Blk ge 80 (Rep.cells e)::M) rfl rQ rF ?_;(refine mn ?_;intros))
  refine mx_act rJ rJ rJ ?_
  refine st_mapDelV (kt:=9) (et:=86) 0 (kv:=kvS) rfl (k:=e.ed.key) (m:=kvs) rJ rJ rJ rJ rQ rfl ?_
  (refine mw ?_;intros)
  rw [h1,h2]
  (refine rn ?_;intros)
  (refine fr ?_)
  exact ⟨_,Sub.fr [1] rE rB,rfl,gm,ms2,_,h3,rfl,rfl⟩
 ·obtain ⟨ms2,h1,h2,h3⟩:=hput v1 o1 hn
  have hn0:(lvWith l0 e).length≠0:=fun h=>hn (List.eq_nil_of_length_eq_zero h)
  (refine rn ?_;intros)
  (refine mu7 ?_;intros)
  refine st_mapPut (kt:=9) (et:=86) 3 (kv:=kvS) rfl (k:=e.ed.key) (m:=kvs) rJ rJ rJ rJ rQ rfl ?_
  rw [h1]
  (refine rn ?_;intros)
  (refine fr ?_)
  exact ⟨_,Sub.fr [3,4,2,4] rE (Sub.cons _ (Sub.cons _ (Sub.trans (Sub.cons _ rB) (h2 _)))),rfl,gm,ms2,_,h3,rfl,rfl⟩
end
end
section
open Go.RowKit Go.Maps Go.Sort Go.Shelf
def keys169_ren:Go.Shelf.Ren:=⟨fun | 7=>169 | 10=>228 | n=>n,fun | 23=>253 | 26=>9 | 3=>86 | 28=>251 | 0=>0 | 27=>250 | 33=>322 | 4=>4 | n=>n,fun | n=>n⟩
theorem keys169:Go.Proofs.SlLaysZ.n7 Tryz.prog keys169_ren:={
 mixed:=by kernel_rfl
 f7:=⟨Tryz.f169.name,by decide,Tryz.func169.trans (congrArg some rQ)⟩
 f10:=⟨Tryz.f228.name,by decide,Tryz.func228.trans (congrArg some rQ)⟩
 t0:=Tryz.underlying0
 a0:=Tryz.isAgg0
 z0:=Tryz.sizeOf0
 v0:=Tryz.zeroValue0
 t4:=Tryz.underlying4
 a4:=Tryz.isAgg4
 z4:=Tryz.sizeOf4
 v4:=Tryz.zeroValue4
 t23:=Tryz.underlying253
 a23:=Tryz.isAgg253
 z23:=Tryz.sizeOf253
 v23:=Tryz.zeroValue253
 t26:=Tryz.underlying9
 a26:=Tryz.isAgg9
 z26:=Tryz.sizeOf9
 v26:=Tryz.zeroValue9
 t27:=Tryz.underlying250
 a27:=Tryz.isAgg250
 z27:=Tryz.sizeOf250
 v27:=Tryz.zeroValue250
 t28:=Tryz.underlying251
 a28:=Tryz.isAgg251
 z28:=Tryz.sizeOf251
 v28:=Tryz.zeroValue251
 t33:=Tryz.underlying322
 a33:=Tryz.isAgg322
 z33:=Tryz.sizeOf322
 v33:=Tryz.zeroValue322 }
def sorted168_ren:Go.Shelf.Ren:=⟨fun | 6=>168 | 8=>226 | 9=>227 | 11=>263 | 13=>265 | 12=>264 | 23=>304 | 24=>305 | 14=>295 | 15=>296 | 16=>297 | 17=>298 | 18=>299 | 19=>300 | 20=>301 | 21=>302 | 22=>303 | 25=>326 | 26=>327 | 27=>328 | 28=>329 | 29=>330 | 30=>331 | 31=>337 | n=>n,fun | 26=>9 | 28=>251 | 24=>70 | 0=>0 | 3=>3 | 37=>351 | 48=>27 | 50=>158 | 4=>4 | 40=>375 | 39=>374 | 45=>380 | 5=>5 | 9=>9 | 51=>396 | 55=>400 | 57=>406 | 58=>407 | 33=>322 | n=>n,fun | n=>n⟩
theorem sorted168:Go.Proofs.SlLaysZ.n6 Tryz.prog sorted168_ren:={
 mixed:=by kernel_rfl
 f6:=⟨Tryz.f168.name,by decide,Tryz.func168.trans (congrArg some rQ)⟩
 f8:=⟨Tryz.f226.name,by decide,Tryz.func226.trans (congrArg some rQ)⟩
 f11:=⟨Tryz.f263.name,by decide,Tryz.func263.trans (congrArg some rQ)⟩
 t0:=Tryz.underlying0
 a0:=Tryz.isAgg0
 z0:=Tryz.sizeOf0
 v0:=Tryz.zeroValue0
 t24:=Tryz.underlying70
 a24:=Tryz.isAgg70
 z24:=Tryz.sizeOf70
 v24:=Tryz.zeroValue70
 t26:=Tryz.underlying9
 a26:=Tryz.isAgg9
 z26:=Tryz.sizeOf9
 v26:=Tryz.zeroValue9
 t28:=Tryz.underlying251
 a28:=Tryz.isAgg251
 z28:=Tryz.sizeOf251
 v28:=Tryz.zeroValue251
 i26:=by kernel_rfl }
def sort227_ren:Go.Shelf.Ren:=⟨fun | 6=>227 | 8=>265 | 9=>264 | 19=>304 | 20=>305 | 21=>295 | 22=>296 | 23=>297 | 24=>298 | 25=>299 | 26=>300 | 27=>301 | 28=>302 | 29=>303 | 36=>326 | 31=>327 | 32=>328 | 37=>329 | 38=>330 | 39=>331 | 41=>337 | n=>n,fun | 27=>70 | 29=>9 | 3=>3 | 32=>351 | 26=>70 | 0=>0 | 44=>27 | 46=>158 | 4=>4 | 36=>375 | 35=>374 | 41=>380 | 5=>5 | 9=>9 | 53=>396 | 57=>400 | 63=>406 | 64=>407 | n=>n,fun | n=>n⟩
theorem sort227:Go.Proofs.SlLaysM.n6 Tryz.prog sort227_ren:={
 mixed:=by kernel_rfl
 f6:=⟨Tryz.f227.name,by decide,Tryz.func227.trans (congrArg some rQ)⟩
 f8:=Tryz.func265.trans (congrArg some rQ)
 f9:=⟨Tryz.f264.name,by decide,Tryz.func264.trans (congrArg some rQ)⟩
 f19:=Tryz.func304.trans (congrArg some rQ)
 f20:=Tryz.func305.trans (congrArg some rQ)
 f21:=⟨Tryz.f295.name,by decide,Tryz.func295.trans (congrArg some rQ)⟩
 f22:=⟨Tryz.f296.name,by decide,Tryz.func296.trans (congrArg some rQ)⟩
 f23:=⟨Tryz.f297.name,by decide,Tryz.func297.trans (congrArg some rQ)⟩
 f24:=⟨Tryz.f298.name,by decide,Tryz.func298.trans (congrArg some rQ)⟩
 f25:=⟨Tryz.f299.name,by decide,Tryz.func299.trans (congrArg some rQ)⟩
 f26:=⟨Tryz.f300.name,by decide,Tryz.func300.trans (congrArg some rQ)⟩
 f27:=⟨Tryz.f301.name,by decide,Tryz.func301.trans (congrArg some rQ)⟩
 f28:=⟨Tryz.f302.name,by decide,Tryz.func302.trans (congrArg some rQ)⟩
 f29:=⟨Tryz.f303.name,by decide,Tryz.func303.trans (congrArg some rQ)⟩
 f31:=Tryz.func327.trans (congrArg some rQ)
 f32:=Tryz.func328.trans (congrArg some rQ)
 f36:=⟨Tryz.f326.name,by decide,Tryz.func326.trans (congrArg some rQ)⟩
 f37:=⟨Tryz.f329.name,by decide,Tryz.func329.trans (congrArg some rQ)⟩
 f38:=⟨Tryz.f330.name,by decide,Tryz.func330.trans (congrArg some rQ)⟩
 f39:=⟨Tryz.f331.name,by decide,Tryz.func331.trans (congrArg some rQ)⟩
 f41:=⟨Tryz.f337.name,by decide,Tryz.func337.trans (congrArg some rQ)⟩
 t0:=Tryz.underlying0
 a0:=Tryz.isAgg0
 z0:=Tryz.sizeOf0
 v0:=Tryz.zeroValue0
 t3:=Tryz.underlying3
 a3:=Tryz.isAgg3
 z3:=Tryz.sizeOf3
 v3:=Tryz.zeroValue3
 t4:=Tryz.underlying4
 a4:=Tryz.isAgg4
 z4:=Tryz.sizeOf4
 v4:=Tryz.zeroValue4
 t5:=Tryz.underlying5
 a5:=Tryz.isAgg5
 z5:=Tryz.sizeOf5
 v5:=Tryz.zeroValue5
 t9:=Tryz.underlying9
 a9:=Tryz.isAgg9
 z9:=Tryz.sizeOf9
 v9:=Tryz.zeroValue9
 t26:=Tryz.underlying70
 a26:=Tryz.isAgg70
 z26:=Tryz.sizeOf70
 v26:=Tryz.zeroValue70
 t27:=Tryz.underlying70
 a27:=Tryz.isAgg70
 z27:=Tryz.sizeOf70
 v27:=Tryz.zeroValue70
 t29:=Tryz.underlying9
 a29:=Tryz.isAgg9
 z29:=Tryz.sizeOf9
 v29:=Tryz.zeroValue9
 t32:=Tryz.underlying351
 a32:=Tryz.isAgg351
 z32:=Tryz.sizeOf351
 v32:=Tryz.zeroValue351
 t35:=Tryz.underlying374
 a35:=Tryz.isAgg374
 z35:=Tryz.sizeOf374
 v35:=Tryz.zeroValue374
 t36:=Tryz.underlying375
 a36:=Tryz.isAgg375
 z36:=Tryz.sizeOf375
 v36:=Tryz.zeroValue375
 t41:=Tryz.underlying380
 a41:=Tryz.isAgg380
 z41:=Tryz.sizeOf380
 v41:=Tryz.zeroValue380
 t44:=Tryz.underlying27
 a44:=Tryz.isAgg27
 z44:=Tryz.sizeOf27
 v44:=Tryz.zeroValue27
 t46:=Tryz.underlying158
 a46:=Tryz.isAgg158
 z46:=Tryz.sizeOf158
 v46:=Tryz.zeroValue158
 t53:=Tryz.underlying396
 a53:=Tryz.isAgg396
 z53:=Tryz.sizeOf396
 v53:=Tryz.zeroValue396
 t57:=Tryz.underlying400
 a57:=Tryz.isAgg400
 z57:=Tryz.sizeOf400
 v57:=Tryz.zeroValue400
 t63:=Tryz.underlying406
 a63:=Tryz.isAgg406
 z63:=Tryz.sizeOf406
 v63:=Tryz.zeroValue406
 t64:=Tryz.underlying407
 a64:=Tryz.isAgg407
 z64:=Tryz.sizeOf407
 v64:=Tryz.zeroValue407 }
theorem sorts168 (m:Nat):AnyZ.SortsIn Tryz.prog sorted168_ren Fence.wide m :=
  ⟨fun blk off cap ss W hH hblk hsz=>callsIn_wide.2 (AnyM.slices_Sort_string sort227 blk off cap ss W hH hblk hsz),
   fun p cap W=>callsIn_wide.2 (AnyM.slices_Sort_string_none sort227 p cap W)⟩
end
section
def insK (k:List UInt8):List (List UInt8)→List (List UInt8)
 | []=>[k]
 | x::l=>if k≤x then k::x::l else x::insK k l
def sortK:List (List UInt8)→List (List UInt8)
 | []=>[]
 | k::l=>insK k (sortK l)
theorem insK_perm (k:List UInt8):∀ l,(insK k l).Perm (k::l)
 | []=>List.Perm.refl _
 | x::l=>by
  unfold insK
  split
  ·exact List.Perm.refl _
  ·exact ((insK_perm k l).cons x).trans (.swap k x l)
theorem sortK_perm:∀ l,(sortK l).Perm l
 | []=>List.Perm.refl _
 | k::l=>(insK_perm k _).trans ((sortK_perm l).cons k)
theorem insK_sorted (k:List UInt8):∀ l:List (List UInt8),l.Pairwise (·≤·)→(insK k l).Pairwise (·≤·)
 | [],_=>by simp [insK]
 | x::l,h=>by
  unfold insK
  rw [List.pairwise_cons] at h
  split
  ·rename_i hk
   refine List.pairwise_cons.2 ⟨fun y hy=>?_,List.pairwise_cons.2 h⟩
   rcases List.mem_cons.1 hy with rfl | hy
   ·exact hk
   ·exact List.le_trans hk (h.1 y hy)
  ·rename_i hk
   refine List.pairwise_cons.2 ⟨fun y hy=>?_,insK_sorted k l h.2⟩
   rcases List.mem_cons.1 ((insK_perm k l).mem_iff.1 hy) with rfl | hy
   ·rcases List.le_total y x with h1 | h1
    ·exact absurd h1 hk
    ·exact h1
   ·exact h.1 y hy
theorem sortK_sorted:∀ l:List (List UInt8),(sortK l).Pairwise (·≤·)
 | []=>List.Pairwise.nil
 | k::l=>insK_sorted k _ (sortK_sorted l)
theorem sortK_eq {l l':List (List UInt8)} (h:l.Perm l'):l.mergeSort (fun x y=>decide (x≤y))=sortK l':=by
 have tr:∀ a b c:List UInt8,decide (a≤b)=true→decide (b≤c)=true→decide (a≤c)=true:=fun a b c h1 h2=>by simp only [decide_eq_true_eq] at *;exact List.le_trans h1 h2
 have to:∀ a b:List UInt8,(decide (a≤b) || decide (b≤a))=true:=fun a b=>by simp only [Bool.or_eq_true,decide_eq_true_eq];exact List.le_total a b
 refine List.Perm.eq_of_pairwise (le:=fun a b=>decide (a≤b)=true) (fun a b _ _ h1 h2=>?_) (List.pairwise_mergeSort tr to l) ((sortK_sorted l').imp fun h=>decide_eq_true h) (((List.mergeSort_perm l _).trans h).trans (sortK_perm l').symm)
 simp only [decide_eq_true_eq] at h1 h2
 exact List.le_antisymm h1 h2
open Go.Maps Go.Sort Go.Shelf in
theorem sortedAt {H:Type} (g b nn:Nat) (D0:DataW H) (R:Value→Option (DataW H×List MemPlace)) (w:World) (hg:g<w.heap.size) (hm:w.cell? ⟨g,0,none⟩=some (.map (some b))) (hown:w.ownsMap Tryz.prog 9 R b nn D0) (hmax:Maps.size D0≤maxLen) (hbytes:Maps.size D0 * 16≤140737488355328) :
  CallsIn Fence.wide 5 Tryz.prog 168 #[.func (.func 228) #[] #[.pointer (some ⟨g,0,none⟩)]] w fun e w'=>∃ (v:Value) (ss:List (List UInt8)),e=.returned v∧ss.Perm (strKeys D0) ∧
   w'.ownsRow w.heap.size 9 1 v ss.length ((ss.mergeSort (fun x y=>decide (x≤y))).map encStr)∧(v=.slice none 0 0↔ss=[])∧Below w.heap.size w w':=by
 have hseq:SeqGives Fence.wide 2 Tryz.prog 228 #[.pointer (some ⟨g,0,none⟩)] encStr (fun ss=>ss.Perm (strKeys D0)) (Maps.size D0) w :=
  AnyZ.keys_gives (ρ:=keys169_ren) { keys169 with } Fence.wide _ trivial rfl rM g b nn D0 _ hg hm hown
 exact AnyZ.sorted_in sorted168 Fence.wide 5 trivial trivial trivial trivial rfl rM (sorts168 _) (enters_of Tryz.func227 rQ rfl) 228 #[.pointer (some ⟨g,0,none⟩)] trivial (enters_of Tryz.func228 rQ rfl) _ _ hmax hbytes _ hseq
open Go.Maps Go.Sort Go.Shelf in
theorem sortedNilAt (g:Nat) (w:World) (hg:g<w.heap.size) (hm:w.cell? ⟨g,0,none⟩=some (.map none)) :
  CallsIn Fence.wide 5 Tryz.prog 168 #[.func (.func 228) #[] #[.pointer (some ⟨g,0,none⟩)]] w fun e w'=>∃ (v:Value) (ss:List (List UInt8)),e=.returned v∧ss=[] ∧
   w'.ownsRow w.heap.size 9 1 v ss.length ((ss.mergeSort (fun x y=>decide (x≤y))).map encStr)∧(v=.slice none 0 0↔ss=[])∧Below w.heap.size w w':=by
 have hseq:SeqGives Fence.wide 2 Tryz.prog 228 #[.pointer (some ⟨g,0,none⟩)] encStr (fun ss:List (List UInt8)=>ss=[]) 0 w :=
  AnyZ.keys_gives_nil (ρ:=keys169_ren) { keys169 with } Fence.wide _ trivial rfl g w hg hm
 exact AnyZ.sorted_in sorted168 Fence.wide 5 trivial trivial trivial trivial rfl rM (sorts168 _) (enters_of Tryz.func227 rQ rfl) 228 #[.pointer (some ⟨g,0,none⟩)] trivial (enters_of Tryz.func228 rQ rfl) _ 0 (Nat.zero_le _) rM _ hseq
theorem below_sats {w w':World} (hb:Below w.heap.size w w') {L:List Assn} {F:Frag} (s:Sats w L F):Sats w' L F:=Sats.world (w:=w) (w':=w') (fun n o h=>by
 rw [hb.block n (Array.getElem?_eq_some_iff.1 h).1];exact h) s
theorem below_rest {w0 w w':World} (hb:Below w.heap.size w w') (r:Rest w0 w):Rest w0 w':=Rest.trans r ⟨hb.os,hb.tape,hb.output⟩
theorem disj_beyond {w:World} {L:List Assn} {F:Frag} (s:Sats w L F) {g:Nat} (hg:w.heap.size≤g) (o:Obj):(Frag.one g o).disj F:=by
 intro n
 by_cases hn:n=g
 ·right
  cases hf:F n with
  | none=>rfl
  | some x =>
   have:=Sats.frame s n x hf
   rw [Array.getElem?_eq_none rM] at this
   cases this
 ·exact .inl (Frag.one_other o hn)
theorem add_beyond {w w':World} (hb:Below w.heap.size w w') {g:Nat} (hg:w.heap.size≤g) (o:Obj) (ho:w'.heap[g]?=some o):∀ {L:List Assn} {F:Frag},Sats w L F→Sats w' L ((Frag.one g o).add F)
 | [],F,s=>fun n x e=>by
  unfold Frag.add at e
  by_cases hn:n=g
  ·subst hn
   rw [Frag.one_self] at e
   simp at e
   subst e
   exact ho
  ·rw [Frag.one_other o hn] at e
   simp at e
   have:=s n x e
   have hlt:n<w.heap.size:=(Array.getElem?_eq_some_iff.1 this).1
   rw [hb.block n hlt]
   exact this
 | A::L,F,⟨h,a,d,s⟩=>by
  have hn:=disj_beyond s hg o
  rw [Frag.disj_add] at hn
  refine ⟨h,a,?_,?_⟩
  ·rw [Frag.disj_add];exact ⟨Frag.disj_symm hn.1,d⟩
  ·rw [Frag.add_left_comm (Frag.disj_symm hn.1)]
   exact add_beyond hb hg o ho s
theorem own_row {α:Type} [Rep α] {w w':World} {t:TypeId} {v:Value} {xs:List α} (ho:w'.ownsRow w.heap.size t (Rep.sz α) v xs.length (cellsOf xs)) (hb:Below w.heap.size w w') {L:List Assn} {F:Frag} (s:Sats w L F):Sats w' (RowT v t xs::L) F:=by
 obtain ⟨hl,⟨rfl,h0⟩ | ⟨g,cap,cur,rfl,hg,hh,h1,h2,h3,h4⟩⟩:=ho
 ·have e0:xs=[]:=List.eq_nil_of_length_eq_zero h0
  subst e0
  have h:=Sub.empty (α:=α) none t L
  unfold Sub at h
  exact h w' F (below_sats hb s)
 ·exact ⟨Frag.one g (.cells cur t (0,0)),⟨hl,.inr ⟨g,cap,cur,rfl,rfl,h1,h2,h3,h4⟩⟩,disj_beyond s hg _,add_beyond hb hg _ hh s⟩
theorem own_one {w':World} {v:Value} {n:Nat} {xs:List Value} {t:TypeId} {b:Nat} (h:w'.ownsRow b t 1 v n xs):v.oneCell'=true:=by
 obtain ⟨_,⟨rfl,_⟩ | ⟨g,cap,cur,rfl,_⟩⟩:=h <;> rfl
theorem cells_txt (ss:List (List UInt8)):cellsOf (ss.map Txt.mk)=ss.map encStr:=by
 induction ss with
 | nil=>rfl
 | cons a l ih =>
  show Rep.cells (Txt.mk a)++cellsOf (l.map Txt.mk)=_
  rw [ih]
  rfl
open Go.Maps Go.Sort Go.Shelf in
theorem sorted_F (g gm:Nat) (m:List (List UInt8×Value)) (M:List Assn) (hk:∀ p∈m,p.1.length≤1000) (hl:m.length≤1000000) :
  Fn Tryz.prog 168 #[.func (.func 228) #[] #[.pointer (some ⟨g,0,none⟩)]] (Blk g 253 [.map (some gm)]::MapV kvS gm m::M)
   fun r L'=>r.oneCell'=true∧L'=RowT r 9 ((sortK (m.map (·.1))).map Txt.mk)::Blk g 253 [.map (some gm)]::MapV kvS gm m::M:=fun F w0 w r s=>by
 have hcell:=blk_cell (i:=0) (o:=0) rfl rfl s
 have hgl:g<w.heap.size:=by
  rcases Nat.lt_or_ge g w.heap.size with h | h
  ·exact h
  ·simp [World.cell?,Array.getElem?_eq_none h] at hcell
 obtain ⟨es,clock,hh,he,hst⟩:=mapV_heap (i:=1) rfl s
 have hlen:es.toList.length=m.length:=by
  have:=congrArg List.length he
  simpa using this
 have hu:Tryz.prog.underlying 9=some .string:=by kernel_rfl
 have hkey:∀ x∈es.toList,∃ p∈m,x.key=kvS p.1:=fun x hx=>by
  have h1:(x.key,x.val)∈es.toList.map (fun e=>(e.key,e.val)):=List.mem_map_of_mem hx
  rw [he] at h1
  obtain ⟨p,hp,hpe⟩:=List.mem_map.1 h1
  simp only [Prod.mk.injEq] at hpe
  exact ⟨p,hp,hpe.1.symm⟩
 obtain ⟨R,hR⟩:∃ R:Value→Option (DataW Unit×List MemPlace),R=fun _=>some (.nil,[]):=⟨_,rfl⟩
 have hrd:∀ x∈es.toList,∃ l:List UInt8,x.key=kvS l∧Go.WideElems.rd Tryz.prog 9 R x=some (.string l,.nil):=fun x hx=>by
  obtain ⟨p,hp,hxk⟩:=hkey x hx
  refine ⟨p.1,hxk,?_⟩
  have hko:keyOf Tryz.prog 9 x.key=some (.string p.1):=by
   rw [hxk]
   have hk1:=hk p hp
   rw [Go.keyOf_string hu]
   have hm:p.1.length≤maxLen:=by unfold maxLen;omega
   simp [mapKey,hu,kvS,ByteArray.size,hm]
  unfold Go.WideElems.rd
  rw [hko,hR]
  rfl
 have hsize:es.size≤maxLen:=by
  have:es.size=m.length:=by simpa using hlen
  unfold maxLen
  omega
 have hfit:Go.WideElems.Fit Tryz.prog 9 R es clock:=⟨hsize,hst,fun x hx=>let ⟨l,_,h⟩:=hrd x hx;⟨_,h⟩⟩
 obtain ⟨D0,hD0⟩:∃ D0:DataW Unit,D0=.map ((es.toList.map (Go.WideElems.rg Tryz.prog 9 R)).foldr DataW.insert []):=⟨_,rfl⟩
 have hown:w.ownsMap Tryz.prog 9 R gm es.size D0:=⟨es,clock,hh,hfit,Nat.le_refl _,hD0⟩
 have hkeys:(strKeys D0).Perm (m.map (·.1)):=by
  rw [hD0]
  show (((es.toList.map (Go.WideElems.rg Tryz.prog 9 R)).foldr DataW.insert []).map fun p=>strOf p.1).Perm _
  refine ((Go.WideShapes.sorted_perm _).map _).trans ?_
  have:(es.toList.map (Go.WideElems.rg Tryz.prog 9 R)).map (fun p=>strOf p.1)=m.map (·.1):=by
   have e1:(es.toList.map fun e=>(e.key,e.val)).map (fun p=>match p.1 with | .string s=>s.data.toList | _=>[])=m.map (·.1):=by
    rw [he,List.map_map]
    refine List.map_congr_left fun p _=>?_
    simp [kvS]
   rw [← e1,List.map_map,List.map_map]
   refine List.map_congr_left fun x hx=>?_
   obtain ⟨l,hxl,hrx⟩:=hrd x hx
   simp [Go.WideElems.rg,hrx,strOf,hxl,kvS]
  rw [this]
 have hsz:Maps.size D0=m.length:=by
  have:=hkeys.length_eq
  rw [hD0] at this ⊢
  simpa [strKeys,Maps.size] using this
 refine (callsIn_wide.1 (sortedAt g gm es.size D0 R w hgl hcell hown (by rw [hsz];unfold maxLen;omega) (by rw [hsz];omega))).mono ?_
 rintro e w' ⟨v,ss,rfl,hp,hrow,_,hbel⟩
 rw [sortK_eq (hp.trans hkeys)] at hrow
 have hl2:ss.length=((sortK (m.map (·.1))).map Txt.mk).length:=by
  rw [List.length_map,(sortK_perm _).length_eq,hp.length_eq,hkeys.length_eq]
 rw [hl2,← cells_txt] at hrow
 exact ⟨v,_,rfl,below_rest hbel r,own_row hrow hbel s,own_one hrow,rfl⟩
open Go.Maps Go.Sort Go.Shelf in
theorem sortedNil_F (g:Nat) (M:List Assn) :
  Fn Tryz.prog 168 #[.func (.func 228) #[] #[.pointer (some ⟨g,0,none⟩)]] (Blk g 253 [.map none]::M)
   fun r L'=>r.oneCell'=true∧L'=RowT r 9 ([]:List Txt)::Blk g 253 [.map none]::M:=fun F w0 w r s=>by
 have hcell:=blk_cell (i:=0) (o:=0) rfl rfl s
 have hgl:g<w.heap.size:=by
  rcases Nat.lt_or_ge g w.heap.size with h | h
  ·exact h
  ·simp [World.cell?,Array.getElem?_eq_none h] at hcell
 refine (callsIn_wide.1 (sortedNilAt g w hgl hcell)).mono ?_
 rintro e w' ⟨v,ss,rfl,rfl,hrow,_,hbel⟩
 have h2:w'.ownsRow w.heap.size 9 (Rep.sz Txt) v ([]:List Txt).length (cellsOf ([]:List Txt)):=by rw [show (List.mergeSort ([]:List (List UInt8)) (fun x y=>decide (x≤y)))=[] by simp] at hrow;exact hrow
 exact ⟨v,_,rfl,below_rest hbel r,own_row h2 hbel s,own_one hrow,rfl⟩
set_option maxRecDepth 20000 attribute [local irreducible] Ex ExL Fn thn inb rnd fin meet Tab Mix mxEnd Val Sats RdT Rd RowT Row Blk Sub Fac ResV RVal Evs subs subs3 Hid Capd
section
theorem keys_F (mb:Option Nat) (M:List Assn):Fn Tryz.prog 169 #[.map mb] M fun r L'=>∃ g,r=.func (.func 228) #[] #[.pointer (some ⟨g,0,none⟩)]∧L'=Blk g 253 [.map mb]::M:=by
 refine Fn.of_ex Tryz.func169 rfl Tryz.ntmps169 rfl ?_
 exact re9
end
end
section
open Go.Maps Go.Sort Go.Shelf in
theorem sort_F (v:Value) (ks:List (List UInt8)) (M:List Assn) (hl:ks.length≤1000000) :
  Fn Tryz.prog 227 #[v] (RowT v 9 (ks.map Txt.mk)::M) fun r L'=>L'=RowT v 9 ((sortK ks).map Txt.mk)::M:=fun F w0 w r s=>by
 obtain ⟨h,a,d,s1⟩:=s
 obtain ⟨hcl,hrow⟩:=id a
 have hkl:(ks.map Txt.mk).length=ks.length:=List.length_map ..
 rcases hrow with ⟨h0,⟨b,rfl⟩,rfl⟩ | ⟨g,cap,cur,rfl,rfl,h1,h2,h3,h4⟩
 ·have e0:ks=[]:=List.eq_nil_of_length_eq_zero (by rw [← hkl];exact h0)
  subst e0
  refine (AnyM.slices_Sort_string_none sort227 b 0 w).mono ?_
  rintro e w' ⟨rfl,rfl⟩
  exact ⟨_,RowT (.slice b 0 0) 9 ((sortK []).map Txt.mk)::M,rfl,r,⟨_,a,d,s1⟩,rfl⟩
 ·rw [hkl] at h1
  have hz:Rep.sz Txt=1:=rfl
  rw [hkl,hz,Nat.mul_one] at h4
  have hh:w.heap[g]?=some (.cells cur 9 (0,0)):=Sats.frame_left s1 g _ (Frag.one_self g _)
  have hgl:g<w.heap.size:=(Array.getElem?_eq_some_iff.1 hh).1
  have hH:=holds_of_block (ss:=ks) hh (by rw [h4,cells_txt])
  rw [hkl]
  refine (AnyM.slices_Sort_string sort227 g 0 cap ks w hH hgl rM).mono ?_
  rintro e w' ⟨rfl,n,os,rfl⟩
  have hg:=grownBy_sorted (w:=w) (g:=g) (n:=n) (os:=os) (ks.mergeSort fun x y=>decide (x≤y)).toArray
  have hsl:(ks.mergeSort fun x y=>decide (x≤y)).length=ks.length:=by simp
  have hs:=heap_sorted (n:=n) (os:=os) (ks.mergeSort fun x y=>decide (x≤y)).toArray hh
  have hsk:=sortK_eq (List.Perm.refl ks)
  refine ⟨_,RowT (.slice (some ⟨g,0,none⟩) ks.length cap) 9 ((sortK ks).map Txt.mk)::M,rfl,Rest.trans r ⟨hg.os,hg.tape,hg.output⟩,⟨Frag.one g (.cells (putCells encStr 0 (ks.mergeSort fun x y=>decide (x≤y)).toArray cur) 9 (0,0)),⟨?_,.inr ⟨g,cap,_,?_,rfl,?_,h2,by simp [putCells,h3],?_⟩⟩,?_,?_⟩,rfl⟩
  ·rw [cellsOf_len]
  ·rw [List.length_map,(sortK_perm ks).length_eq]
  ·rw [List.length_map,(sortK_perm ks).length_eq];exact h1
  ·rw [List.length_map,(sortK_perm ks).length_eq,hz,Nat.mul_one,cells_txt,← hsk,← hsl]
   exact take_putCells cur _ (by rw [h3,hz];omega)
  ·intro m
   rcases d m with x | x
   ·left
    unfold Frag.one at x ⊢
    split at x
    ·cases x
    ·rename_i hne;rw [if_neg hne]
   ·exact .inr x
  ·refine Sats.swap (w:=w) (h:=Frag.one g (.cells cur 9 (0,0))) (fun m x=>?_) (fun m o x hm=>?_) (fun m o x=>?_) d s1
   ·unfold Frag.one at x ⊢
    split at x
    ·cases x
    ·rename_i hne;rw [if_neg hne]
   ·have hne:m≠g:=fun e=>by rw [e,Frag.one_self] at x;cases x
    rw [hg.block m (Array.getElem?_eq_some_iff.1 hm).1 (fun e=>hne (by cases e;rfl))]
    exact hm
   ·unfold Frag.one at x
    split at x
    ·rename_i e;cases x;rw [e];exact hs
    ·cases x
end
section
section
variable {P:Program} {n:Nat} {ops:Array Oper} {Q:Post} {f:Nat→Value} {L:List Assn} {d:Nat} {ty:TypeId} {pos:String} {af:Array Edge} {gd:Option (Nat×Bool)} {v:Value} {q:Nat}
end
section
variable {P:Program} {n:Nat} {ops:Array Oper} {Q:Post} {f:Nat→Value} {L:List Assn} {rest:List Oper} {ty:TypeId} {pos:String} {af:Array Edge} {α:Type} [Rep α] {xs:List α}
theorem st_storeR1 (r:Nat) {t e:TypeId} {x y:Operand} {v u:Value} {i o sz:Nat} {a:α} {L':List Assn} (hx:evalF f x=elt v (i * sz+o)) (hy:evalF f y=u) (h1:u.oneCell'=true) (hi:L[r]?=some (RowT v e xs)) (hm:P.cellsOf t=1) (hsz:Rep.sz α=sz) (hj:i<xs.length) (ho:o<sz)
  (ha:Rep.cells a=(Rep.cells (xs[i]'hj)).set o u) (hL:L.set r (RowT v e (xs.set i a))=L') (h:ExL P n ops rest Q f L'):ExL P n ops (⟨none,.store t x y,ty,pos,af,none⟩::rest) Q f L:=by
 subst hsz;subst hL;subst hy
 refine ExL.eff rfl rfl (R:=fun _ L2=>L2=L.set r (RowT v e (xs.set i a))) (fun F w s=>?_) (fun v L2 e=>by subst e;exact h)
 have hb:(i+1) * Rep.sz α≤xs.length * Rep.sz α:=Nat.mul_le_mul_right _ rM
 rw [Nat.succ_mul] at hb
 have hcl:=cellsOf_len xs
 obtain ⟨g,w',⟨c,hv⟩,hrun,hre,hs2⟩:=row_write (P:=P) (w:=w) (o:=i * Rep.sz α+o) (us:=[evalF f y]) (xs':=xs.set i a) hi (by simp only [List.length_cons,List.length_nil];omega) (by simp) (by simp [h1]) (by
  rw [← cellsOf_set (u:=evalF f y) hj ho ha,List.set_eq_take_append_cons_drop,if_pos rM]
  simp) (by simp) s
 refine ⟨_,w',_,.inr ⟨?_,rfl⟩,hre,hs2,rfl⟩
 subst hv
 simp only [elt,addr_add,Nat.zero_add] at hx
 have hc1:=run_sizeOf' w hm (Nat.succ_pos 0)
 have hcs:(evalF f y).cells=#[evalF f y]:=by
  revert h1
  generalize evalF f y=u
  intro h1
  cases u <;> simp_all [Value.oneCell',Value.cells]
 simp [execOp,hx,Instr.storeAt,Instr.sureAddr,storeVar,hcs,hc1,hrun]
end
end
section
def cmpK:List (List UInt8)→List (List UInt8)
 | []=>[]
 | [x]=>[x]
 | x::y::l=>if x=y then cmpK (y::l) else x::cmpK (y::l)
theorem cmpK_snoc (x y:List UInt8):∀ l:List (List UInt8),cmpK (l++[x,y])=if x=y then cmpK (l++[x]) else cmpK (l++[x])++[y]
 | []=>by
  show (if x=y then cmpK [y] else x::cmpK [y])=_
  split
  ·rename_i h;subst h;rfl
  ·rfl
 | [a]=>by
  have h0:=cmpK_snoc x y []
  show (if a=x then cmpK ([]++[x,y]) else a::cmpK ([]++[x,y]))=if x=y then (if a=x then cmpK ([]++[x]) else a::cmpK ([]++[x])) else (if a=x then cmpK ([]++[x]) else a::cmpK ([]++[x]))++[y]
  rw [h0]
  split <;> split <;> rfl
 | a::b::l=>by
  have h0:=cmpK_snoc x y (b::l)
  show (if a=b then cmpK (b::l++[x,y]) else a::cmpK (b::l++[x,y]))=if x=y then (if a=b then cmpK (b::l++[x]) else a::cmpK (b::l++[x])) else (if a=b then cmpK (b::l++[x]) else a::cmpK (b::l++[x]))++[y]
  rw [h0]
  split <;> split <;> rfl
theorem cmpK_len:∀ l:List (List UInt8),(cmpK l).length≤l.length
 | []=>Nat.le_refl _
 | [x]=>Nat.le_refl _
 | x::y::l=>by
  have:=cmpK_len (y::l)
  unfold cmpK
  split
  ·simp only [List.length_cons] at this ⊢;omega
  ·simp only [List.length_cons] at this ⊢;omega
theorem cmpK_step (ks:List (List UInt8)) (j:Nat) (h0:0<j) (h:j<ks.length):cmpK (ks.take (j+1))=if ks[j - 1]'rM=ks[j]'h then cmpK (ks.take j) else cmpK (ks.take j)++[ks[j]'h]:=by
 obtain ⟨i,rfl⟩:∃ i,j=i+1:=⟨j - 1,by omega⟩
 rw [List.take_succ_eq_append_getElem h,List.take_succ_eq_append_getElem (show i<ks.length by omega),List.append_assoc]
 exact cmpK_snoc _ _ (ks.take i)
instance:ZRep Tryz.prog 9 Txt:=⟨⟨[]⟩,by kernel_rfl,by kernel_rfl⟩
set_option maxRecDepth 20000 attribute [local irreducible] Ex ExL Fn thn inb rnd fin meet Tab Mix mxEnd Val Sats RdT Rd RowT Row Blk Sub Fac ResV RVal Evs subs subs3 Hid Capd
section
theorem compact_F (v:Value) (ks:List (List UInt8)) (M:List Assn) (o:v.oneCell'=true) (hl:ks.length≤1000000) :
  Fn Tryz.prog 231 #[v] (RowT v 9 (ks.map Txt.mk)::M) fun r L'=>r.oneCell'=true∧L'=RowT r 9 ((cmpK ks).map Txt.mk)::M:=by
 have hkl:(ks.map Txt.mk).length=ks.length:=List.length_map ..
 refine Fn.of_ex Tryz.func231 rfl Tryz.ntmps231 rfl ?_
 by_cases h2:ks.length<2
 ·have hc:cmpK ks=ks:=by
   rcases ks with _ | ⟨a,_ | ⟨b,l⟩⟩
   ·rfl
   ·rfl
   ·simp only [List.length_cons] at h2;omega
  rw [hc]
  (refine rn ?_;(repeat (first | intro (v:Value) | intro (o:O1 _) | intro h)))
  (refine fr ?_)
  exact ⟨_,rB,o,rfl⟩
 obtain ⟨xs0,hxs0⟩:∃ xs0:List Txt,xs0=ks.map Txt.mk:=⟨_,rfl⟩
 rw [← hxs0] at hkl ⊢
 have hget:∀ (i:Nat) (h:i<xs0.length),(xs0[i]'h).l=ks[i]'rM:=fun i h=>by subst hxs0;simp
 (refine rn ?_;(repeat (first | intro (v:Value) | intro (o:O1 _) | intro h)))
 refine Ex.loop [3] (fun m vs L'=>∃ k:Nat,1≤k∧k≤ks.length∧m=ks.length - k∧cmpK (ks.take k)=ks.take k∧vs=[.int .i64 k]∧L'=RowT v 9 xs0::M) (ks.length - 1) ⟨1,by omega,by omega,rfl,?_,rfl,rfl⟩ ?_
 ·rcases ks with _ | ⟨a,l⟩
  ·simp at h2
  ·rfl
 rintro m vs g0 L1 ⟨k,hk1,hk,rfl,hck,rfl,rfl⟩
 refine Ex.keep [0,3] rG (fun gk=>?_)
 by_cases hlt:k<ks.length
 ·have hst:=cmpK_step ks k hk1 hlt
  have g1:=hget k rM
  have g2:=hget (k - 1) rM
  have hk1':((k:Int) - 1).toNat=k - 1:=by omega
  by_cases heq:ks[k - 1]'rM=ks[k]'hlt
  ·rw [if_pos heq] at hst
   have hd:∀ (h1:k<xs0.length) (h2:((k:Int) - 1).toNat<xs0.length),decide ((xs0[k]'h1).l=(xs0[((k:Int) - 1).toNat]'h2).l)=true:=fun h1 h2=>decide_eq_true (by
    simp only [hk1',g1,g2];exact heq.symm)
   (refine rn ?_;(repeat (first | intro (v:Value) | intro (o:O1 _) | intro h)))
   (refine mu10 ?_;(repeat (first | intro (v:Value) | intro (o:O1 _) | intro h)))
   rw [hd]
   (refine rn ?_;(repeat (first | intro (v:Value) | intro (o:O1 _) | intro h)))
   refine Ex.loop [3,5] (fun m vs L'=>∃ (i j:Nat) (xs:List Txt),1≤i∧i<j∧k<j∧j≤ks.length∧m=ks.length - j∧xs.length=ks.length∧(cmpK (ks.take j)).map Txt.mk=xs.take i∧(cmpK (ks.take j)).length=i∧xs.drop (j - 1)=xs0.drop (j - 1)∧vs=[.int .i64 i,.int .i64 ((j:Int) - k)]∧L'=RowT v 9 xs::M) (ks.length - (k+1)) ⟨k,k+1,xs0,hk1,by omega,by omega,hlt,rfl,hkl,?_,?_,rfl,lcons rfl (lcons (vint rM) rfl),rfl⟩ ?_
   ·rw [hst,hck,hxs0,List.map_take]
   ·rw [hst,hck,List.length_take];omega
   rintro m vs g1 L1 ⟨i,j,xs,hi1,hij,hkj,hj,rfl,hxl,hcm,hcl,hdr,rfl,rfl⟩
   refine Ex.keep [0,3,4,5] rG (fun gk=>?_)
   have hdl:(xs.drop k).length=ks.length - k:=by rw [List.length_drop,hxl]
   have hs2:RdT (RowT v 9 xs::M) (subs v (k:Int).toNat xs0.length 1) (xs.drop k):=by
    rw [hkl,← hxl]
    exact RdT.off (RdT.row (xs:=xs) 0 rfl) rM rfl rJ
   obtain ⟨s2,hs2e⟩:∃ s2,s2=subs v (k:Int).toNat xs0.length 1:=⟨_,rfl⟩
   rw [← hs2e] at hs2 ⊢
   have hi2:((j:Int) - k).toNat=j - k:=by omega
   have hi3:((j:Int) - k - 1).toNat=j - k - 1:=by omega
   by_cases hjl:j<ks.length
   ·have hst2:=cmpK_step ks j rM hjl
    have e1:∀ (h:j<xs.length),(xs[j]'h).l=ks[j]'hjl:=fun h=>by
     rw [← hget j rM]
     have:=congrArg (fun l=>l[1]?) hdr
     simp only [List.getElem?_drop,show j - 1+1=j by omega] at this
     rw [List.getElem?_eq_getElem h,List.getElem?_eq_getElem rM,Option.some.injEq] at this
     rw [this]
    have e2:∀ (h:j - 1<xs.length),(xs[j - 1]'h).l=ks[j - 1]'rM:=fun h=>by
     rw [← hget (j - 1) rM]
     have:=congrArg (fun l=>l[0]?) hdr
     simp only [List.getElem?_drop,Nat.add_zero] at this
     rw [List.getElem?_eq_getElem h,List.getElem?_eq_getElem rM,Option.some.injEq] at this
     rw [this]
    have d1:∀ (h:((j:Int) - k).toNat<(xs.drop k).length),(xs.drop k)[((j:Int) - k).toNat]'h=xs[j]'rM:=fun h=>by
     rw [List.getElem_drop];congr 1;omega
    have d2:∀ (h:((j:Int) - k - 1).toNat<(xs.drop k).length),(xs.drop k)[((j:Int) - k - 1).toNat]'h=xs[j - 1]'rM:=fun h=>by
     rw [List.getElem_drop];congr 1;omega
    have hdr2:xs.drop j=xs0.drop j:=by
     have:=congrArg (List.drop 1) hdr
     rwa [List.drop_drop,List.drop_drop,show j - 1+1=j by omega] at this
    by_cases hq:ks[j - 1]'rM=ks[j]'hjl
    ·rw [if_pos hq] at hst2
     have hd2:∀ (h1:((j:Int) - k).toNat<(xs.drop k).length) (h2:((j:Int) - k - 1).toNat<(xs.drop k).length),decide (((xs.drop k)[((j:Int) - k).toNat]'h1).l≠((xs.drop k)[((j:Int) - k - 1).toNat]'h2).l)=false:=fun h1 h2=>decide_eq_false (by
      rw [d1 h1,d2 h2,e1,e2];exact fun h=>h hq.symm)
     (refine rn ?_;(repeat (first | intro (v:Value) | intro (o:O1 _) | intro h)))
     (refine mu10 ?_;(repeat (first | intro (v:Value) | intro (o:O1 _) | intro h)))
     rw [hd2]
     (refine rn ?_;(repeat (first | intro (v:Value) | intro (o:O1 _) | intro h)))
     exact rnd_n ⟨ks.length - (j+1),_,by omega,rB,i,j+1,xs,hi1,by omega,by omega,by omega,rfl,hxl,by rw [hst2,hcm],by rw [hst2,hcl],hdr2,lcons rfl (lcons (vint rM) rfl),rfl⟩
    ·rw [if_neg hq] at hst2
     have hd2:∀ (h1:((j:Int) - k).toNat<(xs.drop k).length) (h2:((j:Int) - k - 1).toNat<(xs.drop k).length),decide (((xs.drop k)[((j:Int) - k).toNat]'h1).l≠((xs.drop k)[((j:Int) - k - 1).toNat]'h2).l)=true:=fun h1 h2=>decide_eq_true (by
      rw [d1 h1,d2 h2,e1,e2];exact fun h=>hq h.symm)
     (refine rn ?_;(repeat (first | intro (v:Value) | intro (o:O1 _) | intro h)))
     (refine mu10 ?_;(repeat (first | intro (v:Value) | intro (o:O1 _) | intro h)))
     rw [hd2]
     (refine rn ?_;(repeat (first | intro (v:Value) | intro (o:O1 _) | intro h)))
     have hjx:((j:Int) - k).toNat<(xs.drop k).length:=by omega
     have hv:((xs.drop k)[((j:Int) - k).toNat]'hjx).l=ks[j]'hjl:=by rw [d1 hjx,e1]
     simp only [hv]
     refine st_storeR1 0 (i:=i) (o:=0) (sz:=1) (a:=(⟨ks[j]'hjl⟩:Txt)) rJ rJ rJ rJ rJ rJ rM rM rJ rfl ?_
     (refine rn ?_;(repeat (first | intro (v:Value) | intro (o:O1 _) | intro h)))
     refine rnd_n ⟨ks.length - (j+1),_,by omega,rB,i+1,j+1,xs.set i ⟨ks[j]'hjl⟩,by omega,by omega,by omega,by omega,rfl,by rw [List.length_set];exact hxl,?_,by rw [hst2,List.length_append,hcl];rfl,?_,lcons (vint rM) (lcons (vint rM) rfl),rfl⟩
     ·rw [hst2,List.map_append,hcm,List.take_succ_eq_append_getElem (by rw [List.length_set];omega),List.take_set_of_le (Nat.le_refl _),List.getElem_set_self]
      rfl
     ·rw [show j+1 - 1=j by omega,List.drop_set_of_lt hij]
      exact hdr2
   ·obtain rfl:j=ks.length:=by omega
    rw [List.take_length] at hcm hcl
    (refine rn ?_;(repeat (first | intro (v:Value) | intro (o:O1 _) | intro h)))
    (refine fr ?_)
    refine ⟨_,?_,subs_one o,rfl⟩
    rw [Int.toNat_natCast,hcm]
    have h3:=Sub.rowTo (α:=Txt) (L:=RowT v 9 (xs.take i++List.replicate (xs.length - i) (ZRep.z 9))::M) 0 rfl (h:=i) (by simp;omega) (sz:=1) rfl
    have hti:(xs.take i).length=i:=by rw [List.length_take];omega
    have htk:(xs.take i++List.replicate (xs.length - i) (ZRep.z 9)).take i=xs.take i:=by
     rw [List.take_append_of_le_length rM,List.take_of_length_le rM]
    rw [htk] at h3
    exact h3
  ·rw [if_neg heq,hck,← List.take_succ_eq_append_getElem hlt] at hst
   have hd:∀ (h1:k<xs0.length) (h2:((k:Int) - 1).toNat<xs0.length),decide ((xs0[k]'h1).l=(xs0[((k:Int) - 1).toNat]'h2).l)=false:=fun h1 h2=>decide_eq_false (by
    simp only [hk1',g1,g2];exact fun e=>heq e.symm)
   (refine rn ?_;(repeat (first | intro (o:O1 _) | intro h)))
   (refine mu10 ?_;(repeat (first | intro (o:O1 _) | intro h)))
   rw [hd]
   (refine rn ?_;(repeat (first | intro (o:O1 _) | intro h)))
   exact rnd_n ⟨ks.length - (k+1),_,by omega,rB,k+1,by omega,hlt,rfl,hst,lcons (vint rM) rfl,rfl⟩
 ·obtain rfl:k=ks.length:=by omega
  rw [List.take_length] at hck
  rw [hck,← hxs0]
  (refine rn ?_;(repeat (first | intro (o:O1 _) | intro h)))
  (refine fr ?_)
  exact ⟨_,rB,o,rfl⟩
end
section
theorem sless_F (h1 r1 h2 r2:Int) (M:List Assn):Fn Tryz.prog 311 #[.agg #[.int .i64 h1,.int .i64 r1],.agg #[.int .i64 h2,.int .i64 r2]] M fun v L'=>v=.bool (decide (h1<h2∨(h1=h2∧r1<r2)))∧L'=M:=by
 refine Fn.of_ex Tryz.func311 rfl Tryz.ntmps311 rfl ?_
 by_cases e:h1=h2
 ·by_cases hr:r1<r2
  ·rw [decide_eq_true (.inr ⟨e,hr⟩:h1<h2∨(h1=h2∧r1<r2))]
   exact re0
  ·rw [decide_eq_false (by omega:¬ (h1<h2∨(h1=h2∧r1<r2)))]
   exact re0
 ·by_cases hh:h1<h2
  ·rw [decide_eq_true (.inl hh:h1<h2∨(h1=h2∧r1<r2))]
   exact re0
  ·rw [decide_eq_false (by omega:¬ (h1<h2∨(h1=h2∧r1<r2)))]
   exact re0
end
end
section
def sKey (a b:Ev):Bool:=decide (a.ed.key=b.ed.key)
def sField (a b:Ev):Bool:=sKey a b && decide (a.ed.label=b.ed.label)
def sElem (a b:Ev):Bool:=sField a b && decide (a.ed.value=b.ed.value)
def bkAbove (k:Int) (s:Ev→Ev→Bool) (l:List Ev) (e:Ev):Bool:=l.any fun a=>decide (a.ed.kind=k) && s a e && e.bel a
def bkBelow (k:Int) (s:Ev→Ev→Bool) (l:List Ev) (e:Ev):Bool:=l.any fun a=>decide (a.ed.kind=k) && s a e && a.bel e
def bkLiving (l:List Ev):List Ev:=l.filter fun e=>decide (e.ed.kind=1) && !bkAbove 2 sKey l e
def bkCnt (l cr:List Ev) (e:Ev):Bool:=if e.ed.kind=3 then bkBelow 1 sKey cr e else if e.ed.kind=4 then bkBelow 1 sKey cr e && !bkAbove 5 sElem l e else false
def bkCounting (l cr:List Ev):List Ev:=l.filter (bkCnt l cr)
structure Sta where
 h:Int
 r:Int
deriving DecidableEq
instance:Rep Sta:=⟨2,fun s=>[.int .i64 s.h,.int .i64 s.r],by decide,fun _=>rfl,fun _=>rfl⟩
def Sta.less (a b:Sta):Bool:=decide (a.h<b.h∨(a.h=b.h∧a.r<b.r))
def stLate (x:Sta):List Sta→Sta
 | []=>x
 | s::l=>stLate (if x.less s then s else x) l
def stLast (l:List Sta):Int:=match l with
 | []=>-1
 | x::m=>((x::m).findIdx fun s=>decide (s=stLate x (x::m)):Nat)
theorem stLate_snoc (s:Sta):∀ (l:List Sta) (x:Sta),stLate x (l++[s])=if (stLate x l).less s then s else stLate x l
 | [],x=>rfl
 | a::l,x=>stLate_snoc s l _
theorem stLate_mem:∀ (l:List Sta) (x:Sta),stLate x l=x∨stLate x l∈l
 | [],x=>.inl rfl
 | a::l,x=>by
  show stLate (if x.less a then a else x) l=x∨_
  rcases stLate_mem l (if x.less a then a else x) with h | h
  ·by_cases hx:x.less a=true
   ·rw [if_pos hx] at h ⊢
    exact .inr (by show stLate (if x.less a then a else x) l∈_;rw [if_pos hx,h];exact List.mem_cons_self ..)
   ·rw [if_neg hx] at h ⊢
    exact .inl h
  ·exact .inr (List.mem_cons_of_mem _ h)
theorem stLast_lt {l:List Sta} (h:l≠[]):0≤stLast l∧(stLast l).toNat<l.length:=by
 rcases l with _ | ⟨x,m⟩
 ·exact absurd rfl h
 ·have hm:stLate x (x::m)∈x::m:=by
   rcases stLate_mem (x::m) x with h | h
   ·rw [h];exact List.mem_cons_self ..
   ·exact h
  have:(x::m).findIdx (fun s=>decide (s=stLate x (x::m)))<(x::m).length:=List.findIdx_lt_length_of_exists ⟨_,hm,by simp⟩
  refine ⟨?_,?_⟩
  ·show (0:Int)≤((x::m).findIdx _:Nat);omega
  ·show (((x::m).findIdx _:Nat):Int).toNat<_;omega
def ctSets (key:List UInt8) (label:Int) (ws:List Ev):List Ev:=ws.filter fun e=>decide (e.ed.key=key) && decide (e.ed.label=label) && decide (e.ed.kind=3)
def ctAdds (key:List UInt8) (label:Int) (ws:List Ev):List Ev:=ws.filter fun e=>decide (e.ed.key=key) && decide (e.ed.label=label) && !decide (e.ed.kind=3)
def ctStamps (key:List UInt8) (label:Int) (ws:List Ev):List Sta:=(ctSets key label ws).map fun e=>⟨e.h,e.r⟩
def ctVals (key:List UInt8) (label:Int) (ws:List Ev):List (List UInt8):=(ctSets key label ws).map fun e=>e.ed.value
def ctHas (key:List UInt8) (label:Int) (ws:List Ev):Bool:=!(ctSets key label ws).isEmpty
def ctField (key:List UInt8) (label:Int) (ws:List Ev):List UInt8:=(ctVals key label ws).getD (stLast (ctStamps key label ws)).toNat []
def ctSet (key:List UInt8) (label:Int) (ws:List Ev):List (List UInt8):=cmpK (sortK ((ctAdds key label ws).map fun e=>e.ed.value))
structure Con where
 key:List UInt8
 has0:Bool
 has1:Bool
 f0:List UInt8
 f1:List UInt8
 s0:List (List UInt8)
 s1:List (List UInt8)
deriving DecidableEq
def bkContact (key:List UInt8) (ws:List Ev):Con:=⟨key,ctHas key 0 ws,ctHas key 1 ws,ctField key 0 ws,ctField key 1 ws,ctSet key 0 ws,ctSet key 1 ws⟩
def bkKeys (l:List Ev):List (List UInt8):=cmpK (sortK ((bkLiving l).map fun e=>e.ed.key))
def bkOf (l:List Ev):List Con:=(bkKeys l).map fun k=>bkContact k (bkCounting l (bkLiving l))
def lvGet (k:List UInt8):List (List UInt8×List Ev)→List Ev
 | []=>[]
 | p::m=>if k=p.1 then p.2 else lvGet k m
def lvList (m:List (List UInt8×List Ev)):List Con:=(sortK (m.map (·.1))).flatMap fun k=>bkOf (lvGet k m)
end
section
theorem PredF.two {fn:FuncId} {us:List Value} {q:Ev→Bool} {A B:Assn} (h:∀ (a:Ev) (M:List Assn),Fn Tryz.prog fn (([]:List Value)++[Value.agg (Rep.cells a).toArray]++us).toArray (A::B::M) fun r L'=>r=.bool (q a)∧L'=A::B::M):PredF fn us q (Two A B):=fun a M =>
 Fn.resv (Fn.sub (h a M) (Two.opn A B M)) (fun v L' ⟨hv,hL⟩=>⟨_,hL ▸ Two.cls A B M,hv,rfl⟩)
set_option maxRecDepth 20000 attribute [local irreducible] Ex ExL Fn thn inb rnd fin meet Tab Mix mxEnd Val Sats RdT Rd RowT Row Blk Sub Fac ResV RVal Evs subs subs3 Hid Capd
section
def SameF (fn:FuncId) (s:Ev→Ev→Bool):Prop:=∀ (a b:Ev) (M:List Assn),Fn Tryz.prog fn (([]:List Value)++[Value.agg (Rep.cells a).toArray,Value.agg (Rep.cells b).toArray]++[]).toArray M fun r L'=>r=.bool (s a b)∧L'=M
theorem sKey_F:SameF 266 sKey:=fun a b M=>by
 refine Fn.of_ex Tryz.func266 rfl Tryz.ntmps266 rfl ?_
 (refine rn ?_;intros)
 (refine fr ?_)
 exact ⟨_,rB,by unfold sKey;rfl,rfl⟩
theorem sField_F (a b:Ev) (M:List Assn):Fn Tryz.prog 309 #[.agg (Rep.cells a).toArray,.agg (Rep.cells b).toArray] M fun r L'=>r=.bool (sField a b)∧L'=M:=by
 refine Fn.of_ex Tryz.func309 rfl Tryz.ntmps309 rfl ?_
 (refine rn ?_;intros)
 refine st_callIs [] rJ Tryz.call266 rJ rJ (sKey_F a b _) ?_
 rintro _ _ ⟨rfl,rfl⟩
 unfold sField
 cases h:sKey a b with
 | true =>
  exact re0
 | false =>
  exact re0
theorem sElem_F:SameF 268 sElem:=fun a b M=>by
 refine Fn.of_ex Tryz.func268 rfl Tryz.ntmps268 rfl ?_
 (refine rn ?_;intros)
 refine st_callIs [] rJ Tryz.call309 rJ rJ (sField_F a b _) ?_
 rintro _ _ ⟨rfl,rfl⟩
 unfold sElem
 cases h:sField a b with
 | true =>
  exact re0
 | false =>
  exact re0
@[reducible] def srtC (k:Int) (fn:FuncId):List Value:=[.int .i64 k,.func (.func fn) #[] #[]]
theorem above1_F (p3 p5:Nat) (k:Int) (fn:FuncId) (s:Ev→Ev→Bool) (hs:SameF fn s) (hrun:∀ (xs:Array Value) (w:World),(callFunc fn xs).run Tryz.prog w=.ok (.enter fn xs) w) (e:Ev) :
  PredF 307 [.pointer (some ⟨p3,0,none⟩),.pointer (some ⟨p5,0,none⟩)] (fun a=>decide (a.ed.kind=k) && s a e && e.bel a) (Two (Blk p3 353 (srtC k fn)) (Blk p5 80 (Rep.cells e))):=PredF.two fun a M=>by
 refine Fn.of_ex Tryz.func307 rfl Tryz.ntmps307 rfl ?_
 by_cases hk:a.ed.kind=k
 ·(refine rn ?_;intros)
  refine st_callC [] (xs:=[.tmp 13,.tmp 14]) (fs:=[]) (us:=[]) (vs:=[.agg (Rep.cells a).toArray,.agg (Rep.cells e).toArray]) rJ rJ hrun rE rJ (hs a e _) ?_
  rintro _ _ ⟨rfl,rfl⟩
  cases hse:s a e with
  | true =>
   (refine rn ?_;intros)
   refine st_callIs [] rJ Tryz.call308 rJ rJ (below_F e a _) ?_
   rintro _ _ ⟨rfl,rfl⟩
   (refine rn ?_;intros)
   (refine fr ?_)
   exact ⟨_,rB,by simp only [hk,hse,decide_true,Bool.true_and];rfl,rfl⟩
  | false =>
   (refine rn ?_;intros)
   (refine fr ?_)
   exact ⟨_,rB,by simp only [hk,hse,decide_true,Bool.true_and,Bool.false_and],rfl⟩
 ·(refine rn ?_;intros)
  (refine fr ?_)
  exact ⟨_,rB,by simp [hk],rfl⟩
theorem below1_F (p3 p5:Nat) (k:Int) (fn:FuncId) (s:Ev→Ev→Bool) (hs:SameF fn s) (hrun:∀ (xs:Array Value) (w:World),(callFunc fn xs).run Tryz.prog w=.ok (.enter fn xs) w) (e:Ev) :
  PredF 310 [.pointer (some ⟨p3,0,none⟩),.pointer (some ⟨p5,0,none⟩)] (fun a=>decide (a.ed.kind=k) && s a e && a.bel e) (Two (Blk p3 353 (srtC k fn)) (Blk p5 80 (Rep.cells e))):=PredF.two fun a M=>by
 refine Fn.of_ex Tryz.func310 rfl Tryz.ntmps310 rfl ?_
 by_cases hk:a.ed.kind=k
 ·(refine rn ?_;intros)
  refine st_callC [] (xs:=[.tmp 13,.tmp 14]) (fs:=[]) (us:=[]) (vs:=[.agg (Rep.cells a).toArray,.agg (Rep.cells e).toArray]) rJ rJ hrun rE rJ (hs a e _) ?_
  rintro _ _ ⟨rfl,rfl⟩
  cases hse:s a e with
  | true =>
   (refine rn ?_;intros)
   refine st_callIs [] rJ Tryz.call308 rJ rJ (below_F a e _) ?_
   rintro _ _ ⟨rfl,rfl⟩
   (refine rn ?_;intros)
   (refine fr ?_)
   exact ⟨_,rB,by simp only [hk,hse,decide_true,Bool.true_and];rfl,rfl⟩
  | false =>
   (refine rn ?_;intros)
   (refine fr ?_)
   exact ⟨_,rB,by simp only [hk,hse,decide_true,Bool.true_and,Bool.false_and],rfl⟩
 ·(refine rn ?_;intros)
  (refine fr ?_)
  exact ⟨_,rB,by simp [hk],rfl⟩
theorem bAbove_F (v0:Value) (l:List Ev) (e:Ev) (k:Int) (fn:FuncId) (s:Ev→Ev→Bool) (M:List Assn) (hs:SameF fn s) (hrun:∀ (xs:Array Value) (w:World),(callFunc fn xs).run Tryz.prog w=.ok (.enter fn xs) w) (hr:RdT M v0 l) (hl:l.length≤1000000000) :
  Fn Tryz.prog 267 #[.agg (srtC k fn).toArray,v0,.agg (Rep.cells e).toArray] M fun r L'=>r=.bool (bkAbove k s l e)∧L'=M:=by
 refine Fn.of_ex Tryz.func267 rfl Tryz.ntmps267 rfl ?_
 (refine rn ?_;(repeat (first | intro (g:Nat) | intro h)))
 rename_i g3
 refine ExL.sub (L':=Two (Blk g3 353 (srtC k fn)) (Blk g 80 (Rep.cells e))::M) ?_ (Sub.trans (Two.cls _ _ M) (Sub.fr [1] rE (Sub.refl _)))
 refine st_callIs [] rJ Tryz.call306 rJ rJ (contEv_F 307 [.pointer (some ⟨g3,0,none⟩),.pointer (some ⟨g,0,none⟩)] _ _ (above1_F g3 g k fn s hs hrun e) Tryz.call307 v0 l M (hr.sub rB) hl) ?_
 rintro _ _ ⟨rfl,rfl⟩
 exact re0
theorem bBelow_F (v0:Value) (l:List Ev) (e:Ev) (k:Int) (fn:FuncId) (s:Ev→Ev→Bool) (M:List Assn) (hs:SameF fn s) (hrun:∀ (xs:Array Value) (w:World),(callFunc fn xs).run Tryz.prog w=.ok (.enter fn xs) w) (hr:RdT M v0 l) (hl:l.length≤1000000000) :
  Fn Tryz.prog 269 #[.agg (srtC k fn).toArray,v0,.agg (Rep.cells e).toArray] M fun r L'=>r=.bool (bkBelow k s l e)∧L'=M:=by
 refine Fn.of_ex Tryz.func269 rfl Tryz.ntmps269 rfl ?_
 (refine rn ?_;(repeat (first | intro (g:Nat) | intro h)))
 rename_i g3
 refine ExL.sub (L':=Two (Blk g3 353 (srtC k fn)) (Blk g 80 (Rep.cells e))::M) ?_ (Sub.trans (Two.cls _ _ M) (Sub.fr [1] rE (Sub.refl _)))
 refine st_callIs [] rJ Tryz.call306 rJ rJ (contEv_F 310 [.pointer (some ⟨g3,0,none⟩),.pointer (some ⟨g,0,none⟩)] _ _ (below1_F g3 g k fn s hs hrun e) Tryz.call310 v0 l M (hr.sub rB) hl) ?_
 rintro _ _ ⟨rfl,rfl⟩
 exact re0
theorem bLiving_F (v0:Value) (l:List Ev) (M:List Assn) (hr:RdT M v0 l) (hl:l.length≤1000000) :
  Fn Tryz.prog 229 #[v0] M fun r L'=>r.oneCell'=true∧L'=Evs_ r (bkLiving l)::M:=by
 refine Fn.of_ex Tryz.func229 rfl Tryz.ntmps229 rfl ?_
 (refine rn ?_;(repeat (first | intro (g:Nat) | intro (v:Value) | intro h)))
 revert g
 intro g3
 obtain ⟨q,hq⟩:∃ q:Ev→Bool,q=fun e=>decide (e.ed.kind=1) && !bkAbove 2 sKey l e:=⟨_,rfl⟩
 rw [show bkLiving l=l.filter q by rw [hq];rfl]
 refine Ex.sub ?_ (Sub.empty (α:=Ev) none 80 _)
 refine Ex.loop [4,10] (fun z vs L'=>∃ (i:Nat) (v:Value),i≤l.length∧z=l.length - i∧v.oneCell'=true∧vs=[v,.int .i64 i]∧L'=Evs_ v ((l.take i).filter q)::Blk g3 353 (srtC 2 266)::M) l.length ⟨0,_,by omega,rfl,rfl,rfl,rfl⟩ ?_
 rintro z vs g0 L1 ⟨i,v,hi,rfl,ov,rfl,rfl⟩
 refine Ex.keep [0,3,4,8,9,10] rG (fun gk=>?_)
 by_cases hlt:i<l.length
 ·have hw:=List.length_filter_le q (l.take i)
  rw [List.length_take] at hw
  have hs:(l.take (i+1)).filter q=(l.take i).filter q++(if q (l[i]'hlt)=true then [l[i]'hlt] else []):=by
   rw [List.take_succ_eq_append_getElem hlt,List.filter_append]
   congr 1
   simp only [List.filter_cons,List.filter_nil]
  by_cases hk:(l[i]'hlt).ed.kind=1
  ·(refine rn ?_;(repeat (first | intro (v:Value) | intro h)))
   refine st_callIs [] rJ Tryz.call267 rJ rJ (bAbove_F v0 l (l[i]'hlt) 2 266 sKey _ sKey_F Tryz.call266 rD rM) ?_
   rintro _ _ ⟨rfl,rfl⟩
   have hqv:q (l[i]'hlt)=!bkAbove 2 sKey l (l[i]'hlt):=by rw [hq];simp [hk]
   cases hb:bkAbove 2 sKey l (l[i]'hlt) with
   | false =>
    rw [hb] at hqv
    rw [hqv] at hs
    simp only [Bool.not_false,if_true] at hs
    (refine rn ?_;(repeat (first | intro (v:Value) | intro h)))
    rw [← hs]
    exact rnd_n ⟨l.length - (i+1),_,by omega,rB,i+1,_,by omega,rfl,by assumption,lcons rfl (lcons (vint rM) rfl),rfl⟩
   | true =>
    rw [hb] at hqv
    rw [hqv] at hs
    simp only [Bool.not_true,Bool.false_eq_true,if_false,List.append_nil] at hs
    (refine rn ?_;(repeat (first | intro (v:Value) | intro h)))
    rw [← hs]
    exact rnd_n ⟨l.length - (i+1),_,by omega,rB,i+1,v,by omega,rfl,ov,lcons rfl (lcons (vint rM) rfl),rfl⟩
  ·have hqv:q (l[i]'hlt)=false:=by rw [hq];simp [hk]
   rw [hqv] at hs
   simp only [Bool.false_eq_true,if_false,List.append_nil] at hs
   (refine rn ?_;(repeat (first | intro (v:Value) | intro h)))
   rw [← hs]
   exact rnd_n ⟨l.length - (i+1),_,by omega,rB,i+1,v,by omega,rfl,ov,lcons rfl (lcons (vint rM) rfl),rfl⟩
 ·obtain rfl:i=l.length:=by omega
  rw [List.take_length]
  (refine rn ?_;intros)
  (refine fr ?_)
  exact ⟨_,rB,ov,rfl⟩
end
section
theorem bCounting_F (v0 vc:Value) (l cr:List Ev) (M:List Assn) (hr:RdT M v0 l) (hc:RdT M vc cr) (hl:l.length≤1000000) (hcl:cr.length≤1000000) :
  Fn Tryz.prog 230 #[v0,vc] M fun r L'=>r.oneCell'=true∧L'=Evs_ r (bkCounting l cr)::M:=by
 refine Fn.of_ex Tryz.func230 rfl Tryz.ntmps230 rfl ?_
 (refine rn ?_;(repeat (first | intro (g:Nat) | intro (v:Value) | intro (o:O1 _) | intro (cs:List Value) | intro (hcs:_=List.set _ _ _) | intro (zs:List _) | intro h)))
 rename_i g5
 revert g
 intro g6
 obtain ⟨q,hq⟩:∃ q:Ev→Bool,q=bkCnt l cr:=⟨_,rfl⟩
 rw [show bkCounting l cr=l.filter q by rw [hq];rfl]
 refine Ex.sub ?_ (Sub.empty (α:=Ev) none 80 _)
 refine Ex.loop [7,14] (fun z vs L'=>∃ (i:Nat) (v:Value),i≤l.length∧z=l.length - i∧v.oneCell'=true∧vs=[v,.int .i64 i]∧L'=Evs_ v ((l.take i).filter q)::Blk g6 353 (srtC 5 268)::Blk g5 353 (srtC 1 266)::M) l.length ⟨0,_,by omega,rfl,rfl,rfl,rfl⟩ ?_
 rintro z vs g0 L1 ⟨i,v,hi,rfl,ov,rfl,rfl⟩
 refine Ex.keep [0,1,5,6,7,12,13,14] rG (fun gk=>?_)
 by_cases hlt:i<l.length
 ·have hw:=List.length_filter_le q (l.take i)
  rw [List.length_take] at hw
  have hs:(l.take (i+1)).filter q=(l.take i).filter q++(if q (l[i]'hlt)=true then [l[i]'hlt] else []):=by
   rw [List.take_succ_eq_append_getElem hlt,List.filter_append]
   congr 1
   simp only [List.filter_cons,List.filter_nil]
  have yes:q (l[i]'hlt)=true→(l.take (i+1)).filter q=(l.take i).filter q++[l[i]'hlt]:=fun h=>by rw [hs,if_pos h]
  have no:q (l[i]'hlt)=false→(l.take (i+1)).filter q=(l.take i).filter q:=fun h=>by rw [hs,h];simp
  clear hs
  by_cases hk:(l[i]'hlt).ed.kind=3
  ·have hqv:q (l[i]'hlt)=bkBelow 1 sKey cr (l[i]'hlt):=by rw [hq];unfold bkCnt;rw [if_pos hk]
   (refine rn ?_;(repeat (first | intro (v:Value) | intro h)))
   refine st_callIs [] rJ Tryz.call269 rJ rJ (bBelow_F vc cr (l[i]'hlt) 1 266 sKey _ sKey_F Tryz.call266 rD rM) ?_
   rintro _ _ ⟨rfl,rfl⟩
   cases hb:bkBelow 1 sKey cr (l[i]'hlt) with
   | true =>
    (refine rn ?_;(repeat (first | intro (v:Value) | intro h)))
    rw [← yes (hqv.trans hb)]
    exact rnd_n ⟨l.length - (i+1),_,by omega,rB,i+1,_,by omega,rfl,by assumption,lcons rfl (lcons (vint rM) rfl),rfl⟩
   | false =>
    (refine rn ?_;(repeat (first | intro (v:Value) | intro h)))
    rw [← no (hqv.trans hb)]
    exact rnd_n ⟨l.length - (i+1),_,by omega,rB,i+1,v,by omega,rfl,ov,lcons rfl (lcons (vint rM) rfl),rfl⟩
  by_cases hk4:(l[i]'hlt).ed.kind=4
  ·have hqv:q (l[i]'hlt)=(bkBelow 1 sKey cr (l[i]'hlt) && !bkAbove 5 sElem l (l[i]'hlt)):=by rw [hq];unfold bkCnt;rw [if_neg hk,if_pos hk4]
   (refine rn ?_;(repeat (first | intro (v:Value) | intro h)))
   refine st_callIs [] rJ Tryz.call269 rJ rJ (bBelow_F vc cr (l[i]'hlt) 1 266 sKey _ sKey_F Tryz.call266 rD rM) ?_
   rintro _ _ ⟨rfl,rfl⟩
   cases hb:bkBelow 1 sKey cr (l[i]'hlt) with
   | true =>
    (refine rn ?_;(repeat (first | intro (v:Value) | intro h)))
    refine st_callIs [] rJ Tryz.call267 rJ rJ (bAbove_F v0 l (l[i]'hlt) 5 268 sElem _ sElem_F Tryz.call268 rD rM) ?_
    rintro _ _ ⟨rfl,rfl⟩
    rw [hb] at hqv
    cases ha:bkAbove 5 sElem l (l[i]'hlt) with
    | false =>
     rw [ha] at hqv
     (refine rn ?_;(repeat (first | intro (v:Value) | intro h)))
     rw [← yes hqv]
     exact rnd_n ⟨l.length - (i+1),_,by omega,rB,i+1,_,by omega,rfl,by assumption,lcons rfl (lcons (vint rM) rfl),rfl⟩
    | true =>
     rw [ha] at hqv
     (refine rn ?_;(repeat (first | intro (v:Value) | intro h)))
     rw [← no hqv]
     exact rnd_n ⟨l.length - (i+1),_,by omega,rB,i+1,v,by omega,rfl,ov,lcons rfl (lcons (vint rM) rfl),rfl⟩
   | false =>
    rw [hb] at hqv
    (refine rn ?_;(repeat (first | intro (v:Value) | intro h)))
    rw [← no hqv]
    exact rnd_n ⟨l.length - (i+1),_,by omega,rB,i+1,v,by omega,rfl,ov,lcons rfl (lcons (vint rM) rfl),rfl⟩
  ·have hqv:q (l[i]'hlt)=false:=by rw [hq];unfold bkCnt;rw [if_neg hk,if_neg hk4]
   (refine rn ?_;(repeat (first | intro (v:Value) | intro h)))
   rw [← no hqv]
   exact rnd_n ⟨l.length - (i+1),_,by omega,rB,i+1,v,by omega,rfl,ov,lcons rfl (lcons (vint rM) rfl),rfl⟩
 ·obtain rfl:i=l.length:=by omega
  rw [List.take_length]
  (refine rn ?_;intros)
  (refine fr ?_)
  exact ⟨_,rB,ov,rfl⟩
end
section
set_option maxRecDepth 20000 in
instance:EqT Tryz.prog 228 Sta:=⟨6,[.i .i64,.i .i64],by kernel_rfl,by kernel_rfl,by kernel_rfl,by kernel_rfl,fun _=>rfl,fun a b h=>by
 obtain ⟨a1,a2⟩:=a
 obtain ⟨b1,b2⟩:=b
 simp only [Rep.cells,List.cons.injEq,Value.int.injEq,true_and,and_true] at h
 simp [h]⟩
instance:ZRep Tryz.prog 228 Sta:=⟨⟨0,0⟩,by kernel_rfl,by kernel_rfl⟩
theorem stLast_F (v0:Value) (l:List Sta) (M:List Assn) (hr:RdT M v0 l) (hl:l.length≤1000000) :
  Fn Tryz.prog 270 #[v0] M fun r L'=>r=.int .i64 (stLast l)∧L'=M:=by
 refine Fn.of_ex Tryz.func270 rfl Tryz.ntmps270 rfl ?_
 rcases l with _ | ⟨x,m⟩
 ·(refine rn ?_;(repeat (first | intro (g:Nat) | intro h)))
  (refine fr ?_)
  exact ⟨_,rB,rfl,rfl⟩
 obtain ⟨l,hle⟩:∃ l,l=x::m:=⟨_,rfl⟩
 have h0:0<l.length:=by rw [hle];simp
 have hx0:l[0]'h0=x:=by subst hle;rfl
 have hL:stLast (x::m)=(l.findIdx fun s=>decide (s=stLate x l):Nat):=by rw [hle];rfl
 rw [hL]
 rw [← hle] at hr hl
 clear hL
 (refine rn ?_;(repeat (first | intro (g:Nat) | intro h)))
 revert g
 intro g3
 rw [hx0]
 refine Ex.loop [16] (fun z vs L'=>∃ i:Nat,i≤l.length∧z=l.length - i∧vs=[.int .i64 i]∧L'=Blk g3 228 (Rep.cells (stLate x (l.take i)))::M) l.length ⟨0,by omega,rfl,rfl,rfl⟩ ?_
 rintro z vs g0 L1 ⟨i,hi,rfl,rfl,rfl⟩
 refine Ex.keep [0,3,14,15,16] rG (fun gk=>?_)
 by_cases hlt:i<l.length
 ·have hs:stLate x (l.take (i+1))=if (stLate x (l.take i)).less (l[i]'hlt) then l[i]'hlt else stLate x (l.take i):=by
   rw [List.take_succ_eq_append_getElem hlt,stLate_snoc]
  (refine rn ?_;intros)
  refine st_callIs [] rJ Tryz.call311 rJ rJ (sless_F (stLate x (l.take i)).h (stLate x (l.take i)).r (l[i]'hlt).h (l[i]'hlt).r _) ?_
  rintro _ _ ⟨rfl,rfl⟩
  rw [show decide ((stLate x (l.take i)).h<(l[i]'hlt).h∨((stLate x (l.take i)).h=(l[i]'hlt).h∧(stLate x (l.take i)).r<(l[i]'hlt).r))=(stLate x (l.take i)).less (l[i]'hlt) from rfl]
  cases hb:(stLate x (l.take i)).less (l[i]'hlt) with
  | true =>
   rw [hb,if_pos rfl] at hs
   (refine rn ?_;intros)
   rw [← hs]
   exact rnd_n ⟨l.length - (i+1),_,by omega,rB,i+1,by omega,rfl,lcons (vint rM) rfl,rfl⟩
  | false =>
   rw [hb,if_neg (by simp)] at hs
   (refine rn ?_;intros)
   rw [← hs]
   exact rnd_n ⟨l.length - (i+1),_,by omega,rB,i+1,by omega,rfl,lcons (vint rM) rfl,rfl⟩
 ·obtain rfl:i=l.length:=by omega
  rw [List.take_length]
  obtain ⟨y,hy⟩:∃ y,y=stLate x l:=⟨_,rfl⟩
  rw [← hy]
  have hym:∃ s∈l,decide (s=y)=true:=by
   rcases stLate_mem l x with h | h
   ·exact ⟨x,by rw [← hx0];exact List.getElem_mem _,by rw [hy,h];simp⟩
   ·exact ⟨_,h,by rw [hy];simp⟩
  (refine rn ?_;intros)
  refine Ex.loop [27] (fun z vs L'=>∃ i:Nat,i≤l.length∧z=l.length - i∧(∀ j (hj:j<l.length),j<i→¬ (l[j]'hj)=y)∧vs=[.int .i64 i]∧L'=Blk g3 228 (Rep.cells y)::M) l.length ⟨0,by omega,rfl,fun j _ h=>by omega,rfl,rfl⟩ ?_
  rintro z vs g0 L1 ⟨i,hi,rfl,hno,rfl,rfl⟩
  refine Ex.keep [3,25,26,27] rG (fun gk=>?_)
  by_cases hlt:i<l.length
  ·by_cases he:l[i]'hlt=y
   ·(refine rn ?_;intros)
    (refine fr ?_)
    refine ⟨_,rB,?_,rfl⟩
    rw [(List.findIdx_eq hlt).2 ⟨by simp [he],fun j hj=>by simp [hno j rM hj]⟩]
   ·(refine rn ?_;intros)
    exact rnd_n ⟨l.length - (i+1),_,by omega,rB,i+1,by omega,rfl,fun j hj hji=>by
     rcases Nat.lt_or_ge j i with h | h
     ·exact hno j hj h
     ·have:j=i:=by omega
      subst this;exact he,lcons (vint rM) rfl,rfl⟩
  ·exfalso
   obtain ⟨s,hs,hsy⟩:=hym
   obtain ⟨j,hj,rfl⟩:=List.getElem_of_mem hs
   exact hno j hj rM (by simpa using hsy)
end
end
end Go.Proofs.YtogcfijlhpaeeaaGreat
