/- Texts, one behind the other. No condition. -/
import Derived.Test.YtogcfijlhpaeeaaGreatZajmfbmbb
import Derived.Test.YtogcfijlhpaeeaaGreatZdjglmago
import Derived.Test.YtogcfijlhpaeeaaGreatZehjcikgl
import Derived.Test.YtogcfijlhpaeeaaGreatZhdajnbma
import Derived.Test.YtogcfijlhpaeeaaGreatZidbabpgd
open Go.RowKit
set_option linter.unusedSimpArgs false
set_option linter.unusedVariables false
set_option linter.unusedSectionVars false
set_option maxHeartbeats 32000000
namespace Go.Proofs.YtogcfijlhpaeeaaGreat
section
structure Mv where
 f:FuncId
 g:Nat
instance:Inhabited Mv:=⟨⟨0,0⟩⟩
instance:Rep Mv:=⟨1,fun m=>[.func (.func m.f) #[.pointer (some ⟨m.g,0,none⟩)] #[]],by decide,fun _=>rfl,fun _=>rfl⟩
theorem roundK_len (w:WSt) (c:Cfg):∀ i,(w.roundK c i).nodes.length=w.nodes.length:=by
 have h1:∀ (w:WSt) p,(w.once c p).nodes.length=w.nodes.length:=fun w p=>by
  unfold WSt.once
  split
  ·rfl
  ·simp only
   split
   ·exact List.length_set ..
   ·rfl
 intro i
 induction i with
 | zero=>rfl
 | succ i ih=>show (WSt.once _ c _).nodes.length=_;rw [h1,ih]
theorem wd_backO {gw gh gl:Nat} {vs:Value} {gs:List Ptr} {c:Cfg} {w:WSt} {r:Int} (hr:w.has r) (M:List Assn):Sub (wdO gw gh gl vs gs c w M) (NodeA (gs.getD r.toNat ⟨0⟩).g c r (w.node r)::wdR gw gh gl vs gs c w r M) :=
 Sub.trans (B:=Star (nodesA c gs w.nodes)::WdB gw gh gl vs::Nds vs gs::HubA gh c w.hub::LkA gl w.keys::M) rP (Sub.trans (nodes_back hr _) rP)
def mvs (gn:Nat):List Mv:=[⟨42,gn⟩,⟨43,gn⟩,⟨44,gn⟩]
set_option maxRecDepth 20000 attribute [local irreducible] Ex ExL Fn thn inb rnd fin meet Tab Mix mxEnd Val Sats RdT Rd RowT Row Blk Sub Fac ResV RVal Evs subs subs3 Hid Capd
section
attribute [local irreducible] Star NodeA HubA LkA nodesA Pt midY ExY ExI
theorem wround_F {kk:Nat} (gw gh gl gb:Nat) (vs:Value) (gs:List Ptr) (c:Cfg) (w:WSt) (Y:Assn) (M:List Assn) (l D0:Nat) (fn:FuncId) (tm:Array Value) (p nb:Nat) (A B:Code) (fb:Nat→Value)
  (hok:∀ i,i≤3 * w.nodes.length→WOk kk c (w.roundK c i)) (hk:kk≤198) (ov:vs.oneCell'=true) (hgl:gs.length=w.nodes.length)
  (hnb:tm.size=nb) (hp:p<nb) (hfb:∀ t,tm.getD t undef=fb t)
  (hbody:∀ (w':WSt) (x:Rcd) (u:Value) (X:List Assn),WOk kk c w'→w'.nodes.length=w.nodes.length→x.FMay→u.oneCell'=true →
   ExI l Tryz.prog nb A (rndA l Tryz.prog nb (recL .ready fn tm p A B D0) (recL .busy fn tm p A B D0) B (fun M'=>M'=Bys u x.fbytes::wdO gw gh gl vs gs c (w'.once c (x,0)) (Y::X))) (upd fb p u) (Pt l (recL .ready fn tm p A B D0)::Bys u x.fbytes::wdO gw gh gl vs gs c w' (Y::X))) :
  Fn Tryz.prog 134 #[.func (.yield l) #[] #[],ptrV gb] (Pt l (recL .ready fn tm p A B D0)::Pt D0 (.deferred (some []))::Blk gb 32 [ptrV gw]::wdO gw gh gl vs gs c w (Y::M))
   fun v L'=>∃ M',L'=Pt l (recL .ready fn tm p A B D0)::Pt D0 (.deferred (some []))::M'∧M'=Blk gb 32 [ptrV gw]::wdO gw gh gl vs gs c (w.round c) (Y::M):=by
 have hn5:=(hok 0 (Nat.zero_le _)).n5
 have hn5:w.nodes.length≤5∧1≤w.nodes.length:=hn5
 refine Fn.of_ex Tryz.func134 rfl Tryz.ntmps134 rfl ?_
 (refine rn ?_;(repeat (first | intro (g:Nat) | intro (zs:List _) | intro h)))
 refine Ex.loop [14] (fun z vs2 L'=>∃ (i:Nat),i≤w.nodes.length∧z=w.nodes.length - i∧vs2=[.int .i64 i]∧L'=Pt l (recL .ready fn tm p A B D0)::Pt D0 (.deferred (some []))::Blk gb 32 [ptrV gw]::wdO gw gh gl vs gs c (w.roundK c (3 * i)) (Y::M)) w.nodes.length ⟨0,by omega,rfl,rfl,rfl⟩ ?_
 rintro z vs2 g1 L1 ⟨i,hi,rfl,rfl,rfl⟩
 refine Ex.keep [0,12,13,14] rG (fun gk=>?_)
 by_cases hlt:i<w.nodes.length
 ·have hjg:i<gs.length:=by omega
  have hjt:((i:Int)).toNat=i:=Int.toNat_natCast i
  have hgg:gs[i]'hjg=gs.getD (i:Int).toNat ⟨0⟩:=by rw [hjt];simp [List.getD_eq_getElem?_getD,hjg]
  (refine rn ?_;(repeat (first | intro (g:Nat) | intro (zs:List _) | intro h)))
  refine st_sliceN (parts:=[(0,.tmp 19),(1,.tmp 21),(2,.tmp 23)]) (ps:=[(0,[(.func (.func 42) #[.pointer (some ⟨(gs[i]'hjg).g,0,none⟩)] #[])]),(1,[(.func (.func 43) #[.pointer (some ⟨(gs[i]'hjg).g,0,none⟩)] #[])]),(2,[(.func (.func 44) #[.pointer (some ⟨(gs[i]'hjg).g,0,none⟩)] #[])])]) (vs:=[(.func (.func 42) #[.pointer (some ⟨(gs[i]'hjg).g,0,none⟩)] #[]),(.func (.func 43) #[.pointer (some ⟨(gs[i]'hjg).g,0,none⟩)] #[]),(.func (.func 44) #[.pointer (some ⟨(gs[i]'hjg).g,0,none⟩)] #[])]) (zs:=[.nilFunc]) (mvs (gs[i]'hjg).g) rJ rJ rJ rJ rJ rJ rQ rJ (evs_one rJ rJ (evs_one rJ rJ (evs_one rJ rJ evs_nil))) rJ rfl rfl rfl (fun g=>?_)
  (refine rn ?_;(repeat (first | intro (g:Nat) | intro h)))
  revert g
  intro g24
  rw [hgg]
  refine Ex.loop [26] (fun z vs2 L'=>∃ (k:Nat),k≤3∧z=3 - k∧vs2=[.int .i64 k]∧L'=RowT (.slice (some ⟨g24,0,none⟩) 3 3) 118 (mvs (gs.getD (i:Int).toNat ⟨0⟩).g)::Pt l (recL .ready fn tm p A B D0)::Pt D0 (.deferred (some []))::Blk gb 32 [ptrV gw]::wdO gw gh gl vs gs c (w.roundK c (3 * i+k)) (Y::M)) 3 ⟨0,by omega,rfl,rfl,rfl⟩ ?_
  rintro z vs2 g1 L1 ⟨k,hk3,rfl,rfl,rfl⟩
  refine Ex.keep [0,12,13,14,24,25,26] rG (fun gk=>?_)
  have hm3:(mvs (gs.getD (i:Int).toNat ⟨0⟩).g).length=3:=rfl
  by_cases hlt3:k<3
  ·obtain ⟨w',hw'⟩:∃ w',w'=w.roundK c (3 * i+k):=⟨_,rfl⟩
   have ok':WOk kk c w':=by rw [hw'];exact hok _ rM
   have hlen':w'.nodes.length=w.nodes.length:=by rw [hw',roundK_len]
   have hnext:w.roundK c (3 * i+(k+1))=w'.once c (w'.tellK c i k):=by
    rw [hw']
    have e1:(3 * i+k) / 3=i:=by omega
    have e2:(3 * i+k) % 3=k:=by omega
    show WSt.once _ c (WSt.tellK _ c (((3 * i+k) / 3:Nat):Int) ((3 * i+k) % 3))=_
    rw [e1,e2]
    rfl
   rw [← hw']
   have hh:w'.has (i:Int):=⟨by omega,by omega⟩
   have okn:=ok'.node hh
   have hkc:k=0∨k=1∨k=2:=by omega
   rcases hkc with rfl | rfl | rfl
   ·(refine rn ?_;intros)
    refine ExL.sub (L':=NodeA (gs.getD (i:Int).toNat ⟨0⟩).g c i (w'.node i)::wdR gw gh gl vs gs c w' i (Y::RowT (.slice (some ⟨g24,0,none⟩) 3 3) 118 (mvs (gs.getD (i:Int).toNat ⟨0⟩).g)::Pt l (recL .ready fn tm p A B D0)::Pt D0 (.deferred (some []))::Blk gb 32 [ptrV gw]::M)) ?_ (Sub.trans (wd_open hh _) rP)
    refine st_callV [] (xs:=[]) (fs:=[ptrV (gs.getD (i:Int).toNat ⟨0⟩).g]) (vs:=[]) rJ rJ Tryz.call42 rE rJ (nPushA (k:=kk) _ c i (w'.node i) _ okn rM) ?_
    rintro _ _ ⟨u,ou,rfl,rfl⟩
    obtain ⟨pp,hpp⟩:∃ pp,pp=w'.tellK c i 0:=⟨_,rfl⟩
    have hfm:pp.2=0→pp.1.FMay:=fun h=>by rw [hpp] at h ⊢;exact push_fmay okn h
    have hnx:w.roundK c (3 * i+(0+1))=w'.once c pp:=by rw [hnext,hpp]
    show ExL _ _ _ _ _ (updo _ _ (.tuple #[u,.int .i64 (w'.tellK c i 0).2])) (Bys u (frB (w'.tellK c i 0))::_)
    rw [← hpp]
    by_cases hp0:pp.2=0
    ·refine ExL.halt 0 ?_
     (refine rn ?_;intros)
     have hpe:pp=(pp.1,0):=by rw [← hp0]
     have hu:frB pp=pp.1.fbytes:=by simp only [frB,hp0,if_true]
     rw [hu]
     refine Ex.go ?_
     refine Ex.sub (L':=Pt l (recL .ready fn tm p A B D0)::Bys u pp.1.fbytes::wdO gw gh gl vs gs c w' (Y::(RowT (.slice (some ⟨g24,0,none⟩) 3 3) 118 (mvs (gs.getD (i:Int).toNat ⟨0⟩).g)::Pt D0 (.deferred (some []))::Blk gb 32 [ptrV gw]::M))) ?_ (Sub.trans (B:=wdO gw gh gl vs gs c w' (Y::(Pt l (recL .ready fn tm p A B D0)::Bys u pp.1.fbytes::RowT (.slice (some ⟨g24,0,none⟩) 3 3) 118 (mvs (gs.getD (i:Int).toNat ⟨0⟩).g)::Pt D0 (.deferred (some []))::Blk gb 32 [ptrV gw]::M))) rP (Sub.trans (wd_backO hh _) rP))
     refine Ex.seq (Ex.regionY (ExY.at 5 rJ ?_))
     (refine rn ?_;intros)
     refine midY_n ?_
     refine ExY.gtake rJ rJ rJ rJ ?_
     refine ExY.yield (hd:=by rfl) (hx:=by rfl) (hy:=by rfl) hnb hp hfb (hbody w' pp.1 u _ ok' hlen' (hfm hp0) ou) ?_
     rintro M' rfl
     refine ExY.of rJ (Calm.thn (Calm.inb (Calm.thn (Calm.rnd (Calm.inb (Calm.inb (Calm.thn (Calm.rnd (Calm.inb Calm.fin))))))))) ?_
     (refine rn ?_;intros)
     refine rnd_n ⟨3 - (0+1),RowT (.slice (some ⟨g24,0,none⟩) 3 3) 118 (mvs (gs.getD (i:Int).toNat ⟨0⟩).g)::Pt l (recL .ready fn tm p A B D0)::Pt D0 (.deferred (some []))::Blk gb 32 [ptrV gw]::wdO gw gh gl vs gs c (w.roundK c (3 * i+(0+1))) (Y::M),by omega,?_,0+1,by omega,rfl,lcons (vint rM) rfl,rfl⟩
     rw [hnx,hpe]
     exact rP
    ·have hon:w'.once c pp=w':=by unfold WSt.once;rw [if_pos hp0]
     (refine rn ?_;intros)
     refine rnd_n ⟨3 - (0+1),RowT (.slice (some ⟨g24,0,none⟩) 3 3) 118 (mvs (gs.getD (i:Int).toNat ⟨0⟩).g)::Pt l (recL .ready fn tm p A B D0)::Pt D0 (.deferred (some []))::Blk gb 32 [ptrV gw]::wdO gw gh gl vs gs c (w.roundK c (3 * i+(0+1))) (Y::M),by omega,?_,0+1,by omega,rfl,lcons (vint rM) rfl,rfl⟩
     rw [hnx,hon]
     exact Sub.trans (B:=wdO gw gh gl vs gs c w' (Y::RowT (.slice (some ⟨g24,0,none⟩) 3 3) 118 (mvs (gs.getD (i:Int).toNat ⟨0⟩).g)::Pt l (recL .ready fn tm p A B D0)::Pt D0 (.deferred (some []))::Blk gb 32 [ptrV gw]::M)) rP (Sub.trans (wd_backO hh _) rP)
   ·(refine rn ?_;intros)
    refine ExL.sub (L':=NodeA (gs.getD (i:Int).toNat ⟨0⟩).g c i (w'.node i)::wdR gw gh gl vs gs c w' i (Y::RowT (.slice (some ⟨g24,0,none⟩) 3 3) 118 (mvs (gs.getD (i:Int).toNat ⟨0⟩).g)::Pt l (recL .ready fn tm p A B D0)::Pt D0 (.deferred (some []))::Blk gb 32 [ptrV gw]::M)) ?_ (Sub.trans (wd_open hh _) rP)
    refine st_callV [] (xs:=[]) (fs:=[ptrV (gs.getD (i:Int).toNat ⟨0⟩).g]) (vs:=[]) rJ rJ Tryz.call43 rE rJ (nFetchA (k:=kk) _ c i (w'.node i) _ okn rM) ?_
    rintro _ _ ⟨u,ou,rfl,rfl⟩
    obtain ⟨pp,hpp⟩:∃ pp,pp=w'.tellK c i 1:=⟨_,rfl⟩
    have hfm:pp.2=0→pp.1.FMay:=fun h=>by rw [hpp] at h ⊢;exact tell_fmay okn rM (.inl rfl) h
    have hnx:w.roundK c (3 * i+(1+1))=w'.once c pp:=by rw [hnext,hpp]
    show ExL _ _ _ _ _ (updo _ _ (.tuple #[u,.int .i64 (w'.tellK c i 1).2])) (Bys u (frB (w'.tellK c i 1))::_)
    rw [← hpp]
    by_cases hp0:pp.2=0
    ·refine ExL.halt 0 ?_
     (refine rn ?_;intros)
     have hpe:pp=(pp.1,0):=by rw [← hp0]
     have hu:frB pp=pp.1.fbytes:=by simp only [frB,hp0,if_true]
     rw [hu]
     refine Ex.go ?_
     refine Ex.sub (L':=Pt l (recL .ready fn tm p A B D0)::Bys u pp.1.fbytes::wdO gw gh gl vs gs c w' (Y::(RowT (.slice (some ⟨g24,0,none⟩) 3 3) 118 (mvs (gs.getD (i:Int).toNat ⟨0⟩).g)::Pt D0 (.deferred (some []))::Blk gb 32 [ptrV gw]::M))) ?_ (Sub.trans (B:=wdO gw gh gl vs gs c w' (Y::(Pt l (recL .ready fn tm p A B D0)::Bys u pp.1.fbytes::RowT (.slice (some ⟨g24,0,none⟩) 3 3) 118 (mvs (gs.getD (i:Int).toNat ⟨0⟩).g)::Pt D0 (.deferred (some []))::Blk gb 32 [ptrV gw]::M))) rP (Sub.trans (wd_backO hh _) rP))
     refine Ex.seq (Ex.regionY (ExY.at 5 rJ ?_))
     (refine rn ?_;intros)
     refine midY_n ?_
     refine ExY.gtake rJ rJ rJ rJ ?_
     refine ExY.yield (hd:=by rfl) (hx:=by rfl) (hy:=by rfl) hnb hp hfb (hbody w' pp.1 u _ ok' hlen' (hfm hp0) ou) ?_
     rintro M' rfl
     refine ExY.of rJ (Calm.thn (Calm.inb (Calm.thn (Calm.rnd (Calm.inb (Calm.inb (Calm.thn (Calm.rnd (Calm.inb Calm.fin))))))))) ?_
     (refine rn ?_;intros)
     refine rnd_n ⟨3 - (1+1),RowT (.slice (some ⟨g24,0,none⟩) 3 3) 118 (mvs (gs.getD (i:Int).toNat ⟨0⟩).g)::Pt l (recL .ready fn tm p A B D0)::Pt D0 (.deferred (some []))::Blk gb 32 [ptrV gw]::wdO gw gh gl vs gs c (w.roundK c (3 * i+(1+1))) (Y::M),by omega,?_,1+1,by omega,rfl,lcons (vint rM) rfl,rfl⟩
     rw [hnx,hpe]
     exact rP
    ·have hon:w'.once c pp=w':=by unfold WSt.once;rw [if_pos hp0]
     (refine rn ?_;intros)
     refine rnd_n ⟨3 - (1+1),RowT (.slice (some ⟨g24,0,none⟩) 3 3) 118 (mvs (gs.getD (i:Int).toNat ⟨0⟩).g)::Pt l (recL .ready fn tm p A B D0)::Pt D0 (.deferred (some []))::Blk gb 32 [ptrV gw]::wdO gw gh gl vs gs c (w.roundK c (3 * i+(1+1))) (Y::M),by omega,?_,1+1,by omega,rfl,lcons (vint rM) rfl,rfl⟩
     rw [hnx,hon]
     exact Sub.trans (B:=wdO gw gh gl vs gs c w' (Y::RowT (.slice (some ⟨g24,0,none⟩) 3 3) 118 (mvs (gs.getD (i:Int).toNat ⟨0⟩).g)::Pt l (recL .ready fn tm p A B D0)::Pt D0 (.deferred (some []))::Blk gb 32 [ptrV gw]::M)) rP (Sub.trans (wd_backO hh _) rP)
   ·(refine rn ?_;intros)
    refine ExL.sub (L':=NodeA (gs.getD (i:Int).toNat ⟨0⟩).g c i (w'.node i)::wdR gw gh gl vs gs c w' i (Y::RowT (.slice (some ⟨g24,0,none⟩) 3 3) 118 (mvs (gs.getD (i:Int).toNat ⟨0⟩).g)::Pt l (recL .ready fn tm p A B D0)::Pt D0 (.deferred (some []))::Blk gb 32 [ptrV gw]::M)) ?_ (Sub.trans (wd_open hh _) rP)
    refine st_callV [] (xs:=[]) (fs:=[ptrV (gs.getD (i:Int).toNat ⟨0⟩).g]) (vs:=[]) rJ rJ Tryz.call44 rE rJ (nAckA (k:=kk) _ c i (w'.node i) _ okn rM) ?_
    rintro _ _ ⟨u,ou,rfl,rfl⟩
    obtain ⟨pp,hpp⟩:∃ pp,pp=w'.tellK c i 2:=⟨_,rfl⟩
    have hfm:pp.2=0→pp.1.FMay:=fun h=>by rw [hpp] at h ⊢;exact tell_fmay okn rM (.inr rfl) h
    have hnx:w.roundK c (3 * i+(2+1))=w'.once c pp:=by rw [hnext,hpp]
    show ExL _ _ _ _ _ (updo _ _ (.tuple #[u,.int .i64 (w'.tellK c i 2).2])) (Bys u (frB (w'.tellK c i 2))::_)
    rw [← hpp]
    by_cases hp0:pp.2=0
    ·refine ExL.halt 0 ?_
     (refine rn ?_;intros)
     have hpe:pp=(pp.1,0):=by rw [← hp0]
     have hu:frB pp=pp.1.fbytes:=by simp only [frB,hp0,if_true]
     rw [hu]
     refine Ex.go ?_
     refine Ex.sub (L':=Pt l (recL .ready fn tm p A B D0)::Bys u pp.1.fbytes::wdO gw gh gl vs gs c w' (Y::(RowT (.slice (some ⟨g24,0,none⟩) 3 3) 118 (mvs (gs.getD (i:Int).toNat ⟨0⟩).g)::Pt D0 (.deferred (some []))::Blk gb 32 [ptrV gw]::M))) ?_ (Sub.trans (B:=wdO gw gh gl vs gs c w' (Y::(Pt l (recL .ready fn tm p A B D0)::Bys u pp.1.fbytes::RowT (.slice (some ⟨g24,0,none⟩) 3 3) 118 (mvs (gs.getD (i:Int).toNat ⟨0⟩).g)::Pt D0 (.deferred (some []))::Blk gb 32 [ptrV gw]::M))) rP (Sub.trans (wd_backO hh _) rP))
     refine Ex.seq (Ex.regionY (ExY.at 5 rJ ?_))
     (refine rn ?_;intros)
     refine midY_n ?_
     refine ExY.gtake rJ rJ rJ rJ ?_
     refine ExY.yield (hd:=by rfl) (hx:=by rfl) (hy:=by rfl) hnb hp hfb (hbody w' pp.1 u _ ok' hlen' (hfm hp0) ou) ?_
     rintro M' rfl
     refine ExY.of rJ (Calm.thn (Calm.inb (Calm.thn (Calm.rnd (Calm.inb (Calm.inb (Calm.thn (Calm.rnd (Calm.inb Calm.fin))))))))) ?_
     (refine rn ?_;intros)
     refine rnd_n ⟨3 - (2+1),RowT (.slice (some ⟨g24,0,none⟩) 3 3) 118 (mvs (gs.getD (i:Int).toNat ⟨0⟩).g)::Pt l (recL .ready fn tm p A B D0)::Pt D0 (.deferred (some []))::Blk gb 32 [ptrV gw]::wdO gw gh gl vs gs c (w.roundK c (3 * i+(2+1))) (Y::M),by omega,?_,2+1,by omega,rfl,lcons (vint rM) rfl,rfl⟩
     rw [hnx,hpe]
     exact rP
    ·have hon:w'.once c pp=w':=by unfold WSt.once;rw [if_pos hp0]
     (refine rn ?_;intros)
     refine rnd_n ⟨3 - (2+1),RowT (.slice (some ⟨g24,0,none⟩) 3 3) 118 (mvs (gs.getD (i:Int).toNat ⟨0⟩).g)::Pt l (recL .ready fn tm p A B D0)::Pt D0 (.deferred (some []))::Blk gb 32 [ptrV gw]::wdO gw gh gl vs gs c (w.roundK c (3 * i+(2+1))) (Y::M),by omega,?_,2+1,by omega,rfl,lcons (vint rM) rfl,rfl⟩
     rw [hnx,hon]
     exact Sub.trans (B:=wdO gw gh gl vs gs c w' (Y::RowT (.slice (some ⟨g24,0,none⟩) 3 3) 118 (mvs (gs.getD (i:Int).toNat ⟨0⟩).g)::Pt l (recL .ready fn tm p A B D0)::Pt D0 (.deferred (some []))::Blk gb 32 [ptrV gw]::M)) rP (Sub.trans (wd_backO hh _) rP)
  ·obtain rfl:k=3:=by omega
   have e3:3 * i+3=3 * (i+1):=by omega
   rw [e3]
   (refine rn ?_;intros)
   refine rnd_n ⟨w.nodes.length - (i+1),Pt l (recL .ready fn tm p A B D0)::Pt D0 (.deferred (some []))::Blk gb 32 [ptrV gw]::wdO gw gh gl vs gs c (w.roundK c (3 * (i+1))) (Y::M),by omega,rP,i+1,by omega,rfl,lcons (vint rM) rfl,rfl⟩
 ·obtain rfl:i=w.nodes.length:=by omega
  have e:w.roundK c (3 * w.nodes.length)=w.round c:=rfl
  rw [e]
  exact re8
end
end
section
def WSt.reN (w:WSt) (c:Cfg):Nat→WSt
 | 0=>w
 | j+1=>(w.reN c j).upd (j:Nat) ((((w.reN c j).node (j:Nat)).crash).start c (j:Nat)).1
def WSt.re (w:WSt) (c:Cfg):WSt:={ w.reN c w.nodes.length with hub:=(w.hub.crash.start c).1 }
def WSt.loopW (w:WSt) (c:Cfg):Nat→WSt
 | 0=>w
 | n+1=>if (w.round c).stdW=w.stdW then w.round c else (w.round c).loopW c n
def WSt.roundsW (w:WSt) (c:Cfg) (n:Nat):WSt:=(w.re c).loopW c n
def WSt.loopOk (kk:Nat) (c:Cfg) (w:WSt):Nat→Prop
 | 0=>WOk kk c w
 | n+1=>(∀ i,i≤3 * w.nodes.length→WOk kk c (w.roundK c i))∧((w.round c).stdW≠w.stdW→(w.round c).loopOk kk c n)
theorem WSt.upd_hub (w:WSt) (r:Int) (s:NSt):(w.upd r s).hub=w.hub:=rfl
theorem WSt.reN_len (w:WSt) (c:Cfg):∀ j,(w.reN c j).nodes.length=w.nodes.length
 | 0=>rfl
 | j+1=>by show ((w.reN c j).upd _ _).nodes.length=_;rw [WSt.upd_len,WSt.reN_len w c j]
theorem WSt.reN_hub (w:WSt) (c:Cfg):∀ j,(w.reN c j).hub=w.hub
 | 0=>rfl
 | j+1=>by show ((w.reN c j).upd _ _).hub=_;rw [WSt.upd_hub,WSt.reN_hub w c j]
theorem NOk.crash {k:Nat} {c:Cfg} {r:Int} {s:NSt} (ok:NOk k c r s):NOk k c r s.crash :=
 ⟨ok.cm,ok.rg,ok.recs,ok.tail,ok.size,ok.rlen,ok.revs,ok.rsent,(fun h=>by cases h),(fun h=>by cases h),(fun h=>by cases h),(fun h=>by cases h)⟩
theorem HOk.crash {k:Nat} {c:Cfg} {s:HSt} (ok:HOk k c s):HOk k c s.crash :=
 ⟨ok.cm,ok.recs,ok.tail,ok.size,ok.post,(fun h=>by cases h),ok.ok⟩
instance:EqT Tryz.prog 132 StdW:=⟨6,.b::List.replicate 75 (.i .i64),by kernel_rfl,by kernel_rfl,by kernel_rfl,by kernel_rfl,fun _=>rfl,fun a b h=>by
 obtain ⟨⟨a0,⟨⟨a1,a2,a3,a4,a5⟩,⟨b1,b2,b3,b4,b5⟩,⟨c1,c2,c3,c4,c5⟩,⟨d1,d2,d3,d4,d5⟩,⟨e1,e2,e3,e4,e5⟩,⟨f1,f2,f3,f4,f5⟩,⟨g1,g2,g3,g4,g5⟩⟩⟩,⟨⟨p1,p2,p3,p4,p5⟩,p6,p7,p8⟩,⟨⟨q1,q2,q3,q4,q5⟩,q6,q7,q8⟩,⟨⟨r1,r2,r3,r4,r5⟩,r6,r7,r8⟩,⟨⟨s1,s2,s3,s4,s5⟩,s6,s7,s8⟩,⟨⟨t1,t2,t3,t4,t5⟩,t6,t7,t8⟩⟩:=a
 obtain ⟨⟨A0,⟨⟨A1,A2,A3,A4,A5⟩,⟨B1,B2,B3,B4,B5⟩,⟨C1,C2,C3,C4,C5⟩,⟨D1,D2,D3,D4,D5⟩,⟨E1,E2,E3,E4,E5⟩,⟨F1,F2,F3,F4,F5⟩,⟨G1,G2,G3,G4,G5⟩⟩⟩,⟨⟨P1,P2,P3,P4,P5⟩,P6,P7,P8⟩,⟨⟨Q1,Q2,Q3,Q4,Q5⟩,Q6,Q7,Q8⟩,⟨⟨R1,R2,R3,R4,R5⟩,R6,R7,R8⟩,⟨⟨S1,S2,S3,S4,S5⟩,S6,S7,S8⟩,⟨⟨T1,T2,T3,T4,T5⟩,T6,T7,T8⟩⟩:=b
 simp only [Rep.cells,List.cons_append,List.nil_append,List.append_assoc,List.cons.injEq,Value.int.injEq,Value.bool.injEq,true_and,and_true] at h
 simp only [StdW.mk.injEq,StdN.mk.injEq,HsU.mk.injEq,Hs.mk.injEq,Clk.mk.injEq]
 simp only [and_assoc] at h ⊢
 exact h⟩
end
section
theorem ExM.keep {P:Program} {n:Nat} {c:Code} {Q:Post} {f:Nat→Value} {L:List Assn} (ss:List Nat) {vs:List Value} (hv:ss.map f=vs) (h:∀ g,ExM P n c Q (upds g ss vs) L):ExM P n c Q f L:=by
 have:=h f
 rw [← hv,upds_self] at this
 exact this
theorem ExI.keep {P:Program} {l n:Nat} {c:Code} {Q:Post} {f:Nat→Value} {L:List Assn} (ss:List Nat) {vs:List Value} (hv:ss.map f=vs) (h:∀ g,ExI l P n c Q (upds g ss vs) L):ExI l P n c Q f L:=by
 have:=h f
 rw [← hv,upds_self] at this
 exact this
theorem rndA_n {P:Program} {l nb:Nat} {o1 o2:Obj} {B:Code} {K:List Assn→Prop} {f:Nat→Value} {L M:List Assn} (hs:Sub (Pt l o1::M) L) (h:ExI l P nb B (rndB l o2 K) f (Pt l o2::M)):rndA l P nb o1 o2 B K .normal f L:=⟨M,hs,h⟩
theorem rndB_n {l:Nat} {o:Obj} {K:List Assn→Prop} {f:Nat→Value} {L M:List Assn} (hs:Sub (Pt l o::M) L) (h:K M):rndB l o K .normal f L:=⟨M,hs,h⟩
theorem WSt.loopOk.here {kk:Nat} {c:Cfg} {w:WSt}:∀ {n:Nat},w.loopOk kk c n→WOk kk c w
 | 0,h=>h
 | _+1,h=>h.1 0 (Nat.zero_le _)
set_option maxRecDepth 20000 attribute [local irreducible] Ex ExL Fn thn inb rnd fin meet Tab Mix mxEnd Val Sats RdT Rd RowT Row Blk Sub Fac ResV RVal Evs subs subs3 Hid Capd
section
attribute [local irreducible] Star NodeA HubA LkA nodesA Pt midY ExY ExI ExM thnM
theorem wround0_F (gw:Nat) (M:List Assn):Fn Tryz.prog 65 #[ptrV gw] M
  fun v L'=>∃ gb,v=.func (.func 134) #[] #[ptrV gb]∧L'=Blk gb 32 [ptrV gw]::M:=by
 refine Fn.of_ex Tryz.func65 rfl Tryz.ntmps65 rfl ?_
 exact re8
theorem wRounds_F {kk:Nat} (gw gh gl:Nat) (vs:Value) (gs:List Ptr) (c:Cfg) (w:WSt) (n:Nat) (M:List Assn) (hk:kk≤198) (ov:vs.oneCell'=true) (hgl:gs.length=w.nodes.length) (hn:n≤1000)
  (ok0:WOk kk c w) (ok1:∀ j,j≤w.nodes.length→WOk kk c (w.reN c j)) (okl:(w.re c).loopOk kk c n) :
  Fn Tryz.prog 24 #[ptrV gw,.int .i64 n] (wdO gw gh gl vs gs c w M)
   fun v L'=>L'=wdO gw gh gl vs gs c (w.roundsW c n) M:=by
 have hn5:=ok0.n5
 refine Fn.of_exM Tryz.func24 rfl Tryz.ntmps24 rfl ?_
 refine ExM.seq (ExM.of ?_)
 (refine rn ?_;(repeat (first | intro (g:Nat) | intro h)))
 refine thnM_n ?_
 refine ExM.seq (ExM.of ?_)
 (refine rn ?_;(repeat (first | intro (g:Nat) | intro h)))
 refine thnM_n ?_
 revert g
 intro g2
 refine ExM.seq (ExM.of ?_)
 (refine rn ?_;(repeat (first | intro (g:Nat) | intro h)))
 refine Ex.sub (L':=wdO gw gh gl vs gs c w (Blk g2 32 [ptrV gw]::M)) ?_ rP
 refine Ex.loop [21] (fun z vs2 L'=>∃ (j:Nat),j≤w.nodes.length∧z=w.nodes.length - j∧vs2=[.int .i64 j]∧L'=wdO gw gh gl vs gs c (w.reN c j) (Blk g2 32 [ptrV gw]::M)) w.nodes.length ⟨0,by omega,rfl,rfl,rfl⟩ ?_
 rintro z vs2 g1 L1 ⟨j,hj,rfl,rfl,rfl⟩
 refine Ex.keep [1,2,19,20,21] rG (fun gk=>?_)
 by_cases hlt:j<w.nodes.length
 ·have hrl:=w.reN_len c j
  have hh:(w.reN c j).has (j:Int):=⟨by omega,by omega⟩
  have okn:=(ok1 j hj).node hh
  have hjg:j<gs.length:=by omega
  have hjt:((j:Int)).toNat=j:=Int.toNat_natCast j
  have hgg:gs[j]'hjg=gs.getD (j:Int).toNat ⟨0⟩:=by rw [hjt];simp [List.getD_eq_getElem?_getD,hjg]
  (refine rn ?_;(repeat (first | intro (g:Nat) | intro h)))
  rw [hgg]
  refine ExL.sub (L':=NodeA (gs.getD (j:Int).toNat ⟨0⟩).g c j ((w.reN c j).node j)::wdR gw gh gl vs gs c (w.reN c j) j (Blk g2 32 [ptrV gw]::M)) ?_ (wd_open hh _)
  refine st_callIs [] rJ Tryz.call60 rE rJ (nCrashA _ c j _ _) ?_
  rintro _ _ rfl
  (refine rn ?_;(repeat (first | intro (g:Nat) | intro h)))
  refine st_callIs [] rJ Tryz.call61 rE rJ (nStartA (k:=kk) _ c j _ _ okn.crash rM) ?_
  rintro _ _ ⟨rfl,rfl⟩
  (refine rn ?_;(repeat (first | intro (g:Nat) | intro h)))
  refine rnd_n ⟨w.nodes.length - (j+1),wdO gw gh gl vs gs c (w.reN c (j+1)) (Blk g2 32 [ptrV gw]::M),by omega,?_,j+1,by omega,rfl,lcons (vint rM) rfl,rfl⟩
  exact Sub.trans (B:=Star (nodesA c gs (w.reN c (j+1)).nodes)::WdB gw gh gl vs::Nds vs gs::HubA gh c (w.reN c j).hub::LkA gl (w.reN c j).keys::Blk g2 32 [ptrV gw]::M) rP (Sub.trans (nodes_unfocus hh _ _) rP)
 ·obtain rfl:j=w.nodes.length:=by omega
  (refine rn ?_;(repeat (first | intro (g:Nat) | intro h)))
  have hrl:=w.reN_len c w.nodes.length
  have okr:=ok1 _ hj
  have hrh:=w.reN_hub c w.nodes.length
  refine thnM_n ?_
  refine ExM.seq (ExM.of ?_)
  (refine rn ?_;(repeat (first | intro (g:Nat) | intro h)))
  refine st_callIs [3] rJ Tryz.call62 rE rJ (hCrashA gh c _ _) ?_
  rintro _ _ rfl
  (refine rn ?_;(repeat (first | intro (g:Nat) | intro h)))
  refine thnM_n ?_
  refine ExM.seq (ExM.of ?_)
  (refine rn ?_;(repeat (first | intro (g:Nat) | intro h)))
  refine st_callIs [] rJ Tryz.call63 rE rJ (hStartA (k:=kk) gh c _ _ okr.hub.crash rM) ?_
  rintro _ _ ⟨rfl,rfl⟩
  (refine rn ?_;(repeat (first | intro (g:Nat) | intro h)))
  refine thnM_n ?_
  refine ExM.seq (ExM.of ?_)
  (refine rn ?_;(repeat (first | intro (g:Nat) | intro h)))
  refine thnM_n ?_
  obtain ⟨Y,hY⟩:∃ Y,Y=Blk g2 32 [ptrV gw]:=⟨_,rfl⟩
  refine ExM.sub (L':=wdO gw gh gl vs gs c (w.re c) (Blk g2 32 [ptrV gw]::M)) ?_ (by unfold WSt.re;rw [← hrh];exact rP)
  refine ExM.block (ExM.loop [41] (fun z vs2 L'=>∃ (m:Nat) (w':WSt),m≤n∧z=n - m∧w'.loopOk kk c (n - m)∧w'.loopW c (n - m)=w.roundsW c n∧w'.nodes.length=w.nodes.length∧vs2=[.int .i64 m]∧L'=wdO gw gh gl vs gs c w' (Blk g2 32 [ptrV gw]::M)) n ⟨0,w.re c,by omega,rfl,okl,rfl,hrl,rfl,rfl⟩ ?_)
  rintro z vs2 g1 L1 ⟨m,w',hm,rfl,okm,hlw,hwl,rfl,rfl⟩
  refine ExM.keep [2,40,41] rG (fun gk=>?_)
  have okw:=okm.here
  refine ExM.seq (ExM.of ?_)
  by_cases hmn:m<n
  ·(refine rn ?_;(repeat (first | intro (g:Nat) | intro h)))
   refine thnM_n ?_
   refine ExM.seq (ExM.of ?_)
   (refine rn ?_;(repeat (first | intro (g:Nat) | intro h)))
   refine thnM_n ?_
   refine ExM.seq (ExM.block (ExM.seq (ExM.of ?_)))
   (refine rn ?_;(repeat (first | intro (g:Nat) | intro h)))
   refine st_callIs [] rJ Tryz.call64 rE rJ (wstanding_F (k:=kk) gw gh gl vs gs c w' _ okw hk ov rM) ?_
   rintro _ _ ⟨rfl,rfl⟩
   generalize hst:w'.stdW=st0
   (refine rn ?_;(repeat (first | intro (g:Nat) | intro h)))
   rename_i g6x
   revert g
   intro g6
   refine thnM_n ?_
   refine ExM.seq (ExM.seq (ExM.of ?_))
   (refine rn ?_;intros)
   refine st_callIs [] rJ Tryz.call65 rE rJ (wround0_F gw _) ?_
   rintro _ _ ⟨gb,rfl,rfl⟩
   (refine rn ?_;intros)
   refine thnM_n ?_
   have hsucc:n - m=(n - (m+1))+1:=by omega
   rw [hsucc] at okm hlw
   obtain ⟨okr,okn⟩:=okm
   refine ExM.sub (L':=Blk gb 32 [ptrV gw]::wdO gw gh gl vs gs c w' (Blk g2 32 [ptrV gw]::Blk g6 132 (Rep.cells st0)::M)) ?_ rP
   refine ExM.block (ExM.rangeFunc (fun M'=>M'=Blk gb 32 [ptrV gw]::wdO gw gh gl vs gs c (w'.round c) (Blk g2 32 [ptrV gw]::Blk g6 132 (Rep.cells st0)::M)) rJ Tryz.call134 (fun l D0 tm fn hsz hfb=>wround_F (kk:=kk) gw gh gl gb vs gs c w' _ _ l D0 fn tm 47 _ _ _ _ okr hk ov rM hsz (by decide) hfb ?_) ?_)
   ·intro w2 x u X ok2 hl2 fm ou
    have hn52:=ok2.n5
    have hft:=frTake_fbytes x fm
    have hfl:=x.fbytes_len fm
    refine ExI.region rJ Calm.rndA ?_
    (refine rn ?_;intros)
    refine rndA_n (Sub.refl _) ?_
    refine ExI.keep [2,7] rG (fun gk2=>?_)
    refine ExI.block (ExI.seq (ExI.region rJ (Calm.thnI (Calm.inb Calm.rndB)) ?_))
    (refine rn ?_;intros)
    refine st_callIs [5] rJ Tryz.call66 rE rJ (hTakeA (k:=kk) gh c w2.hub u x.fbytes _ ok2.hub hk rD ou rM) ?_
    rintro _ _ ⟨u2,ou2,rfl,rfl⟩
    rw [hft]
    have hmay:=htake_may ok2.hub hk (f:=(x,0)) (fun _=>fm)
    obtain ⟨⟨h2,t2,p2,e2⟩,hq⟩:∃ q,w2.hub.take c (x,0)=q:=⟨_,rfl⟩
    have e:w2.once c (x,0)=if e2=0∧w2.has t2 then ({ w2 with hub:=h2 }:WSt).upd t2 (((w2.node t2).takeC c t2 (p2,0)).1) else { w2 with hub:=h2 }:=by unfold WSt.once;rw [hq];rfl
    rw [e]
    rw [hq] at hmay ⊢
    simp only at hmay ⊢
    (refine rn ?_;intros)
    refine thnI_n ?_
    refine ExI.keep [2,7,8,9,10] rG (fun gk3=>?_)
    refine ExI.seq (ExI.region rJ (Calm.thnI (Calm.inb Calm.rndB)) ?_)
    by_cases he:e2=0
    ·subst he
     refine ExL.sub (L':=WdB gw gh gl vs::Nds vs gs::Star (nodesA c gs w2.nodes)::HubA gh c h2::Bys u2 (hfB (t2,(p2,0)))::Blk g2 32 [ptrV gw]::Pt l _::Bys u x.fbytes::LkA gl w2.keys::X) ?_ rP
     (refine rn ?_;intros)
     refine st_callIs [] rJ Tryz.call39 rE rJ (whas_F gw gh gl vs gs c w2 t2 _ rM hn52.1) ?_
     rintro _ _ ⟨rfl,rfl⟩
     by_cases hh2:w2.has t2
     ·rw [decide_eq_true hh2]
      have ht1:=hh2.1
      have ht2:=hh2.2
      have ht3:t2<gs.length:=by omega
      have hfm:=hmay rfl ht1
      have hbl:=p2.fbytes_len hfm
      have hft2:=frTake_fbytes p2 hfm
      have hf:hfB (t2,(p2,0))=p2.fbytes:=by unfold hfB;rw [if_neg (by simp only;omega)];rfl
      rw [hf]
      (refine rn ?_;intros)
      refine thnI_n (ExI.cond_t rJ (ExI.region rJ (Calm.inb Calm.rndB) ?_))
      (refine rn ?_;intros)
      rw [← gs_get rM]
      refine ExL.sub (L':=NodeA (gs.getD t2.toNat ⟨0⟩).g c t2 (w2.node t2)::wdR gw gh gl vs gs c { w2 with hub:=h2 } t2 (Blk g2 32 [ptrV gw]::Bys u2 p2.fbytes::Pt l _::Bys u x.fbytes::X)) ?_ (Sub.trans (wd_open (w:={ w2 with hub:=h2 }) hh2 _) rP)
      refine st_callIs [] rJ Tryz.call67 rE rJ (nTakeA (k:=kk) _ c t2 (w2.node t2) u2 p2.fbytes _ (ok2.node hh2) hk rD ou2 rM) ?_
      rintro _ _ ⟨rfl,rfl⟩
      rw [hft2]
      (refine rn ?_;intros)
      refine rndB_n (M:=Bys u x.fbytes::wdO gw gh gl vs gs c (({ w2 with hub:=h2 }:WSt).upd t2 (((w2.node t2).takeC c t2 (p2,0)).1)) (Blk g2 32 [ptrV gw]::X)) ?_ ?_
      ·exact Sub.trans (B:=Star (nodesA c gs (({ w2 with hub:=h2 }:WSt).upd t2 (((w2.node t2).takeC c t2 (p2,0)).1)).nodes)::WdB gw gh gl vs::Nds vs gs::HubA gh c h2::LkA gl w2.keys::Blk g2 32 [ptrV gw]::Pt l _::Bys u x.fbytes::X) rP (Sub.trans (nodes_unfocus (w:={ w2 with hub:=h2 }) hh2 _ _) rP)
      ·rw [if_pos ⟨rfl,hh2⟩]
     ·rw [decide_eq_false hh2]
      (refine rn ?_;intros)
      refine thnI_n (ExI.cond_f rJ (ExI.skip ?_))
      refine inb_n (rndB_n (M:=Bys u x.fbytes::wdO gw gh gl vs gs c { w2 with hub:=h2 } (Blk g2 32 [ptrV gw]::X)) rP ?_)
      rw [if_neg (fun h=>hh2 h.2)]
    ·(refine rn ?_;intros)
     refine thnI_n (ExI.cond_f rJ (ExI.skip ?_))
     refine inb_n (rndB_n (M:=Bys u x.fbytes::wdO gw gh gl vs gs c { w2 with hub:=h2 } (Blk g2 32 [ptrV gw]::X)) rP ?_)
     rw [if_neg (fun h=>he h.1)]
   ·rintro M' rfl
    have okr2:WOk kk c (w'.round c):=okr _ (Nat.le_refl _)
    have hrl2:(w'.round c).nodes.length=w'.nodes.length:=roundK_len _ _ _
    refine inb_n (thnM_n ?_)
    refine ExM.sub (L':=wdO gw gh gl vs gs c (w'.round c) (Blk g2 32 [ptrV gw]::Blk g6 132 (Rep.cells st0)::M)) ?_ rP
    refine ExM.seq (ExM.of ?_)
    (refine Ex.mixA 4 _ rfl rQ (Fac.refl _) ?_;(repeat' (first | (refine m1 ?_;intros) | (refine mx_gsplit rJ rJ rJ (fun h=>?_) (fun h=>?_) <;> try (exfalso;omega)))))
    (refine mx_act rJ rJ rJ ?_;refine st_callIs [] rJ Tryz.call64 rE rJ (wstanding_F (k:=kk) gw gh gl vs gs c (w'.round c) _ okr2 hk ov rM) ?_)
    rintro _ _ ⟨rfl,rfl⟩
    generalize hst2:(w'.round c).stdW=st1
    by_cases hse:st1=st0
    ·(refine mw ?_;intros)
     (refine rn ?_;intros)
     refine thnM_n (ExM.of ?_)
     (refine rn ?_;intros)
     refine thnM_ret (rnd_ret (inb_ret ?_))
     (refine fr ?_)
     refine ⟨wdO gw gh gl vs gs c (w'.round c) M,rP,?_⟩
     have:w'.loopW c (n - (m+1)+1)=w'.round c:=by
      show (if _ then _ else _)=_
      rw [if_pos (by rw [hst2,hst,hse])]
     rw [← hlw,this]
    ·(refine mw ?_;intros)
     (refine rn ?_;intros)
     refine thnM_n (ExM.of ?_)
     (refine rn ?_;intros)
     refine thnM_n (ExM.of ?_)
     (refine rn ?_;intros)
     refine rnd_n ⟨n - (m+1),wdO gw gh gl vs gs c (w'.round c) (Blk g2 32 [ptrV gw]::M),by omega,rP,m+1,w'.round c,by omega,rfl,okn (by rw [hst2,hst];exact hse),?_,by omega,lcons (vint rM) rfl,rfl⟩
     have:w'.loopW c (n - (m+1)+1)=(w'.round c).loopW c (n - (m+1)):=by
      show (if _ then _ else _)=_
      rw [if_neg (by rw [hst2,hst];exact hse)]
     rw [← hlw,this]
  ·(refine rn ?_;intros)
   refine thnM_n ?_
   refine ExM.seq (ExM.of ?_)
   (refine rn ?_;intros)
   have hz:n - m=0:=by omega
   rw [hz] at hlw
   refine thnM_exit (rnd_exit (inb_hit rJ ?_))
   (refine fr ?_)
   rw [← hlw]
   exact ⟨_,rP,rfl⟩
theorem loopW_len (c:Cfg):∀ (n:Nat) (w:WSt),(w.loopW c n).nodes.length=w.nodes.length
 | 0,w=>rfl
 | n+1,w=>by
  have h1:(w.round c).nodes.length=w.nodes.length:=roundK_len _ _ _
  show (if _ then _ else _:WSt).nodes.length=_
  split
  ·exact h1
  ·rw [loopW_len c n,h1]
theorem roundsW_len (w:WSt) (c:Cfg) (n:Nat):(w.roundsW c n).nodes.length=w.nodes.length:=by
 unfold WSt.roundsW
 rw [loopW_len]
 exact w.reN_len c _
structure RdOk (kk:Nat) (c:Cfg) (w:WSt) (n:Nat):Prop where
 ok0:WOk kk c w
 ok1:∀ j,j≤w.nodes.length→WOk kk c (w.reN c j)
 okl:(w.re c).loopOk kk c n
theorem wRoundsA {kk:Nat} (gw:Nat) (c:Cfg) (w:WSt) (n:Nat) (M:List Assn) (hk:kk≤198) (hn:n≤1000) (ok:RdOk kk c w n) :
  Fn Tryz.prog 24 #[ptrV gw,.int .i64 n] (WldA gw c w::M) fun v L'=>L'=WldA gw c (w.roundsW c n)::M:=by
 refine WldA.fn fun gh gl vs gs ov hgl=>?_
 refine (wRounds_F (kk:=kk) gw gh gl vs gs c w n M hk ov hgl hn ok.ok0 ok.ok1 ok.okl).resv ?_
 rintro v L' rfl
 exact ⟨_,WldA.cls ov (by rw [roundsW_len];exact hgl) M,rfl⟩
end
section
def fitR (s:Stp) (n:Int):Int:=(s.r.tmod (n+1)+n+1) % (n+1)
def fitS (n:Int) (s:Stp):Stp :=
 { s with kind:=(s.kind.tmod 12+12) % 12,r:=if fitR s n=n then (if (s.kind.tmod 12+12) % 12<8∨(s.kind.tmod 12+12) % 12=11 then 0 else 5) else fitR s n,ed:=s.ed.fit }
def fewS (n:Int) (l:List Stp):List Stp:=(l.take 60).map (fitS n)
theorem fit_lens (e:Ed):e.fit.key.length≤8∧e.fit.value.length≤12:=by
 constructor
 ·rcases fit_key e with h | h | h <;> rw [h] <;> simp
 ·rcases fit_value e with h | h | h | h | h <;> rw [h] <;> simp
theorem stFit_F (s:Stp) (n:Nat) (L:List Assn) (hn:1≤n∧n≤5) (hk:s.ed.key.length≤140737488355328) (hv:s.ed.value.length≤140737488355328) :
  Fn Tryz.prog 35 #[.agg (Rep.cells s).toArray,.int .i64 n] L fun v L'=>v=.agg (Rep.cells (fitS n s)).toArray∧L'=L:=by
 have h12:=tmod_bd s.kind 12 rM
 have hr:=tmod_bd s.r ((n:Int)+1) rM
 by_cases h1:fitR s n=n
 ·by_cases h2:(s.kind.tmod 12+12) % 12<8
  ·have e:fitS n s={ s with kind:=(s.kind.tmod 12+12) % 12,r:=0,ed:=s.ed.fit }:=by unfold fitS;rw [if_pos h1,if_pos (.inl h2)]
   rw [e]
   unfold fitR at h1
   refine Fn.of_ex Tryz.func35 rfl Tryz.ntmps35 rfl ?_
   (refine rn ?_;intros)
   refine st_callIs [] rJ Tryz.call26 rE rJ (fit_spec s.ed _ hk hv) ?_
   rintro _ _ ⟨rfl,rfl⟩
   generalize s.ed.fit=ef
   exact re0
  ·by_cases h3:(s.kind.tmod 12+12) % 12=11
   ·have e:fitS n s={ s with kind:=(s.kind.tmod 12+12) % 12,r:=0,ed:=s.ed.fit }:=by unfold fitS;rw [if_pos h1,if_pos (.inr h3)]
    rw [e]
    unfold fitR at h1
    refine Fn.of_ex Tryz.func35 rfl Tryz.ntmps35 rfl ?_
    (refine rn ?_;intros)
    refine st_callIs [] rJ Tryz.call26 rE rJ (fit_spec s.ed _ hk hv) ?_
    rintro _ _ ⟨rfl,rfl⟩
    generalize s.ed.fit=ef
    (refine rn ?_;intros)
    (refine fr ?_)
    exact ⟨_,rB,by rw [h3];rfl,rfl⟩
   ·have e:fitS n s={ s with kind:=(s.kind.tmod 12+12) % 12,r:=5,ed:=s.ed.fit }:=by unfold fitS;rw [if_pos h1,if_neg (fun h=>h.elim h2 h3)]
    rw [e]
    unfold fitR at h1
    refine Fn.of_ex Tryz.func35 rfl Tryz.ntmps35 rfl ?_
    (refine rn ?_;intros)
    refine st_callIs [] rJ Tryz.call26 rE rJ (fit_spec s.ed _ hk hv) ?_
    rintro _ _ ⟨rfl,rfl⟩
    generalize s.ed.fit=ef
    exact re0
 ·have e:fitS n s={ s with kind:=(s.kind.tmod 12+12) % 12,r:=fitR s n,ed:=s.ed.fit }:=by unfold fitS;rw [if_neg h1]
  rw [e]
  unfold fitR at h1 ⊢
  refine Fn.of_ex Tryz.func35 rfl Tryz.ntmps35 rfl ?_
  (refine rn ?_;intros)
  refine st_callIs [] rJ Tryz.call26 rE rJ (fit_spec s.ed _ hk hv) ?_
  rintro _ _ ⟨rfl,rfl⟩
  generalize s.ed.fit=ef
  exact re0
theorem few_F (v0:Value) (l:List Stp) (n:Nat) (M:List Assn) (hr:RdT M v0 l) (o0:v0.oneCell'=true) (hn:1≤n∧n≤5) (hl:l.length≤140737488355328) (hs:∀ s∈l,s.ed.key.length≤140737488355328∧s.ed.value.length≤140737488355328) :
  Fn Tryz.prog 13 #[v0,.int .i64 n] M fun v L'=>v.oneCell'=true∧L'=RowT v 29 (fewS n l)::M:=by
 refine Fn.of_ex Tryz.func13 rfl Tryz.ntmps13 rfl ?_
 (refine rn ?_;(repeat (first | intro (g:Nat) | intro (v:Value) | intro (o:O1 _) | intro h)))
 refine Ex.sub (L':=RowT (.slice (some ⟨g,0,none⟩) 0 0) 29 ([]:List Stp)::M) ?_ (Sub.empty (α:=Stp) _ 29 M)
 refine Ex.loop [5,6] (fun z vs L'=>∃ (j:Nat) (vm:Value),j≤l.length∧j≤60∧vm.oneCell'=true∧z=60 - j∧vs=[vm,.int .i64 j]∧L'=RowT vm 29 ((l.take j).map (fitS n))::M) 60 ⟨0,_,by omega,by omega,rfl,rfl,rfl,rfl⟩ ?_
 rintro z vs g1 L1 ⟨j,vm,hj,hj6,om,rfl,rfl,rfl⟩
 refine Ex.keep [0,1,5,6] rG (fun gk=>?_)
 by_cases hlt:j<l.length
 ·by_cases h6:j<60
  ·have hlt2:(l.take (j+1)).map (fitS n)=(l.take j).map (fitS n)++[fitS n (l[j]'hlt)]:=by rw [List.take_succ_eq_append_getElem hlt,List.map_append];rfl
   have hb:=hs (l[j]'hlt) (List.getElem_mem hlt)
   (refine rn ?_;(repeat (first | intro (v:Value) | intro (o:O1 _) | intro h)))
   refine st_callIs [] rJ Tryz.call35 rE rJ (stFit_F (l[j]'hlt) n _ hn hb.1 hb.2) ?_
   rintro _ _ ⟨rfl,rfl⟩
   (refine rn ?_;(repeat (first | intro (v:Value) | intro (o:O1 _) | intro h)))
   refine rnd_n ⟨60 - (j+1),RowT v 29 ((l.take (j+1)).map (fitS n))::M,by omega,?_,j+1,v,by omega,by omega,o,rfl,lcons rfl (lcons (vint rM) rfl),rfl⟩
   rw [hlt2]
   exact rP
  ·obtain rfl:j=60:=by omega
   (refine rn ?_;intros)
   (refine fr ?_)
   exact ⟨_,rP,om,rfl⟩
 ·obtain rfl:j=l.length:=by omega
  (refine rn ?_;intros)
  (refine fr ?_)
  have e:fewS n l=(l.take l.length).map (fitS n):=by unfold fewS;rw [List.take_of_length_le hj6,List.take_length]
  rw [e]
  exact ⟨_,rP,om,rfl⟩
end
end
end Go.Proofs.YtogcfijlhpaeeaaGreat
