/- A region that draws its order: one walk serves every order. No condition. -/
import Derived.Test.YtkcpgdkchglhhaaSepL
namespace Go.Proofs.Ytkcpgdkchglhhaa
open Go.RowKit
set_option linter.unusedSimpArgs false
set_option linter.unusedVariables false
def yieldF (ops : Array Oper) (f : Nat → Value) (j : Nat) : Option Bool := match (ops[j]?).bind (·.dst) with
  | some s => match f s with | .bool b => some b | _ => none
  | none => none
def wantF (ops : Array Oper) (f : Nat → Value) (o : Oper) : Bool := Region.wanted o (yieldF ops f)
theorem Agree.yield {D : List Deferred} {n : Nat} {a : Act} {f : Nat → Value} (h : Agree D n a f) (ops : Array Oper) : yielded ops a.tmps = yieldF ops f := by
  funext j
  unfold yielded yieldF
  cases (ops[j]?).bind (·.dst) with
  | none => rfl
  | some s =>
    have hs := h.2.2 s
    simp only [Option.bind_some]
    rw [← hs]
    by_cases hl : s < a.tmps.size
    · simp [Array.getD, hl]
      cases a.tmps[s] <;> rfl
    · simp [Array.getD, hl, undef]
theorem exec_updo {ops : Array Oper} (f : Nat → Value) (o : Oper) (hs : ∀ cs b, o.op ≠ .select cs b) (dst : Option Nat) (v : Value) (h : ∀ d, dst = some d → d ∉ o.looksAt ops) : execOp (evalF (updo f dst v)) o = execOp (evalF f) o := by
  refine execOp_congr o hs fun x hx => ?_
  cases x with
  | tmp t =>
    cases dst with
    | none => rfl
    | some d =>
      show upd f d v t = f t
      refine upd_other _ _ ?_
      rintro rfl
      exact h t rfl (List.mem_append_left _ (List.mem_filterMap.2 ⟨.tmp t, by simpa using hx, rfl⟩))
  | _ => rfl
theorem want_updo {ops : Array Oper} (f : Nat → Value) (o : Oper) (dst : Option Nat) (v : Value) (h : ∀ d, dst = some d → d ∉ o.looksAt ops) : wantF ops (updo f dst v) o = wantF ops f o := by
  cases dst with
  | none => rfl
  | some d =>
    unfold wantF Region.wanted
    cases hg : o.guard with
    | none => rfl
    | some gw =>
      obtain ⟨g, want⟩ := gw
      simp only
      have : yieldF ops (upd f d v) g = yieldF ops f g := by
        unfold yieldF
        cases hs : (ops[g]?).bind (·.dst) with
        | none => rfl
        | some s =>
          simp only
          rw [upd_other]
          rintro rfl
          exact h s rfl (List.mem_append_right _ (by simp [hg, hs]))
      show (yieldF ops (upd f d v) g == some want) = _
      rw [this]
theorem updo_comm (f : Nat → Value) {x y : Option Nat} (v u : Value) (h : ∀ d, x = some d → y ≠ some d) : updo (updo f x v) y u = updo (updo f y u) x v := by
  cases x with
  | none => rfl
  | some d =>
    cases y with
    | none => rfl
    | some e =>
      have hne : e ≠ d := fun he => h d rfl (he ▸ rfl)
      funext t
      show upd (upd f d v) e u t = upd (upd f e u) d v t
      by_cases h1 : t = e
      · subst h1; rw [upd_self, upd_other _ _ hne, upd_self]
      · by_cases h2 : t = d
        · subst h2; rw [upd_other _ _ h1, upd_self, upd_self]
        · rw [upd_other _ _ h1, upd_other _ _ h2, upd_other _ _ h2, upd_other _ _ h1]
/-- What has L has Lb, and the rest may be kept aside. -/
def Fac (Lb L : List Assn) : Prop := ∀ w F, Sats w L F → ∃ H, Sats w Lb H ∧ ∀ w', Sats w' Lb H → Sats w' L F
theorem Fac.refl (L : List Assn) : Fac L L := fun w F s => ⟨F, s, fun _ s => s⟩
theorem Fac.cons {Lb L : List Assn} (A : Assn) (h : Fac Lb L) : Fac Lb (A :: L) := fun w F ⟨k, a, d, s⟩ =>
  let ⟨H, s1, s2⟩ := h w _ s
  ⟨H, s1, fun w' s' => ⟨k, a, d, s2 w' s'⟩⟩
theorem Fac.nil (L : List Assn) : Fac [] L := by
  induction L with
  | nil => exact Fac.refl []
  | cons A L ih => exact Fac.cons A ih
def Pt (g : Nat) (o : Obj) : Assn := fun h => h = Frag.one g o
section
variable (P : Program) (n : Nat) (ops : Array Oper) (kd : Nat → Nat) (Lb : List Assn)
/-- The operation comes to some value and world of K. -/
def LW (o : Oper) (f : Nat → Value) (w : World) (K : Value → World → Prop) : Prop := match (execOp (evalF f) o).run P w with
  | .ok (.value v) w' => K v w'
  | .ok .skip w' => K undef w'
  | .ok (.enter k args) w' => Calls P k args w' fun e w'' => ∃ v, e = .returned v ∧ K v w''
  | .ok (.row r args) w' => Rows P r args w' K
  | _ => False
def YA (f : Nat → Value) (o : Oper) (obj : Obj) (mk : Nat → Value) : Prop := ∀ w, (execOp (evalF f) o).run P w = .ok (.value (mk w.heap.size)) (w.alloc obj)
def Mix (Z : (Nat → Value) → List Assn → Prop) : List (Nat × Oper) → (Nat → Value) → List Assn → Prop
  | [], f, L => (∃ D F w a, Agree D n a f ∧ Sats w L F) → ∃ L2, Sub L2 L ∧ Z f L2
  | (i, o) :: l, f, L => (∃ D F w a, Agree D n a f ∧ Sats w L F) →
    if wantF ops f o = true then
      if kd i = 0 then ∃ v, Val P o f Lb v ∧ Mix Z l (updo f o.dst v) L
      else if kd i = 1 then ∃ obj mk, YA P f o obj mk ∧ ∀ g, Mix Z l (updo f o.dst (mk g)) (Pt g obj :: L)
      else ∀ F w0 w, Rest w0 w → Sats w L F → LW P o f w fun v w' => ∃ L2, Fac Lb L2 ∧ Rest w0 w' ∧ Sats w' L2 F ∧ Mix Z l (updo f o.dst v) L2
    else Mix Z l (updo f o.dst undef) L
end
section
variable {P : Program} {n : Nat} {ops : Array Oper} {kd : Nat → Nat} {Lb : List Assn}
theorem LW.mono {o : Oper} {f : Nat → Value} {w : World} {K K' : Value → World → Prop} (h : LW P o f w K) (hk : ∀ v w, K v w → K' v w) : LW P o f w K' := by
  unfold LW at *
  split
  · rename_i v w' e; simp only [e] at h; exact hk _ _ h
  · rename_i w' e; simp only [e] at h; exact hk _ _ h
  · rename_i k args w' e; simp only [e] at h; exact h.mono fun e w ⟨v, he, hv⟩ => ⟨v, he, hk _ _ hv⟩
  · rename_i r args w' e; simp only [e] at h; exact h.mono hk
  · split at h
    all_goals first | (rename_i h1 h2 h3 h4 _ _ e; exact absurd e (h1 _ _)) | skip
    all_goals first | exact h.elim | (simp_all)
theorem LW.some {o : Oper} {f : Nat → Value} {w : World} {K : Value → World → Prop} (h : LW P o f w K) : ∃ v w', K v w' := by
  unfold LW at h
  split at h
  · exact ⟨_, _, h⟩
  · exact ⟨_, _, h⟩
  · obtain ⟨e, w', fr, ⟨v, _, hk⟩, _⟩ := h []
    exact ⟨v, w', hk⟩
  · obtain ⟨v, w', hk, _⟩ := h default []
    exact ⟨v, w', hk⟩
  · exact h.elim
theorem LW.congr {o : Oper} {f f' : Nat → Value} (he : execOp (evalF f') o = execOp (evalF f) o) (w : World) (K : Value → World → Prop) : LW P o f' w K = LW P o f w K := by
  unfold LW; rw [he]
theorem Val.unique {f : Nat → Value} {o : Oper} {v v' : Value} {L : List Assn} (h : Val P o f L v) (h' : Val P o f L v') {w : World} {F : Frag} (s : Sats w L F) : v = v' := by
  have h1 := h F w s
  rw [h' F w s] at h1
  cases h1; rfl
theorem Val.congr {f f' : Nat → Value} {o : Oper} {v : Value} {L : List Assn} (he : execOp (evalF f') o = execOp (evalF f) o) : Val P o f' L v ↔ Val P o f L v := by
  unfold Val; rw [he]
theorem YA.congr {f f' : Nat → Value} {o : Oper} {obj : Obj} {mk : Nat → Value} (he : execOp (evalF f') o = execOp (evalF f) o) : YA P f' o obj mk ↔ YA P f o obj mk := by
  unfold YA; rw [he]
theorem YA.unique {f : Nat → Value} {o : Oper} {obj obj' : Obj} {mk mk' : Nat → Value} (h : YA P f o obj mk) (h' : YA P f o obj' mk') (w : World) : obj = obj' ∧ mk w.heap.size = mk' w.heap.size := by
  have h1 := h w
  rw [h' w] at h1
  simp only [Result.ok.injEq, Next.value.injEq] at h1
  refine ⟨?_, h1.1.symm⟩
  have h2 := congrArg (fun x : World => x.heap[w.heap.size]?) h1.2
  simp only [heap_alloc_new] at h2
  cases h2; rfl
theorem world_of_size (w : World) (g : Nat) : ∃ w' : World, w'.heap.size = g := ⟨{ w with heap := Array.replicate g default }, by simp⟩
theorem YA.unique' {f : Nat → Value} {o : Oper} {obj obj' : Obj} {mk mk' : Nat → Value} (h : YA P f o obj mk) (h' : YA P f o obj' mk') (g : Nat) : obj = obj' ∧ mk g = mk' g := by
  obtain ⟨w, rfl⟩ := world_of_size default g
  exact YA.unique h h' w
variable {Z : (Nat → Value) → List Assn → Prop}
theorem Mix.sub : ∀ {l : List (Nat × Oper)} {f : Nat → Value} {L1 L2 : List Assn}, Sub L2 L1 → Mix P n ops kd Lb Z l f L2 → Mix P n ops kd Lb Z l f L1
  | [], f, L1, L2, hs, h => fun ⟨D, F, w, a, ag, s⟩ => let ⟨L3, h1, h2⟩ := h ⟨D, F, w, a, ag, hs w F s⟩; ⟨L3, Sub.trans h1 hs, h2⟩
  | (i, o) :: l, f, L1, L2, hs, h => by
    rintro ⟨D, F, w, a, ag, s⟩
    have hb := h ⟨D, F, w, a, ag, hs w F s⟩
    split
    · rename_i hw
      rw [if_pos hw] at hb
      split
      · rename_i hk; rw [if_pos hk] at hb
        obtain ⟨v, hv, hm⟩ := hb
        exact ⟨v, hv, Mix.sub hs hm⟩
      · rename_i hk; rw [if_neg hk] at hb
        split
        · rename_i hk2; rw [if_pos hk2] at hb
          obtain ⟨obj, mk, hv, hm⟩ := hb
          exact ⟨obj, mk, hv, fun g => Mix.sub (Sub.cons _ hs) (hm g)⟩
        · rename_i hk2; rw [if_neg hk2] at hb
          exact fun F w0 w r s => hb F w0 w r (hs w F s)
    · rename_i hw
      rw [if_neg hw] at hb
      exact Mix.sub hs hb
theorem Mix.tail {x : Nat × Oper} {l l' : List (Nat × Oper)} (hl : ∀ f L, Fac Lb L → Mix P n ops kd Lb Z l f L → Mix P n ops kd Lb Z l' f L) {f : Nat → Value} {L : List Assn} (hf : Fac Lb L) (h : Mix P n ops kd Lb Z (x :: l) f L) : Mix P n ops kd Lb Z (x :: l') f L := by
  obtain ⟨i, o⟩ := x
  intro W
  have hb := h W
  split
  · rename_i hw
    rw [if_pos hw] at hb
    split
    · rename_i hk; rw [if_pos hk] at hb
      obtain ⟨v, hv, hm⟩ := hb
      exact ⟨v, hv, hl _ _ hf hm⟩
    · rename_i hk; rw [if_neg hk] at hb
      split
      · rename_i hk2; rw [if_pos hk2] at hb
        obtain ⟨obj, mk, hv, hm⟩ := hb
        exact ⟨obj, mk, hv, fun g => hl _ _ (Fac.cons _ hf) (hm g)⟩
      · rename_i hk2; rw [if_neg hk2] at hb
        exact fun F w0 w r s => (hb F w0 w r s).mono fun v w' ⟨L2, h1, h2, h3, h4⟩ => ⟨L2, h1, h2, h3, hl _ _ h1 h4⟩
  · rename_i hw
    rw [if_neg hw] at hb
    exact hl _ _ hf hb
theorem Mix.wit : ∀ {l : List (Nat × Oper)} {f : Nat → Value} {L : List Assn}, ((∃ D F w a, Agree D n a f ∧ Sats w L F) → Mix P n ops kd Lb Z l f L) → Mix P n ops kd Lb Z l f L
  | [], _, _, h => fun W => h W W
  | (_, _) :: _, _, _, h => fun W => h W W
theorem agree_updo {D : List Deferred} {a : Act} {f : Nat → Value} (ag : Agree D n a f) {d : Option Nat} (hd : dstOk n d = true) (v : Value) : ∃ a', Agree D n a' (updo f d v) := ⟨_, ag.puto hd v⟩
/-- Two that may change places. -/
theorem Mix.swap {k i : Nat} {p o : Oper} {l : List (Nat × Oper)} (hsp : ∀ cs b, p.op ≠ .select cs b) (hso : ∀ cs b, o.op ≠ .select cs b) (hap : p.apart ops o = true) (hdp : dstOk n p.dst = true) (hdo : dstOk n o.dst = true)
    (hkk : kd i = 0 ∨ kd k = 0 ∨ kd i = 1) {f : Nat → Value} {L : List Assn} (hf : Fac Lb L) (h : Mix P n ops kd Lb Z ((k, p) :: (i, o) :: l) f L) : Mix P n ops kd Lb Z ((i, o) :: (k, p) :: l) f L := by
  obtain ⟨a1, a2, a3⟩ := Oper.apart_spec hap
  have ep : ∀ f v, execOp (evalF (updo f o.dst v)) p = execOp (evalF f) p := fun f v => exec_updo f p hsp o.dst v a3
  have eo : ∀ f v, execOp (evalF (updo f p.dst v)) o = execOp (evalF f) o := fun f v => exec_updo f o hso p.dst v a1
  have wp : ∀ f v, wantF ops (updo f o.dst v) p = wantF ops f p := fun f v => want_updo f p o.dst v a3
  have wo : ∀ f v, wantF ops (updo f p.dst v) o = wantF ops f o := fun f v => want_updo f o p.dst v a1
  have cm : ∀ f v u, updo (updo f p.dst v) o.dst u = updo (updo f o.dst u) p.dst v := fun f v u => updo_comm f v u a2
  rintro ⟨D, F, w, a, ag, s⟩
  have hb := h ⟨D, F, w, a, ag, s⟩
  obtain ⟨H, sH, _⟩ := hf w F s
  by_cases hwp : wantF ops f p = true
  case neg =>
    rw [if_neg hwp] at hb
    obtain ⟨a', ag'⟩ := agree_updo ag hdp undef
    have hb2 := hb ⟨D, F, w, a', ag', s⟩
    rw [wo] at hb2
    have skip : ∀ u L, Mix P n ops kd Lb Z l (updo (updo f p.dst undef) o.dst u) L → Mix P n ops kd Lb Z ((k, p) :: l) (updo f o.dst u) L := fun u L hm _ => by
      rw [wp, if_neg hwp, ← cm]; exact hm
    split
    · rename_i hw
      rw [if_pos hw] at hb2
      split
      · rename_i hk; rw [if_pos hk] at hb2
        obtain ⟨v, hv, hm⟩ := hb2
        exact ⟨v, (Val.congr (eo _ _)).1 hv, skip _ _ hm⟩
      · rename_i hk; rw [if_neg hk] at hb2
        split
        · rename_i hk2; rw [if_pos hk2] at hb2
          obtain ⟨obj, mk, hv, hm⟩ := hb2
          exact ⟨obj, mk, (YA.congr (eo _ _)).1 hv, fun g => skip _ _ (hm g)⟩
        · rename_i hk2; rw [if_neg hk2] at hb2
          intro F' w0 w' r s'
          have := hb2 F' w0 w' r s'
          rw [LW.congr (eo _ _)] at this
          exact this.mono fun v w' ⟨L2, h1, h2, h3, h4⟩ => ⟨L2, h1, h2, h3, skip _ _ h4⟩
    · rename_i hw
      rw [if_neg hw] at hb2
      exact skip _ _ hb2
  case pos =>
    rw [if_pos hwp] at hb
    by_cases k0 : kd k = 0
    · -- p only reads
      rw [if_pos k0] at hb
      obtain ⟨vp, hvp, hb⟩ := hb
      obtain ⟨a', ag'⟩ := agree_updo ag hdp vp
      have hb2 := hb ⟨D, F, w, a', ag', s⟩
      rw [wo] at hb2
      have skip : ∀ u L, Mix P n ops kd Lb Z l (updo (updo f p.dst vp) o.dst u) L → Mix P n ops kd Lb Z ((k, p) :: l) (updo f o.dst u) L := fun u L hm _ => by
        rw [wp, if_pos hwp, if_pos k0]
        exact ⟨vp, (Val.congr (ep _ _)).2 hvp, by rw [← cm]; exact hm⟩
      split
      · rename_i hw
        rw [if_pos hw] at hb2
        split
        · rename_i hk; rw [if_pos hk] at hb2
          obtain ⟨v, hv, hm⟩ := hb2
          exact ⟨v, (Val.congr (eo _ _)).1 hv, skip _ _ hm⟩
        · rename_i hk; rw [if_neg hk] at hb2
          split
          · rename_i hk2; rw [if_pos hk2] at hb2
            obtain ⟨obj, mk, hv, hm⟩ := hb2
            exact ⟨obj, mk, (YA.congr (eo _ _)).1 hv, fun g => skip _ _ (hm g)⟩
          · rename_i hk2; rw [if_neg hk2] at hb2
            intro F' w0 w' r s'
            have := hb2 F' w0 w' r s'
            rw [LW.congr (eo _ _)] at this
            exact this.mono fun v w' ⟨L2, h1, h2, h3, h4⟩ => ⟨L2, h1, h2, h3, skip _ _ h4⟩
      · rename_i hw
        rw [if_neg hw] at hb2
        exact skip _ _ hb2
    · rw [if_neg k0] at hb
      by_cases k1 : kd k = 1
      · -- p makes a block
        rw [if_pos k1] at hb
        obtain ⟨op, mp, hvp, hb⟩ := hb
        have get : ∀ (F : Frag) (w : World), Sats w L F → Sats (w.alloc op) (Pt w.heap.size op :: L) F := fun F w s => Sats.alloc op s rfl
        obtain ⟨a', ag'⟩ := agree_updo ag hdp (mp w.heap.size)
        have hb2 := hb w.heap.size ⟨D, F, w.alloc op, a', ag', get F w s⟩
        rw [wo] at hb2
        split
        · rename_i hw
          rw [if_pos hw] at hb2
          split
          · rename_i hk; rw [if_pos hk] at hb2
            obtain ⟨v, hv, _⟩ := hb2
            have hv' := (Val.congr (eo _ _)).1 hv
            refine ⟨v, hv', fun W => ?_⟩
            rw [wp, if_pos hwp, if_neg k0, if_pos k1]
            refine ⟨op, mp, (YA.congr (ep _ _)).2 hvp, fun g => Mix.wit ?_⟩
            rintro ⟨D', F', w', a2, ag2, s'⟩
            obtain ⟨a3, ag3⟩ := agree_updo ag hdp (mp g)
            have hb3 := hb g ⟨D, F', w', a3, ag3, s'⟩
            rw [wo, if_pos hw, if_pos hk] at hb3
            obtain ⟨v2, hv2, hm⟩ := hb3
            obtain ⟨H', sH', _⟩ := (Fac.cons (Pt g op) hf) w' F' s'
            rw [← cm, Val.unique hv' ((Val.congr (eo _ _)).1 hv2) sH']
            exact hm
          · rename_i hk; rw [if_neg hk] at hb2
            have hk2 : kd i = 1 := by rcases hkk with x | x | x <;> first | exact absurd x hk | exact absurd x k0 | exact x
            rw [if_pos hk2] at hb2
            rw [if_pos hk2]
            obtain ⟨oo, mo, hvo, _⟩ := hb2
            have hvo' := (YA.congr (eo _ _)).1 hvo
            refine ⟨oo, mo, hvo', fun g2 => ?_⟩
            intro W
            rw [wp, if_pos hwp, if_neg k0, if_pos k1]
            refine ⟨op, mp, (YA.congr (ep _ _)).2 hvp, fun g => Mix.wit ?_⟩
            rintro ⟨D', F', w', a2, ag2, s'⟩
            obtain ⟨a3, ag3⟩ := agree_updo ag hdp (mp g)
            have hb3 := hb g ⟨D, F', w', a3, ag3, (Sub.cons _ (Sub.drop _ (Sub.refl L))) w' F' s'⟩
            rw [wo, if_pos hw, if_neg hk, if_pos hk2] at hb3
            obtain ⟨o3, m3, hv3, hm⟩ := hb3
            obtain ⟨e1, e2⟩ := YA.unique' hvo' ((YA.congr (eo _ _)).1 hv3) g2
            rw [← cm, e1, e2]
            exact Mix.sub (Sub.front 1 rfl) (hm g2)
        · rename_i hw
          rw [if_neg hw] at hb2
          intro W
          rw [wp, if_pos hwp, if_neg k0, if_pos k1]
          refine ⟨op, mp, (YA.congr (ep _ _)).2 hvp, fun g => Mix.wit ?_⟩
          rintro ⟨D', F', w', a2, ag2, s'⟩
          obtain ⟨a3, ag3⟩ := agree_updo ag hdp (mp g)
          have hb3 := hb g ⟨D, F', w', a3, ag3, s'⟩
          rw [wo, if_neg hw] at hb3
          rw [← cm]
          exact hb3
      · -- p acts
        rw [if_neg k1] at hb
        obtain ⟨u1, w1, L1, hf1, hr1, s1, hm1⟩ := (hb F w w (Rest.refl w) s).some
        obtain ⟨a', ag'⟩ := agree_updo ag hdp u1
        have hb2 := hm1 ⟨D, F, w1, a', ag', s1⟩
        rw [wo] at hb2
        split
        · rename_i hw
          rw [if_pos hw] at hb2
          split
          · rename_i hk; rw [if_pos hk] at hb2
            obtain ⟨v, hv, _⟩ := hb2
            have hv' := (Val.congr (eo _ _)).1 hv
            refine ⟨v, hv', fun W => ?_⟩
            rw [wp, if_pos hwp, if_neg k0, if_neg k1]
            intro F' w0' w' r' s'
            rw [LW.congr (ep _ _)]
            refine (hb F' w0' w' r' s').mono fun u w2 ⟨L2, h1, h2, h3, h4⟩ => ⟨L2, h1, h2, h3, Mix.wit ?_⟩
            rintro ⟨D', F2, w3, a2, ag2, s2⟩
            obtain ⟨a3, ag3⟩ := agree_updo ag hdp u
            have hb3 := h4 ⟨D, F2, w3, a3, ag3, s2⟩
            rw [wo, if_pos hw, if_pos hk] at hb3
            obtain ⟨v2, hv2, hm⟩ := hb3
            obtain ⟨H', sH', _⟩ := h1 w3 F2 s2
            rw [← cm, Val.unique hv' ((Val.congr (eo _ _)).1 hv2) sH']
            exact hm
          · rename_i hk; rw [if_neg hk] at hb2
            have hk2 : kd i = 1 := by rcases hkk with x | x | x <;> first | exact absurd x hk | exact absurd x k0 | exact x
            rw [if_pos hk2] at hb2
            rw [if_pos hk2]
            obtain ⟨oo, mo, hvo, _⟩ := hb2
            have hvo' := (YA.congr (eo _ _)).1 hvo
            refine ⟨oo, mo, hvo', fun g2 => ?_⟩
            intro W
            rw [wp, if_pos hwp, if_neg k0, if_neg k1]
            rintro F' w0' w' r' ⟨x, hx, dx, s'⟩
            rw [LW.congr (ep _ _)]
            refine (hb _ w0' w' r' s').mono fun u w2 ⟨L2, h1, h2, h3, h4⟩ => ⟨Pt g2 oo :: L2, Fac.cons _ h1, h2, ⟨x, hx, dx, h3⟩, Mix.wit ?_⟩
            rintro ⟨D', F2, w3, a2, ag2, s2⟩
            obtain ⟨a3, ag3⟩ := agree_updo ag hdp u
            have hb3 := h4 ⟨D, F2, w3, a3, ag3, (Sub.drop _ (Sub.refl L2)) w3 F2 s2⟩
            rw [wo, if_pos hw, if_neg hk, if_pos hk2] at hb3
            obtain ⟨o3, m3, hv3, hm⟩ := hb3
            obtain ⟨e1, e2⟩ := YA.unique' hvo' ((YA.congr (eo _ _)).1 hv3) g2
            rw [← cm, e1, e2]
            exact hm g2
        · rename_i hw
          rw [if_neg hw] at hb2
          intro W
          rw [wp, if_pos hwp, if_neg k0, if_neg k1]
          intro F' w0' w' r' s'
          rw [LW.congr (ep _ _)]
          refine (hb F' w0' w' r' s').mono fun u w2 ⟨L2, h1, h2, h3, h4⟩ => ⟨L2, h1, h2, h3, Mix.wit ?_⟩
          rintro ⟨D', F2, w3, a2, ag2, s2⟩
          obtain ⟨a3, ag3⟩ := agree_updo ag hdp u
          have hb3 := h4 ⟨D, F2, w3, a3, ag3, s2⟩
          rw [wo, if_neg hw] at hb3
          rw [← cm]
          exact hb3
end
end Go.Proofs.Ytkcpgdkchglhhaa
