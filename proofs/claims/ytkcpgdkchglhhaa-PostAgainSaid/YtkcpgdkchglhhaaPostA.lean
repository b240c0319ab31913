/- Package post: its contracts in plain words. No condition. -/
import Derived.Test.YtkcpgdkchglhhaaPost5
namespace Go.Proofs.Ytkcpgdkchglhhaa
open Go.RowKit
set_option linter.unusedSimpArgs false
set_option linter.unusedVariables false
/-- A post that is owned: how it stands in plain words. -/
def PoA (g : Nat) (most : Int) (st : PSt) : Assn := fun h => ∃ (vs vt : Value) (ss : List Sh), ss.map Sh.sf = st.sf ∧ Star [Po g vs vt, Ptrs vs ss, Told vt st.told, Shs most ss] h
theorem star4 (A B C D : Assn) (L : List Assn) : Sub (A :: B :: C :: D :: L) (Star [A, B, C, D] :: L) :=
  Sub.trans (Sub.cons A (Sub.trans (Sub.cons B (Sub.trans (Sub.cons C (Sub.trans (Sub.cons D (Sub.drop _ (Sub.refl L))) (Star.open1 (A := D) (As := []) L))) (Star.open1 (A := C) (As := [D]) L))) (Star.open1 (A := B) (As := [C, D]) L))) (Star.open1 (A := A) (As := [B, C, D]) L)
theorem star4c (A B C D : Assn) (L : List Assn) : Sub (Star [A, B, C, D] :: L) (A :: B :: C :: D :: L) :=
  Sub.trans (Star.close1 (A := A) (As := [B, C, D]) L) (Sub.cons A (Sub.trans (Star.close1 (A := B) (As := [C, D]) L) (Sub.cons B (Sub.trans (Star.close1 (A := C) (As := [D]) L) (Sub.cons C (Sub.trans (Star.close1 (A := D) (As := []) L) (Sub.cons D (Star.nil L))))))))
theorem PoA.cls {g : Nat} {most : Int} {st : PSt} {vs vt : Value} {ss : List Sh} (h : ss.map Sh.sf = st.sf) (M : List Assn) : Sub (PoA g most st :: M) (Po g vs vt :: Ptrs vs ss :: Told vt st.told :: Shs most ss :: M) :=
  Sub.trans (Sub.cons' (fun x a => ⟨vs, vt, ss, h, a⟩) (Sub.refl M)) (star4c _ _ _ _ M)
theorem PoA.fn {P : Program} {k : FuncId} {args : Array Value} {g : Nat} {most : Int} {st : PSt} {M : List Assn} {R : Value → List Assn → Prop} (h : ∀ vs vt ss, ss.map Sh.sf = st.sf → Fn P k args (Po g vs vt :: Ptrs vs ss :: Told vt st.told :: Shs most ss :: M) R) : Fn P k args (PoA g most st :: M) R := fun F w0 w r ⟨x, ⟨vs, vt, ss, hs, a⟩, d, s⟩ =>
  h vs vt ss hs F w0 w r (star4 _ _ _ _ M w F ⟨x, a, d, s⟩)
/-- A result, with what is owned seen otherwise. -/
theorem Fn.res {P : Program} {k : FuncId} {args : Array Value} {L : List Assn} {R R' : Value → List Assn → Prop} (h : Fn P k args L R) (hr : ∀ v L', R v L' → ∃ L2, Sub L2 L' ∧ R' v L2) : Fn P k args L R' := fun F w0 w r s =>
  (h F w0 w r s).mono fun e w' ⟨v, L', he, hr', hs, hR⟩ => let ⟨L2, h1, h2⟩ := hr v L' hR; ⟨v, L2, he, hr', h1 w' F hs, h2⟩
structure PSt.Ok (B : Nat) (st : PSt) : Prop where
  n : st.sf.length ≤ 5
  t : st.told.length = st.sf.length
  s : ∀ x ∈ st.sf, x.Ok ∧ x.all.length ≤ B
theorem PSt.Ok.ss {B : Nat} {st : PSt} (h : st.Ok B) {ss : List Sh} (hs : ss.map Sh.sf = st.sf) : ss.length = st.sf.length ∧ ∀ x ∈ ss, x.sf.Ok ∧ x.sf.all.length ≤ B := by
  refine ⟨by rw [← hs, List.length_map], fun x hx => h.s _ ?_⟩
  rw [← hs]
  exact List.mem_map_of_mem hx
theorem sf_get {ss : List Sh} {st : PSt} (hs : ss.map Sh.sf = st.sf) {i : Nat} (h : i < ss.length) : st.sf.getD i Sf.none = (ss[i]'h).sf := by
  rw [← hs]
  simp [List.getD_eq_getElem?_getD, h]
theorem sh_get {ss : List Sh} {i : Nat} (h : i < ss.length) : ss.getD i Sh.zero = ss[i]'h := by
  simp [List.getD_eq_getElem?_getD, h]
theorem post_SiteA (g : Nat) (most : Int) (st : PSt) (M : List Assn) (hok : st.Ok 1000000) : Fn Try.prog 13 #[.pointer (some ⟨g, 0, none⟩)] (PoA g most st :: M) fun v L' => v = .agg (Rep.cells st.site).toArray ∧ L' = PoA g most st :: M := by
  refine PoA.fn fun vs vt ss hs => ?_
  obtain ⟨hl, hx⟩ := hok.ss hs
  refine (post_Site g vs vt most ss st.told M (by rw [hl]; exact hok.n) (by rw [hl]; exact hok.t) (fun x h => ⟨(hx x h).1, by have := (hx x h).2; omega⟩)).res ?_
  rintro v L' ⟨rfl, rfl⟩
  refine ⟨_, PoA.cls hs M, ?_, rfl⟩
  have e1 : clkOf (eachF (fun s => (s.cut : Int)) ss ss.length) = clkOf st.baseF := clkOf_congr fun i hi => by
    unfold eachF PSt.baseF
    rw [hl]
    by_cases h : i < st.sf.length
    · rw [if_pos h, if_pos h, sh_get (by omega), sf_get hs (by omega)]
    · rw [if_neg h, if_neg h]
  have e2 : clkOf (eachF (fun s => (s.all.length : Int)) ss ss.length) = clkOf st.lenF := clkOf_congr fun i hi => by
    unfold eachF PSt.lenF
    rw [hl]
    by_cases h : i < st.sf.length
    · rw [if_pos h, if_pos h, sh_get (by omega), sf_get hs (by omega)]
    · rw [if_neg h, if_neg h]
  rw [e1, e2]
  rfl
theorem fetN_get {ss : List Sh} {st : PSt} (hs : ss.map Sh.sf = st.sf) (r : Int) (c : Clk) : ∀ k, k ≤ ss.length → fetN ss r c k = st.getN r c k
  | 0, _ => rfl
  | k + 1, hk => by
    simp only [fetN, PSt.getN]
    rw [fetN_get hs r c k (by omega), sh_get (by omega), sf_get hs (by omega)]
theorem post_FetchA (g : Nat) (most : Int) (st : PSt) (r : Int) (c : Clk) (M : List Assn) (hok : st.Ok 1000000) : Fn Try.prog 19 #[.pointer (some ⟨g, 0, none⟩), .int .i64 r, .agg (Rep.cells c).toArray] (PoA g most st :: M)
    fun v L' => ∃ u : Value, u.oneCell' = true ∧ v = .tuple #[u, .int .i64 (st.fetch r c).2] ∧ L' = Evs_ u (st.fetch r c).1 :: PoA g most st :: M := by
  refine PoA.fn fun vs vt ss hs => ?_
  obtain ⟨hl, hx⟩ := hok.ss hs
  refine (post_Fetch g vs vt most ss st.told r c M (by rw [hl]; exact hok.n) (fun x h => by have := (hx x h).2; omega)).res ?_
  rintro v L' ⟨u, ou, rfl, rfl⟩
  have he : st.fetch r c = (if 0 ≤ r ∧ r < ss.length then fetN ss r c ss.length else [], if 0 ≤ r ∧ r < ss.length then 0 else 23) := by
    unfold PSt.fetch PSt.has
    rw [hl]
    by_cases h : 0 ≤ r ∧ r < st.sf.length
    · rw [if_neg (fun k => k h), if_pos h, if_pos h, ← hl, fetN_get hs r c _ (Nat.le_refl _)]
    · rw [if_pos h, if_neg h, if_neg h]
  rw [he]
  exact ⟨_, Sub.cons _ (PoA.cls hs M), u, ou, rfl, rfl⟩
theorem PSt.cutN_get (told : List Clk) (sf : List Sf) : ∀ (k i : Nat) (h : i < sf.length), k ≤ sf.length → ((⟨told, sf⟩ : PSt).cutN k).sf[i]'(by rw [PSt.cutN_len]; exact h) = if i < k then (sf[i]'h).to (leastR told i) else sf[i]'h
  | 0, i, h, _ => by simp [PSt.cutN]
  | k + 1, i, h, hk => by
    have ih := PSt.cutN_get told sf k i h (by omega)
    have e : ((⟨told, sf⟩ : PSt).cutN (k + 1)).sf = ((⟨told, sf⟩ : PSt).cutN k).sf.set k ((((⟨told, sf⟩ : PSt).cutN k).sf.getD k Sf.none).to (leastR told k)) := by
      show ((⟨told, sf⟩ : PSt).cutN k).sf.set k ((((⟨told, sf⟩ : PSt).cutN k).sf.getD k Sf.none).to (leastR ((⟨told, sf⟩ : PSt).cutN k).told k)) = _
      rw [PSt.cutN_told]
    have hkl : k < ((⟨told, sf⟩ : PSt).cutN k).sf.length := by rw [PSt.cutN_len]; exact hk
    simp only [e, List.getElem_set]
    by_cases h1 : k = i
    · subst h1
      rw [if_pos rfl, if_pos (by omega)]
      have h2 := PSt.cutN_get told sf k k h (by omega)
      rw [if_neg (by omega)] at h2
      rw [show ((⟨told, sf⟩ : PSt).cutN k).sf.getD k Sf.none = ((⟨told, sf⟩ : PSt).cutN k).sf[k]'hkl by simp [List.getD_eq_getElem?_getD, hkl], h2]
    · rw [if_neg h1, ih]
      by_cases h2 : i < k
      · rw [if_pos h2, if_pos (by omega)]
      · rw [if_neg h2, if_neg (by omega)]
theorem cut_all {ss ss2 : List Sh} {told : List Clk} {sf : List Sf} (hs : ss.map Sh.sf = sf) (h : cutSh ss told ss.length ss2) : ss2.map Sh.sf = ((⟨told, sf⟩ : PSt).cutN sf.length).sf := by
  have hl : sf.length = ss.length := by rw [← hs, List.length_map]
  refine List.ext_getElem (by rw [List.length_map, PSt.cutN_len, h.1]; exact hl.symm) fun i h1 h2 => ?_
  rw [PSt.cutN_len] at h2
  have h2 : i < sf.length := h2
  rw [PSt.cutN_get told sf sf.length i h2 (Nat.le_refl _), if_pos h2, List.getElem_map, (h.2 i (by omega) (by rw [h.1]; omega)).2, if_pos (by omega)]
  subst hs
  rw [List.getElem_map]
theorem post_AckA (g : Nat) (most : Int) (st : PSt) (r : Int) (c : Clk) (M : List Assn) (hok : st.Ok 1000000) : Fn Try.prog 17 #[.pointer (some ⟨g, 0, none⟩), .int .i64 r, .agg (Rep.cells c).toArray] (PoA g most st :: M)
    fun v L' => v = .int .i64 (st.ack r c).1 ∧ L' = PoA g most (st.ack r c).2 :: M := by
  refine PoA.fn fun vs vt ss hs => ?_
  obtain ⟨hl, hx⟩ := hok.ss hs
  refine (post_Ack g vs vt most ss st.told r c M (by rw [hl]; exact hok.n) (by rw [hl]; exact hok.t) (fun x h => ⟨(hx x h).1, by have := (hx x h).2; omega⟩)).res ?_
  rintro v L' (⟨hr, rfl, rfl⟩ | ⟨hr, rfl, ss2, hC, rfl⟩)
  · have hst : ¬ st.has r := by unfold PSt.has; rw [← hl]; exact hr
    have he : st.ack r c = (23, st) := by unfold PSt.ack; rw [if_pos hst]
    rw [he]
    exact ⟨_, PoA.cls hs M, rfl, rfl⟩
  · have he : st.ack r c = (0, (⟨st.told.set r.toNat ((st.told.getD r.toNat Clk.zero).join c), st.sf⟩ : PSt).cutN st.sf.length) := by
      have hst : st.has r := by unfold PSt.has; rw [← hl]; exact hr
      unfold PSt.ack; rw [if_neg (fun k => k hst)]
    rw [he]
    have ht := PSt.cutN_told (⟨st.told.set r.toNat ((st.told.getD r.toNat Clk.zero).join c), st.sf⟩ : PSt) st.sf.length
    have h2 := PoA.cls (g := g) (most := most) (vs := vs) (vt := vt) (cut_all hs hC) M
    rw [ht] at h2
    exact ⟨_, h2, rfl, rfl⟩
theorem post_PushA (g : Nat) (most : Int) (st : PSt) (r : Int) (u : Value) (l : List Ev) (M : List Assn) (hok : st.Ok 1000000) (hu : RdT M u l) (hll : l.length ≤ 1000000) (hI : ∀ e ∈ l, I64 e.n) : Fn Try.prog 15 #[.pointer (some ⟨g, 0, none⟩), .int .i64 r, u] (PoA g most st :: M)
    fun v L' => v = .tuple #[.int .i64 (st.push most r l).1, .int .i64 (st.push most r l).2.1] ∧ L' = PoA g most (st.push most r l).2.2 :: M := by
  refine PoA.fn fun vs vt ss hs => ?_
  obtain ⟨hl, hx⟩ := hok.ss hs
  refine (post_Push g vs vt u most ss st.told r l M (by rw [hl]; exact hok.n) (by rw [hl]; exact hok.t) (fun x h => ⟨(hx x h).1, by have := (hx x h).2; omega⟩) hu (by omega) hI).res ?_
  have hbad : badPush ss.length r l ↔ (¬ st.has r ∨ ∃ e ∈ l, e.r ≠ r) := by unfold badPush PSt.has; rw [hl]
  rintro v L' (⟨hb, rfl, rfl⟩ | ⟨hb, hn, x, hxg, rfl, hcase⟩)
  · have he : st.push most r l = (0, 23, st) := by unfold PSt.push; rw [if_pos (hbad.1 hb)]
    rw [he]
    exact ⟨_, PoA.cls hs M, rfl, rfl⟩
  · have hg := sf_get hs hn
    have hset : ∀ y : Sf, x.sf = y → (ss.set r.toNat x).map Sh.sf = st.sf.set r.toNat y := fun y hy => by rw [List.map_set, hs, hy]
    rcases hcase with ⟨hp, rfl, hxf⟩ | ⟨hp, rfl, hxf⟩
    · have he : st.push most r l = (0, (pushR most (ss[r.toNat]'hn).sf l).1, st) := by
        unfold PSt.push
        rw [if_neg (fun k => hb (hbad.2 k)), hg]
        exact if_pos hp
      rw [he]
      have h2 := hset _ hxf
      have h3 : st.sf.set r.toNat (ss[r.toNat]'hn).sf = st.sf := by
        rw [← hs, ← List.getElem_map (f := Sh.sf) (h := by simpa using hn)]
        exact List.set_getElem_self _
      rw [h3] at h2
      exact ⟨_, PoA.cls h2 M, rfl, rfl⟩
    · have hrl : r.toNat < st.sf.length := by rw [← hl]; exact hn
      have he : st.push most r l = (((x.sf.all.length : Nat) : Int), (0 : Int), (⟨st.told, st.sf.set r.toNat x.sf⟩ : PSt)) := by
        unfold PSt.push
        rw [if_neg (fun k => hb (hbad.2 k)), hg]
        refine (if_neg (fun k => k hp)).trans ?_
        simp only [Sf.put]
        have e1 : x.sf.all = (ss[r.toNat]'hn).sf.all ++ (pushR most (ss[r.toNat]'hn).sf l).2 := by rw [hxf]; rfl
        rw [e1]
        simp only [PSt.cutAt, List.set_set]
        have e2 : (st.sf.set r.toNat (⟨(ss[r.toNat]'hn).sf.all ++ (pushR most (ss[r.toNat]'hn).sf l).2, (ss[r.toNat]'hn).sf.cut⟩ : Sf)).getD r.toNat Sf.none = ⟨(ss[r.toNat]'hn).sf.all ++ (pushR most (ss[r.toNat]'hn).sf l).2, (ss[r.toNat]'hn).sf.cut⟩ := by
          simp [List.getD_eq_getElem?_getD, hrl]
        rw [e2, ← hxf]
      rw [he]
      have h2 := PoA.cls (g := g) (most := most) (st := ⟨st.told, st.sf.set r.toNat x.sf⟩) (vs := vs) (vt := vt) (hset _ rfl) M
      exact ⟨_, h2, rfl, rfl⟩
theorem post_NewA (c : Cfg) (M : List Assn) : Fn Try.prog 10 #[.agg (Rep.cells c).toArray] M
    fun v L' => ∃ g : Nat, v = .pointer (some ⟨g, 0, none⟩) ∧ L' = PoA g c.w ⟨List.replicate (min (max c.n 0) 5).toNat Clk.zero, List.replicate (min (max c.n 0) 5).toNat Sf.none⟩ :: M := by
  refine (post_New c M).res ?_
  rintro v L' ⟨g, vs, vt, ss, rfl, ovs, hsl, hss, rfl⟩
  have h : ss.map Sh.sf = List.replicate (min (max c.n 0) 5).toNat Sf.none := by
    rw [← hsl]
    refine List.ext_getElem (by simp) fun i h1 h2 => ?_
    rw [List.getElem_map, List.getElem_replicate]
    exact hss _ (List.getElem_mem _)
  exact ⟨_, PoA.cls (st := ⟨List.replicate (min (max c.n 0) 5).toNat Clk.zero, List.replicate (min (max c.n 0) 5).toNat Sf.none⟩) h M, g, rfl, rfl⟩
end Go.Proofs.Ytkcpgdkchglhhaa
