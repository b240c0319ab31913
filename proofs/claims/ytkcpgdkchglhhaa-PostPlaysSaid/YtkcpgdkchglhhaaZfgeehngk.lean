/- Several texts, one behind the other; each says in its head what it proves. No condition. -/
import Derived.Test.YtkcpgdkchglhhaaZgeknhhji
import Derived.Test.YtkcpgdkchglhhaaZhjkknebi
import Derived.Test.YtkcpgdkchglhhaaZldjckhlk
import Derived.Test.YtkcpgdkchglhhaaZpdemmjlf
/- Package post: its contracts in plain words. No condition. -/
namespace Go.Proofs.Ytkcpgdkchglhhaa
open Go.RowKit
set_option linter.unusedSimpArgs false
set_option linter.unusedVariables false
/-- A post that is owned: how it stands in plain words. -/
def PoA (g : Nat) (most : Int) (st : PSt) : Assn := fun h => ∃ (vs vt : Value) (ss : List Sh), ss.map Sh.sf = st.sf ∧ Star [Po g vs vt, Ptrs vs ss, Told vt st.told, Shs most ss] h
theorem star4 (A B C D : Assn) (L : List Assn) : Sub (A :: B :: C :: D :: L) (Star [A, B, C, D] :: L) :=
  Sub.trans (Sub.cons A (Sub.trans (Sub.cons B (Sub.trans (Sub.cons C (Sub.trans (Sub.cons D (Sub.drop _ (Sub.refl L))) (Star.open1 (A := D) (As := []) L))) (Star.open1 (A := C) (As := [D]) L))) (Star.open1 (A := B) (As := [C, D]) L))) (Star.open1 (A := A) (As := [B, C, D]) L)
theorem star4c (A B C D : Assn) (L : List Assn) : Sub (Star [A, B, C, D] :: L) (A :: B :: C :: D :: L) :=
  Sub.trans (Star.close1 (A := A) (As := [B, C, D]) L) (Sub.cons A (Sub.trans (Star.close1 (A := B) (As := [C, D]) L) (Sub.cons B (Sub.trans (Star.close1 (A := C) (As := [D]) L) (Sub.cons C (Sub.trans (Star.close1 (A := D) (As := []) L) (Sub.cons D (Star.nil L))))))))
theorem PoA.cls {g : Nat} {most : Int} {st : PSt} {vs vt : Value} {ss : List Sh} (h : ss.map Sh.sf = st.sf) (M : List Assn) : Sub (PoA g most st :: M) (Po g vs vt :: Ptrs vs ss :: Told vt st.told :: Shs most ss :: M) :=
  Sub.trans (Sub.cons' (fun x a => ⟨vs, vt, ss, h, a⟩) (Sub.refl M)) (star4c _ _ _ _ M)
theorem PoA.fn {P : Program} {k : FuncId} {args : Array Value} {g : Nat} {most : Int} {st : PSt} {M : List Assn} {R : Value → List Assn → Prop} (h : ∀ vs vt ss, ss.map Sh.sf = st.sf → Fn P k args (Po g vs vt :: Ptrs vs ss :: Told vt st.told :: Shs most ss :: M) R) : Fn P k args (PoA g most st :: M) R := fun F w0 w r ⟨x, ⟨vs, vt, ss, hs, a⟩, d, s⟩ =>
  h vs vt ss hs F w0 w r (star4 _ _ _ _ M w F ⟨x, a, d, s⟩)
/-- A result, with what is owned seen otherwise. -/
theorem Fn.res {P : Program} {k : FuncId} {args : Array Value} {L : List Assn} {R R' : Value → List Assn → Prop} (h : Fn P k args L R) (hr : ∀ v L', R v L' → ∃ L2, Sub L2 L' ∧ R' v L2) : Fn P k args L R' := fun F w0 w r s =>
  (h F w0 w r s).mono fun e w' ⟨v, L', he, hr', hs, hR⟩ => let ⟨L2, h1, h2⟩ := hr v L' hR; ⟨v, L2, he, hr', h1 w' F hs, h2⟩
structure PSt.Ok (B : Nat) (st : PSt) : Prop where
  n : st.sf.length ≤ 5
  t : st.told.length = st.sf.length
  s : ∀ x ∈ st.sf, x.Ok ∧ x.all.length ≤ B
theorem PSt.Ok.ss {B : Nat} {st : PSt} (h : st.Ok B) {ss : List Sh} (hs : ss.map Sh.sf = st.sf) : ss.length = st.sf.length ∧ ∀ x ∈ ss, x.sf.Ok ∧ x.sf.all.length ≤ B := by
  refine ⟨by rw [← hs, List.length_map], fun x hx => h.s _ ?_⟩
  rw [← hs]
  exact List.mem_map_of_mem hx
theorem sf_get {ss : List Sh} {st : PSt} (hs : ss.map Sh.sf = st.sf) {i : Nat} (h : i < ss.length) : st.sf.getD i Sf.none = (ss[i]'h).sf := by
  rw [← hs]
  simp [List.getD_eq_getElem?_getD, h]
theorem sh_get {ss : List Sh} {i : Nat} (h : i < ss.length) : ss.getD i Sh.zero = ss[i]'h := by
  simp [List.getD_eq_getElem?_getD, h]
theorem post_SiteA (g : Nat) (most : Int) (st : PSt) (M : List Assn) (hok : st.Ok 1000000) : Fn Try.prog 13 #[.pointer (some ⟨g, 0, none⟩)] (PoA g most st :: M) fun v L' => v = .agg (Rep.cells st.site).toArray ∧ L' = PoA g most st :: M := by
  refine PoA.fn fun vs vt ss hs => ?_
  obtain ⟨hl, hx⟩ := hok.ss hs
  refine (post_Site g vs vt most ss st.told M (by rw [hl]; exact hok.n) (by rw [hl]; exact hok.t) (fun x h => ⟨(hx x h).1, by have := (hx x h).2; omega⟩)).res ?_
  rintro v L' ⟨rfl, rfl⟩
  refine ⟨_, PoA.cls hs M, ?_, rfl⟩
  have e1 : clkOf (eachF (fun s => (s.cut : Int)) ss ss.length) = clkOf st.baseF := clkOf_congr fun i hi => by
    unfold eachF PSt.baseF
    rw [hl]
    by_cases h : i < st.sf.length
    · rw [if_pos h, if_pos h, sh_get (by omega), sf_get hs (by omega)]
    · rw [if_neg h, if_neg h]
  have e2 : clkOf (eachF (fun s => (s.all.length : Int)) ss ss.length) = clkOf st.lenF := clkOf_congr fun i hi => by
    unfold eachF PSt.lenF
    rw [hl]
    by_cases h : i < st.sf.length
    · rw [if_pos h, if_pos h, sh_get (by omega), sf_get hs (by omega)]
    · rw [if_neg h, if_neg h]
  rw [e1, e2]
  rfl
theorem fetN_get {ss : List Sh} {st : PSt} (hs : ss.map Sh.sf = st.sf) (r : Int) (c : Clk) : ∀ k, k ≤ ss.length → fetN ss r c k = st.getN r c k
  | 0, _ => rfl
  | k + 1, hk => by
    simp only [fetN, PSt.getN]
    rw [fetN_get hs r c k (by omega), sh_get (by omega), sf_get hs (by omega)]
theorem post_FetchA (g : Nat) (most : Int) (st : PSt) (r : Int) (c : Clk) (M : List Assn) (hok : st.Ok 1000000) : Fn Try.prog 19 #[.pointer (some ⟨g, 0, none⟩), .int .i64 r, .agg (Rep.cells c).toArray] (PoA g most st :: M)
    fun v L' => ∃ u : Value, u.oneCell' = true ∧ v = .tuple #[u, .int .i64 (st.fetch r c).2] ∧ L' = Evs_ u (st.fetch r c).1 :: PoA g most st :: M := by
  refine PoA.fn fun vs vt ss hs => ?_
  obtain ⟨hl, hx⟩ := hok.ss hs
  refine (post_Fetch g vs vt most ss st.told r c M (by rw [hl]; exact hok.n) (fun x h => by have := (hx x h).2; omega)).res ?_
  rintro v L' ⟨u, ou, rfl, rfl⟩
  have he : st.fetch r c = (if 0 ≤ r ∧ r < ss.length then fetN ss r c ss.length else [], if 0 ≤ r ∧ r < ss.length then 0 else 23) := by
    unfold PSt.fetch PSt.has
    rw [hl]
    by_cases h : 0 ≤ r ∧ r < st.sf.length
    · rw [if_neg (fun k => k h), if_pos h, if_pos h, ← hl, fetN_get hs r c _ (Nat.le_refl _)]
    · rw [if_pos h, if_neg h, if_neg h]
  rw [he]
  exact ⟨_, Sub.cons _ (PoA.cls hs M), u, ou, rfl, rfl⟩
theorem PSt.cutN_get (told : List Clk) (sf : List Sf) : ∀ (k i : Nat) (h : i < sf.length), k ≤ sf.length → ((⟨told, sf⟩ : PSt).cutN k).sf[i]'(by rw [PSt.cutN_len]; exact h) = if i < k then (sf[i]'h).to (leastR told i) else sf[i]'h
  | 0, i, h, _ => by simp [PSt.cutN]
  | k + 1, i, h, hk => by
    have ih := PSt.cutN_get told sf k i h (by omega)
    have e : ((⟨told, sf⟩ : PSt).cutN (k + 1)).sf = ((⟨told, sf⟩ : PSt).cutN k).sf.set k ((((⟨told, sf⟩ : PSt).cutN k).sf.getD k Sf.none).to (leastR told k)) := by
      show ((⟨told, sf⟩ : PSt).cutN k).sf.set k ((((⟨told, sf⟩ : PSt).cutN k).sf.getD k Sf.none).to (leastR ((⟨told, sf⟩ : PSt).cutN k).told k)) = _
      rw [PSt.cutN_told]
    have hkl : k < ((⟨told, sf⟩ : PSt).cutN k).sf.length := by rw [PSt.cutN_len]; exact hk
    simp only [e, List.getElem_set]
    by_cases h1 : k = i
    · subst h1
      rw [if_pos rfl, if_pos (by omega)]
      have h2 := PSt.cutN_get told sf k k h (by omega)
      rw [if_neg (by omega)] at h2
      rw [show ((⟨told, sf⟩ : PSt).cutN k).sf.getD k Sf.none = ((⟨told, sf⟩ : PSt).cutN k).sf[k]'hkl by simp [List.getD_eq_getElem?_getD, hkl], h2]
    · rw [if_neg h1, ih]
      by_cases h2 : i < k
      · rw [if_pos h2, if_pos (by omega)]
      · rw [if_neg h2, if_neg (by omega)]
theorem cut_all {ss ss2 : List Sh} {told : List Clk} {sf : List Sf} (hs : ss.map Sh.sf = sf) (h : cutSh ss told ss.length ss2) : ss2.map Sh.sf = ((⟨told, sf⟩ : PSt).cutN sf.length).sf := by
  have hl : sf.length = ss.length := by rw [← hs, List.length_map]
  refine List.ext_getElem (by rw [List.length_map, PSt.cutN_len, h.1]; exact hl.symm) fun i h1 h2 => ?_
  rw [PSt.cutN_len] at h2
  have h2 : i < sf.length := h2
  rw [PSt.cutN_get told sf sf.length i h2 (Nat.le_refl _), if_pos h2, List.getElem_map, (h.2 i (by omega) (by rw [h.1]; omega)).2, if_pos (by omega)]
  subst hs
  rw [List.getElem_map]
theorem post_AckA (g : Nat) (most : Int) (st : PSt) (r : Int) (c : Clk) (M : List Assn) (hok : st.Ok 1000000) : Fn Try.prog 17 #[.pointer (some ⟨g, 0, none⟩), .int .i64 r, .agg (Rep.cells c).toArray] (PoA g most st :: M)
    fun v L' => v = .int .i64 (st.ack r c).1 ∧ L' = PoA g most (st.ack r c).2 :: M := by
  refine PoA.fn fun vs vt ss hs => ?_
  obtain ⟨hl, hx⟩ := hok.ss hs
  refine (post_Ack g vs vt most ss st.told r c M (by rw [hl]; exact hok.n) (by rw [hl]; exact hok.t) (fun x h => ⟨(hx x h).1, by have := (hx x h).2; omega⟩)).res ?_
  rintro v L' (⟨hr, rfl, rfl⟩ | ⟨hr, rfl, ss2, hC, rfl⟩)
  · have hst : ¬ st.has r := by unfold PSt.has; rw [← hl]; exact hr
    have he : st.ack r c = (23, st) := by unfold PSt.ack; rw [if_pos hst]
    rw [he]
    exact ⟨_, PoA.cls hs M, rfl, rfl⟩
  · have he : st.ack r c = (0, (⟨st.told.set r.toNat ((st.told.getD r.toNat Clk.zero).join c), st.sf⟩ : PSt).cutN st.sf.length) := by
      have hst : st.has r := by unfold PSt.has; rw [← hl]; exact hr
      unfold PSt.ack; rw [if_neg (fun k => k hst)]
    rw [he]
    have ht := PSt.cutN_told (⟨st.told.set r.toNat ((st.told.getD r.toNat Clk.zero).join c), st.sf⟩ : PSt) st.sf.length
    have h2 := PoA.cls (g := g) (most := most) (vs := vs) (vt := vt) (cut_all hs hC) M
    rw [ht] at h2
    exact ⟨_, h2, rfl, rfl⟩
theorem post_PushA (g : Nat) (most : Int) (st : PSt) (r : Int) (u : Value) (l : List Ev) (M : List Assn) (hok : st.Ok 1000000) (hu : RdT M u l) (hll : l.length ≤ 1000000) (hI : ∀ e ∈ l, I64 e.n) : Fn Try.prog 15 #[.pointer (some ⟨g, 0, none⟩), .int .i64 r, u] (PoA g most st :: M)
    fun v L' => v = .tuple #[.int .i64 (st.push most r l).1, .int .i64 (st.push most r l).2.1] ∧ L' = PoA g most (st.push most r l).2.2 :: M := by
  refine PoA.fn fun vs vt ss hs => ?_
  obtain ⟨hl, hx⟩ := hok.ss hs
  refine (post_Push g vs vt u most ss st.told r l M (by rw [hl]; exact hok.n) (by rw [hl]; exact hok.t) (fun x h => ⟨(hx x h).1, by have := (hx x h).2; omega⟩) hu (by omega) hI).res ?_
  have hbad : badPush ss.length r l ↔ (¬ st.has r ∨ ∃ e ∈ l, e.r ≠ r) := by unfold badPush PSt.has; rw [hl]
  rintro v L' (⟨hb, rfl, rfl⟩ | ⟨hb, hn, x, hxg, rfl, hcase⟩)
  · have he : st.push most r l = (0, 23, st) := by unfold PSt.push; rw [if_pos (hbad.1 hb)]
    rw [he]
    exact ⟨_, PoA.cls hs M, rfl, rfl⟩
  · have hg := sf_get hs hn
    have hset : ∀ y : Sf, x.sf = y → (ss.set r.toNat x).map Sh.sf = st.sf.set r.toNat y := fun y hy => by rw [List.map_set, hs, hy]
    rcases hcase with ⟨hp, rfl, hxf⟩ | ⟨hp, rfl, hxf⟩
    · have he : st.push most r l = (0, (pushR most (ss[r.toNat]'hn).sf l).1, st) := by
        unfold PSt.push
        rw [if_neg (fun k => hb (hbad.2 k)), hg]
        exact if_pos hp
      rw [he]
      have h2 := hset _ hxf
      have h3 : st.sf.set r.toNat (ss[r.toNat]'hn).sf = st.sf := by
        rw [← hs, ← List.getElem_map (f := Sh.sf) (h := by simpa using hn)]
        exact List.set_getElem_self _
      rw [h3] at h2
      exact ⟨_, PoA.cls h2 M, rfl, rfl⟩
    · have hrl : r.toNat < st.sf.length := by rw [← hl]; exact hn
      have he : st.push most r l = (((x.sf.all.length : Nat) : Int), (0 : Int), (⟨st.told, st.sf.set r.toNat x.sf⟩ : PSt)) := by
        unfold PSt.push
        rw [if_neg (fun k => hb (hbad.2 k)), hg]
        refine (if_neg (fun k => k hp)).trans ?_
        simp only [Sf.put]
        have e1 : x.sf.all = (ss[r.toNat]'hn).sf.all ++ (pushR most (ss[r.toNat]'hn).sf l).2 := by rw [hxf]; rfl
        rw [e1]
        simp only [PSt.cutAt, List.set_set]
        have e2 : (st.sf.set r.toNat (⟨(ss[r.toNat]'hn).sf.all ++ (pushR most (ss[r.toNat]'hn).sf l).2, (ss[r.toNat]'hn).sf.cut⟩ : Sf)).getD r.toNat Sf.none = ⟨(ss[r.toNat]'hn).sf.all ++ (pushR most (ss[r.toNat]'hn).sf l).2, (ss[r.toNat]'hn).sf.cut⟩ := by
          simp [List.getD_eq_getElem?_getD, hrl]
        rw [e2, ← hxf]
      rw [he]
      have h2 := PoA.cls (g := g) (most := most) (st := ⟨st.told, st.sf.set r.toNat x.sf⟩) (vs := vs) (vt := vt) (hset _ rfl) M
      exact ⟨_, h2, rfl, rfl⟩
theorem post_NewA (c : Cfg) (M : List Assn) : Fn Try.prog 10 #[.agg (Rep.cells c).toArray] M
    fun v L' => ∃ g : Nat, v = .pointer (some ⟨g, 0, none⟩) ∧ L' = PoA g c.w ⟨List.replicate (min (max c.n 0) 5).toNat Clk.zero, List.replicate (min (max c.n 0) 5).toNat Sf.none⟩ :: M := by
  refine (post_New c M).res ?_
  rintro v L' ⟨g, vs, vt, ss, rfl, ovs, hsl, hss, rfl⟩
  have h : ss.map Sh.sf = List.replicate (min (max c.n 0) 5).toNat Sf.none := by
    rw [← hsl]
    refine List.ext_getElem (by simp) fun i h1 h2 => ?_
    rw [List.getElem_map, List.getElem_replicate]
    exact hss _ (List.getElem_mem _)
  exact ⟨_, PoA.cls (st := ⟨List.replicate (min (max c.n 0) 5).toNat Clk.zero, List.replicate (min (max c.n 0) 5).toNat Sf.none⟩) h M, g, rfl, rfl⟩
end Go.Proofs.Ytkcpgdkchglhhaa
/- The reference of layer 16: its contracts in plain words. No condition. -/
namespace Go.Proofs.Ytkcpgdkchglhhaa
open Go.RowKit
set_option linter.unusedSimpArgs false
set_option linter.unusedVariables false
/-- The reference's five shelves and clocks: those of the post, and empty ones. -/
structure RRel (n : Nat) (st : PSt) (ss : List Sh) (tl : List Clk) : Prop where
  n1 : 0 < n
  n5 : n ≤ 5
  ls : st.sf.length = n
  lt : st.told.length = n
  sf : ss.map Sh.sf = st.sf ++ List.replicate (5 - n) Sf.none
  told : tl = st.told ++ List.replicate (5 - n) Clk.zero
def RPoA (g : Nat) (c : Cfg) (n : Nat) (st : PSt) : Assn := fun h => ∃ (ss : List Sh) (tl : List Clk), RRel n st ss tl ∧ Star [RPo g c ss tl, RShs c.w ss] h
theorem star2 (A B : Assn) (L : List Assn) : Sub (A :: B :: L) (Star [A, B] :: L) :=
  Sub.trans (Sub.cons A (Sub.trans (Sub.cons B (Sub.drop _ (Sub.refl L))) (Star.open1 (A := B) (As := []) L))) (Star.open1 (A := A) (As := [B]) L)
theorem star2c (A B : Assn) (L : List Assn) : Sub (Star [A, B] :: L) (A :: B :: L) :=
  Sub.trans (Star.close1 (A := A) (As := [B]) L) (Sub.cons A (Sub.trans (Star.close1 (A := B) (As := []) L) (Sub.cons B (Star.nil L))))
theorem RPoA.cls {g : Nat} {c : Cfg} {n : Nat} {st : PSt} {ss : List Sh} {tl : List Clk} (h : RRel n st ss tl) (M : List Assn) : Sub (RPoA g c n st :: M) (RPo g c ss tl :: RShs c.w ss :: M) :=
  Sub.trans (Sub.cons' (fun x a => ⟨ss, tl, h, a⟩) (Sub.refl M)) (star2c _ _ M)
theorem RPoA.fn {P : Program} {k : FuncId} {args : Array Value} {g : Nat} {c : Cfg} {n : Nat} {st : PSt} {M : List Assn} {R : Value → List Assn → Prop} (h : ∀ ss tl, RRel n st ss tl → Fn P k args (RPo g c ss tl :: RShs c.w ss :: M) R) : Fn P k args (RPoA g c n st :: M) R := fun F w0 w r ⟨x, ⟨ss, tl, hs, a⟩, d, s⟩ =>
  h ss tl hs F w0 w r (star2 _ _ M w F ⟨x, a, d, s⟩)
theorem RPoA.ex {P : Program} {k : Nat} {code : Code} {Q : Post} {f : Nat → Value} {g : Nat} {c : Cfg} {n : Nat} {st : PSt} {M : List Assn} (h : ∀ ss tl, RRel n st ss tl → Ex P k code Q f (RPo g c ss tl :: RShs c.w ss :: M)) : Ex P k code Q f (RPoA g c n st :: M) := fun D F w0 f0 ws a w ⟨r, ag, ⟨x, ⟨ss, tl, hs, b⟩, d, s⟩, kk⟩ hc =>
  h ss tl hs D F w0 f0 ws a w ⟨r, ag, star2 _ _ M w F ⟨x, b, d, s⟩, kk⟩ hc
section
variable {n : Nat} {st : PSt} {ss : List Sh} {tl : List Clk}
theorem RRel.s5 (h : RRel n st ss tl) : ss.length = 5 := by
  have := congrArg List.length h.sf
  have h1 := h.n5
  simp only [List.length_map, List.length_append, List.length_replicate, h.ls] at this
  omega
theorem RRel.t5 (h : RRel n st ss tl) : tl.length = 5 := by
  have h1 := h.n5
  rw [h.told, List.length_append, List.length_replicate, h.lt]
  omega
theorem RRel.ok (h : RRel n st ss tl) {B : Nat} (ho : st.Ok B) : ∀ x ∈ ss, x.sf.Ok ∧ x.sf.all.length ≤ B := fun x hx => by
  have hm : x.sf ∈ st.sf ++ List.replicate (5 - n) Sf.none := by rw [← h.sf]; exact List.mem_map_of_mem hx
  rcases List.mem_append.1 hm with h1 | h1
  · exact ho.s _ h1
  · rw [List.eq_of_mem_replicate h1]
    exact ⟨Nat.le_refl _, Nat.zero_le _⟩
theorem RRel.get (h : RRel n st ss tl) {i : Nat} (hi : i < n) (h2 : i < ss.length) : st.sf.getD i Sf.none = (ss[i]'h2).sf := by
  have e : (ss.map Sh.sf)[i]? = some (ss[i]'h2).sf := by simp [h2]
  rw [h.sf, List.getElem?_append_left (by rw [h.ls]; exact hi)] at e
  rw [List.getD_eq_getElem?_getD, e]
  rfl
theorem RRel.tget (h : RRel n st ss tl) (i : Nat) : tl.getD i Clk.zero = st.told.getD i Clk.zero := by
  rw [h.told, List.getD_eq_getElem?_getD, List.getD_eq_getElem?_getD]
  by_cases hi : i < st.told.length
  · rw [List.getElem?_append_left hi]
  · rw [List.getElem?_append_right (by omega), List.getElem?_eq_none (l := st.told) (by omega)]
    simp only [List.getElem?_replicate]
    split <;> rfl
theorem RRel.take (h : RRel n st ss tl) : tl.take n = st.told := by
  rw [h.told, ← h.lt, List.take_left]
theorem RRel.set (h : RRel n st ss tl) {r : Nat} (hr : r < n) (x : Sh) (y : Sf) (hy : x.sf = y) : RRel n ⟨st.told, st.sf.set r y⟩ (ss.set r x) tl :=
  ⟨h.n1, h.n5, by simp only [List.length_set]; exact h.ls, h.lt, by rw [List.map_set, h.sf, List.set_append_left _ _ (by rw [h.ls]; exact hr), hy], h.told⟩
theorem RRel.tset (h : RRel n st ss tl) {r : Nat} (hr : r < n) (v : Clk) : RRel n ⟨st.told.set r v, st.sf⟩ ss (tl.set r v) :=
  ⟨h.n1, h.n5, h.ls, by simp only [List.length_set]; exact h.lt, h.sf, by rw [h.told, List.set_append_left _ _ (by rw [h.lt]; exact hr)]⟩
theorem RRel.cut (h : RRel n st ss tl) {ss2 : List Sh} (hC : cutSh ss (tl.take n) n ss2) : RRel n (st.cutN n) ss2 tl := by
  have hn := h.n5
  have h5 := h.s5
  have hl : ss2.length = 5 := hC.1.trans h5
  refine ⟨h.n1, h.n5, by rw [PSt.cutN_len]; exact h.ls, by rw [PSt.cutN_told]; exact h.lt, ?_, by rw [PSt.cutN_told]; exact h.told⟩
  refine List.ext_getElem (by rw [List.length_map, List.length_append, List.length_replicate, PSt.cutN_len, h.ls]; omega) fun i h1 h2 => ?_
  rw [List.length_map] at h1
  rw [List.getElem_map, (hC.2 i (by omega) h1).2]
  have e := h.sf
  have eg : (ss[i]'(by omega)).sf = (st.sf ++ List.replicate (5 - n) Sf.none)[i]'(by rw [List.length_append, List.length_replicate, h.ls]; omega) := by
    simp only [← e, List.getElem_map]
  by_cases hi : i < n
  · rw [if_pos hi, List.getElem_append_left (by rw [PSt.cutN_len, h.ls]; exact hi)]
    have h3 := PSt.cutN_get st.told st.sf n i (by rw [h.ls]; exact hi) (by rw [h.ls]; exact Nat.le_refl _)
    rw [if_pos hi] at h3
    rw [List.getElem_append_left (by rw [h.ls]; exact hi)] at eg
    rw [eg, h.take]
    exact h3.symm
  · rw [if_neg hi, List.getElem_append_right (by rw [PSt.cutN_len, h.ls]; omega), List.getElem_replicate, eg, List.getElem_append_right (by rw [h.ls]; omega), List.getElem_replicate]
end
theorem rpost_SiteA (g : Nat) (c : Cfg) (n : Nat) (st : PSt) (M : List Assn) (hn : (n : Int) = c.n) (hok : st.Ok 1000000) : Fn Try.prog 14 #[.pointer (some ⟨g, 0, none⟩)] (RPoA g c n st :: M) fun v L' => v = .agg (Rep.cells st.site).toArray ∧ L' = RPoA g c n st :: M := by
  refine RPoA.fn fun ss tl hs => ?_
  have hx := hs.ok hok
  have h5 := hs.s5
  have hn5 := hs.n5
  refine (rpost_Site g c ss tl n M h5 hs.t5 hn hs.n5 (fun x h => ⟨(hx x h).1, by have := (hx x h).2; omega⟩)).res ?_
  rintro v L' ⟨rfl, rfl⟩
  refine ⟨_, RPoA.cls hs M, ?_, rfl⟩
  have e : ∀ φ : Sf → Int, clkOf (eachF φ ss n) = clkOf (fun i => if i < st.sf.length then φ (st.sf.getD i Sf.none) else 0) := fun φ => clkOf_congr fun i hi => by
    unfold eachF
    rw [hs.ls]
    by_cases h : i < n
    · rw [if_pos h, if_pos h, sh_get (by omega), hs.get h (by omega)]
    · rw [if_neg h, if_neg h]
  rw [e, e]
  unfold siteOf PSt.site
  rw [hs.tget, hs.tget, hs.tget, hs.tget, hs.tget]
  rfl
theorem rfetN_get {n : Nat} {st : PSt} {ss : List Sh} {tl : List Clk} (hs : RRel n st ss tl) (r : Int) (c : Clk) : ∀ k, k ≤ n → fetN ss r c k = st.getN r c k
  | 0, _ => rfl
  | k + 1, hk => by
    have h5 := hs.s5
    have hn5 := hs.n5
    simp only [fetN, PSt.getN]
    rw [rfetN_get hs r c k (by omega), sh_get (by omega), hs.get (by omega) (by omega)]
theorem rpost_FetchA (g : Nat) (c : Cfg) (n : Nat) (st : PSt) (r : Int) (x : Clk) (M : List Assn) (hn : (n : Int) = c.n) (hok : st.Ok 1000000) : Fn Try.prog 22 #[.pointer (some ⟨g, 0, none⟩), .int .i64 r, .agg (Rep.cells x).toArray] (RPoA g c n st :: M)
    fun v L' => ∃ u : Value, u.oneCell' = true ∧ v = .tuple #[u, .int .i64 (st.fetch r x).2] ∧ L' = Evs_ u (st.fetch r x).1 :: RPoA g c n st :: M := by
  refine RPoA.fn fun ss tl hs => ?_
  have hx := hs.ok hok
  refine (rpost_Fetch g c ss tl r n x M hs.s5 hn hs.n5 (fun x h => ⟨(hx x h).1, by have := (hx x h).2; omega⟩)).res ?_
  rintro v L' ⟨u, ou, rfl, rfl⟩
  have he : st.fetch r x = (if 0 ≤ r ∧ r < n then fetN ss r x n else [], if 0 ≤ r ∧ r < n then 0 else 23) := by
    unfold PSt.fetch PSt.has
    by_cases h : 0 ≤ r ∧ r < (n : Int)
    · have h' : 0 ≤ r ∧ r < (st.sf.length : Int) := by rw [hs.ls]; exact h
      rw [if_neg (fun k => k h'), if_pos h, if_pos h, rfetN_get hs r x _ (Nat.le_refl _), hs.ls]
    · have h' : ¬ (0 ≤ r ∧ r < (st.sf.length : Int)) := by rw [hs.ls]; exact h
      rw [if_pos h', if_neg h, if_neg h]
  rw [he]
  exact ⟨_, Sub.cons _ (RPoA.cls hs M), u, ou, rfl, rfl⟩
theorem rpost_AckA (g : Nat) (c : Cfg) (n : Nat) (st : PSt) (r : Int) (x : Clk) (M : List Assn) (hn : (n : Int) = c.n) (hok : st.Ok 1000000) : Fn Try.prog 23 #[.pointer (some ⟨g, 0, none⟩), .int .i64 r, .agg (Rep.cells x).toArray] (RPoA g c n st :: M)
    fun v L' => v = .int .i64 (st.ack r x).1 ∧ L' = RPoA g c n (st.ack r x).2 :: M := by
  refine RPoA.fn fun ss tl hs => ?_
  have hx := hs.ok hok
  refine (rpost_Ack g c ss tl r n x M hs.s5 hs.t5 hn hs.n1 hs.n5 (fun x h => ⟨(hx x h).1, by have := (hx x h).2; omega⟩)).res ?_
  rintro v L' (⟨hr, rfl, rfl⟩ | ⟨hr, rfl, ss2, hC, rfl⟩)
  · have hst : ¬ st.has r := by unfold PSt.has; rw [hs.ls]; exact hr
    have he : st.ack r x = (23, st) := by unfold PSt.ack; rw [if_pos hst]
    rw [he]
    exact ⟨_, RPoA.cls hs M, rfl, rfl⟩
  · have hst : st.has r := by unfold PSt.has; rw [hs.ls]; exact hr
    have he : st.ack r x = (0, (⟨st.told.set r.toNat ((st.told.getD r.toNat Clk.zero).join x), st.sf⟩ : PSt).cutN n) := by
      unfold PSt.ack; rw [if_neg (fun k => k hst), hs.ls]
    rw [he]
    rw [hs.tget] at hC ⊢
    exact ⟨_, RPoA.cls ((hs.tset (by omega) _).cut hC) M, rfl, rfl⟩
theorem rpost_PushA (g : Nat) (c : Cfg) (n : Nat) (st : PSt) (r : Int) (u : Value) (l : List Ev) (M : List Assn) (hn : (n : Int) = c.n) (hok : st.Ok 1000000) (hu : RdT M u l) (hll : l.length ≤ 1000000) (hI : ∀ e ∈ l, I64 e.n) : Fn Try.prog 24 #[.pointer (some ⟨g, 0, none⟩), .int .i64 r, u] (RPoA g c n st :: M)
    fun v L' => v = .tuple #[.int .i64 (st.push c.w r l).1, .int .i64 (st.push c.w r l).2.1] ∧ L' = RPoA g c n (st.push c.w r l).2.2 :: M := by
  refine RPoA.fn fun ss tl hs => ?_
  have hx := hs.ok hok
  refine (rpost_Push g c ss tl u r n l M hs.s5 hs.t5 hn hs.n1 hs.n5 (fun x h => ⟨(hx x h).1, by have := (hx x h).2; omega⟩) hu (by omega) hI).res ?_
  have hbad : badPush n r l ↔ (¬ st.has r ∨ ∃ e ∈ l, e.r ≠ r) := by unfold badPush PSt.has; rw [hs.ls]
  rintro v L' (⟨hb, rfl, rfl⟩ | ⟨hb, hrs, x, hxg, rfl, hcase⟩)
  · have he : st.push c.w r l = (0, 23, st) := by unfold PSt.push; rw [if_pos (hbad.1 hb)]
    rw [he]
    exact ⟨_, RPoA.cls hs M, rfl, rfl⟩
  · have hr : 0 ≤ r ∧ r < (n : Int) := Classical.byContradiction fun k => hb (.inl k)
    have hrn : r.toNat < n := by omega
    have hg := hs.get hrn hrs
    have hrl : r.toNat < st.sf.length := by rw [hs.ls]; exact hrn
    rcases hcase with ⟨hp, rfl, hxf⟩ | ⟨hp, rfl, hxf⟩
    · have he : st.push c.w r l = (0, (pushR c.w (ss[r.toNat]'hrs).sf l).1, st) := by
        unfold PSt.push
        rw [if_neg (fun k => hb (hbad.2 k)), hg]
        exact if_pos hp
      rw [he]
      have h2 := hs.set hrn x _ hxf
      have h3 : st.sf.set r.toNat (ss[r.toNat]'hrs).sf = st.sf := by
        rw [← hg, List.getD_eq_getElem?_getD, List.getElem?_eq_getElem hrl]
        exact List.set_getElem_self _
      rw [h3] at h2
      exact ⟨_, RPoA.cls h2 M, rfl, rfl⟩
    · rw [hs.take] at hxf
      have he : st.push c.w r l = (((x.sf.all.length : Nat) : Int), (0 : Int), (⟨st.told, st.sf.set r.toNat x.sf⟩ : PSt)) := by
        unfold PSt.push
        rw [if_neg (fun k => hb (hbad.2 k)), hg]
        refine (if_neg (fun k => k hp)).trans ?_
        simp only [Sf.put]
        have e1 : x.sf.all = (ss[r.toNat]'hrs).sf.all ++ (pushR c.w (ss[r.toNat]'hrs).sf l).2 := by rw [hxf]; rfl
        rw [e1]
        simp only [PSt.cutAt, List.set_set]
        have e2 : (st.sf.set r.toNat (⟨(ss[r.toNat]'hrs).sf.all ++ (pushR c.w (ss[r.toNat]'hrs).sf l).2, (ss[r.toNat]'hrs).sf.cut⟩ : Sf)).getD r.toNat Sf.none = ⟨(ss[r.toNat]'hrs).sf.all ++ (pushR c.w (ss[r.toNat]'hrs).sf l).2, (ss[r.toNat]'hrs).sf.cut⟩ := by
          simp [List.getD_eq_getElem?_getD, hrl]
        rw [e2, ← hxf]
      rw [he]
      exact ⟨_, RPoA.cls (hs.set hrn x _ rfl) M, rfl, rfl⟩
theorem rpost_NewA (c : Cfg) (n : Nat) (M : List Assn) (hn : (n : Int) = c.n) (hn1 : 0 < n) (hn5 : n ≤ 5) : Fn Try.prog 11 #[.agg (Rep.cells c).toArray] M
    fun v L' => ∃ g : Nat, v = .pointer (some ⟨g, 0, none⟩) ∧ L' = RPoA g c n ⟨List.replicate n Clk.zero, List.replicate n Sf.none⟩ :: M := by
  refine (rpost_New c M).res ?_
  rintro v L' ⟨g, ss, rfl, h5, hss, rfl⟩
  refine ⟨_, RPoA.cls (ss := ss) (tl := List.replicate 5 Clk.zero) ⟨hn1, hn5, by simp, by simp, ?_, ?_⟩ M, g, rfl, rfl⟩
  · rw [List.replicate_append_replicate, show n + (5 - n) = 5 by omega]
    refine List.ext_getElem (by simp [h5]) fun i h1 h2 => ?_
    rw [List.getElem_map, List.getElem_replicate]
    exact hss _ (List.getElem_mem _)
  · rw [List.replicate_append_replicate, show n + (5 - n) = 5 by omega]
end Go.Proofs.Ytkcpgdkchglhhaa
/- Rows of a replica's events. No condition. -/
namespace Go.Proofs.Ytkcpgdkchglhhaa
open Go.RowKit
set_option linter.unusedSimpArgs false
set_option linter.unusedVariables false
def evR (r n : Int) : Ev := ⟨r, n, ⟨0, 0, 0, 0, 0⟩, 1, ⟨0, [], 0, []⟩⟩
def rowR (r a : Int) (m : Nat) : List Ev := (List.range m).map fun (i : Nat) => evR r (a + i)
theorem rowR_len (r a : Int) (m : Nat) : (rowR r a m).length = m := by simp [rowR]
theorem rowR_get (r a : Int) (m i : Nat) (h : i < (rowR r a m).length) : (rowR r a m)[i] = evR r (a + i) := by simp [rowR]
theorem rowR_succ (r a : Int) (m : Nat) : rowR r a (m + 1) = rowR r a m ++ [evR r (a + m)] := by simp [rowR, List.range_succ]
theorem rowR_drop (r a : Int) (m k : Nat) : (rowR r a m).drop k = rowR r (a + k) (m - k) := by
  apply List.ext_getElem
  · simp [rowR_len]
  · intro i h1 h2
    rw [List.getElem_drop, rowR_get, rowR_get]
    congr 1
    omega
theorem rowR_app (r a : Int) (m k : Nat) : rowR r a m ++ rowR r (a + m) k = rowR r a (m + k) := by
  induction k with
  | zero => simp [rowR]
  | succ k ih =>
    rw [← Nat.add_assoc, rowR_succ, rowR_succ, ← ih, List.append_assoc]
    congr 3
    congr 1
    omega
theorem rowR_mem {r a : Int} {m : Nat} {e : Ev} (h : e ∈ rowR r a m) : ∃ i : Nat, i < m ∧ e = evR r (a + i) := by
  simp only [rowR, List.mem_map, List.mem_range] at h
  obtain ⟨i, hi, rfl⟩ := h
  exact ⟨i, hi, rfl⟩
theorem rowR_gap (len r a : Int) (m : Nat) : GapOk len (rowR r a m) ↔ m = 0 ∨ a ≤ len + 1 := by
  unfold GapOk
  constructor
  · intro h
    by_cases hm : m = 0
    · exact .inl hm
    · have := (h (by rw [rowR_len]; omega)).1
      rw [rowR_get] at this
      simp [evR] at this
      exact .inr this
  · rintro (h | h) hl
    · rw [rowR_len] at hl; omega
    · refine ⟨by rw [rowR_get]; simp [evR]; exact h, fun j hj => ?_⟩
      rw [rowR_get, rowR_get]
      simp [evR]
theorem rowR_fresh (len r a : Int) (m : Nat) (h : a ≤ len + 1) : fresh len (rowR r a m) = rowR r (len + 1) (m - (len + 1 - a).toNat) := by
  have hg : GapOk len (rowR r a m) := (rowR_gap len r a m).2 (.inr h)
  obtain ⟨j, hj⟩ : ∃ j, j = min m (len + 1 - a).toNat := ⟨_, rfl⟩
  rw [fresh_drop hg j (by rw [rowR_len]; omega) (fun i hi hij => by rw [rowR_get]; simp [evR]; omega) (by
    by_cases hm : j = m
    · left; rw [rowR_len]; exact hm
    · right; exact ⟨by rw [rowR_len]; omega, by rw [rowR_get]; simp [evR]; omega⟩)]
  apply List.ext_getElem
  · simp [rowR_len]; omega
  · intro i h1 h2
    rw [List.getElem_drop, rowR_get, rowR_get]
    simp only [List.length_drop, rowR_len] at h1
    congr 1
    omega
set_option maxRecDepth 20000 attribute [local irreducible] Ex ExL Fn thn inb rnd fin meet Tab Mix mxEnd Val Sats RdT Rd RowT Row Blk Sub Fac ResV RVal Evs subs subs3 Hid Capd
set_option maxHeartbeats 1000000 in
theorem row_F (r a : Int) (m : Int) (M : List Assn) (ha : -1000000000 ≤ a ∧ a ≤ 1000000000) (hm : m ≤ 1000000) : Fn Try.prog 16 #[.int .i64 r, .int .i64 a, .int .i64 m] M fun v L' => v.oneCell' = true ∧ L' = Evs_ v (rowR r a m.toNat) :: M := by
  refine Fn.of_ex Try.func16 rfl Try.ntmps16 rfl ?_
  (repeat' (first | refine ExL.val rJ rJ rJ rV ?_ | (first | refine Ex.seq ?_ | refine Ex.region ?_ | refine ExL.nil ?_ | refine thn_n ?_ | refine Ex.cond_t rJ ?_ | refine Ex.cond_f rJ ?_ | refine Ex.skip ?_ | refine Ex.block ?_ | refine Ex.exit ?_ | refine Ex.ret ?_ | refine thn_exit ?_ | refine thn_ret ?_ | refine inb_n ?_ | refine inb_hit rJ ?_ | refine inb_miss rJ ?_ | refine inb_ret ?_ | refine rnd_exit ?_ | refine rnd_ret ?_ | refine meet_ret ?_ | refine meet_exit ?_) | (apply exlGuard; first | refine ExL.gskip rJ rJ rJ rJ rJ rJ ?_ | refine ExL.gtake rJ rJ rJ rJ ?_ | refine ExL.gskipU rJ rJ rJ rJ ?_ | (refine ExL.gsplit rJ rJ rJ (fun h => ?_) (fun h => ?_) <;> try (exfalso; omega))) | (first | refine st_new_ rJ rE (fun g => ?_) | refine st_boxA rJ rJ (fun g => ?_) | refine st_box1 rJ rE rN (fun g => ?_) | (apply exlStore; first | refine st_store1_ _ rJ rK rE rN rJ rJ rE rE ?_ | refine st_storeW_ _ rJ rK rJ rC rJ rJ rJ rE ?_ | refine st_storeR _ rJ rK rJ rE rJ rJ rE ?_ | refine st_storeA_ _ rJ rK rJ rC rJ rJ rJ rE rE ?_ | refine st_storeB _ rJ rJ rO rO rK rJ rO ?_ | refine st_storeG _ rJ rK rE rN rJ rO (fun cs hcs => ?_)) | refine st_slice0 rJ rJ rJ rJ (fun g => ?_) | refine st_slice1T rJ rJ rJ rJ (fun g => ?_) | refine st_makeT rJ rJ rJ rJ rE rJ rO rO (fun v o => ?_) | (apply exlCopy; first | refine st_copyW _ rJ rE rK rE rD rJ rE rJ (fun zs hzs => ?_) | refine st_copyS _ rJ rJ rK rE rD rJ rE rJ rO rO (fun zs hzs => ?_)) | refine st_sliceB rJ rJ rJ rJ rJ rJ rJ rL rE rE rJ (fun g => ?_) | refine st_slice1I rJ rJ rJ rJ rJ rJ (fun g => ?_) | refine st_slice1B rJ rJ rJ rJ rJ rJ rO rO (fun g => ?_) | refine st_slice1S rJ rJ rJ rJ rJ rJ (fun g => ?_) | refine st_slice2B rJ rJ rJ rJ rJ rJ rJ rO rO rO rO (fun g => ?_) | (apply exlConv; first | refine st_bytes rJ rJ rJ rJ rJ rO (fun v o => ?_) | refine st_mark _ rJ rJ rK rJ rJ rJ ?_) | refine st_clear _ (0 : UInt8) rJ rK rJ rJ rJ rJ rJ rO ?_ | refine st_clearT _ rJ rK rO rJ rJ rO rE ?_ | (apply exlAppend; first | refine st_app0 rJ rJ rE rD rJ rE rJ rE rJ rJ rJ rO (fun v o => ?_) | refine st_app _ rJ rE rK rE rD rJ rE rJ rE rJ rJ rJ rO (fun v o => ?_) | refine st_shift _ rJ rJ rJ rK rO rJ rJ rJ rO rO rE ?_)) | (refine Ex.cond_d rJ (fun h => ?_) (fun h => ?_) <;> try (exfalso; omega))))
  refine Ex.sub ?_ (Sub.empty (α := Ev) (some ⟨g, 0, none⟩) 55 M)
  refine Ex.loop [7, 8] (fun q vs L' => ∃ (i : Nat) (v : Value), i ≤ m.toNat ∧ q = m.toNat - i ∧ v.oneCell' = true ∧ vs = [v, .int .i64 i] ∧ L' = Evs_ v (rowR r a i) :: M) m.toNat ⟨0, _, by omega, by omega, rfl, lcons rfl (lcons (vint (by omega)) rfl), rfl⟩ ?_
  rintro q vs g1 L' ⟨i, v0, hi, rfl, ho, rfl, rfl⟩
  have hl := rowR_len r a i
  by_cases hlt : i < m
  · (repeat' (first | refine ExL.val rJ rJ rJ rV ?_ | (first | refine Ex.seq ?_ | refine Ex.region ?_ | refine ExL.nil ?_ | refine thn_n ?_ | refine Ex.cond_t rJ ?_ | refine Ex.cond_f rJ ?_ | refine Ex.skip ?_ | refine Ex.block ?_ | refine Ex.exit ?_ | refine Ex.ret ?_ | refine thn_exit ?_ | refine thn_ret ?_ | refine inb_n ?_ | refine inb_hit rJ ?_ | refine inb_miss rJ ?_ | refine inb_ret ?_ | refine rnd_exit ?_ | refine rnd_ret ?_ | refine meet_ret ?_ | refine meet_exit ?_) | (apply exlGuard; first | refine ExL.gskip rJ rJ rJ rJ rJ rJ ?_ | refine ExL.gtake rJ rJ rJ rJ ?_ | refine ExL.gskipU rJ rJ rJ rJ ?_ | (refine ExL.gsplit rJ rJ rJ (fun h => ?_) (fun h => ?_) <;> try (exfalso; omega))) | (first | refine st_new_ rJ rE (fun g => ?_) | refine st_boxA rJ rJ (fun g => ?_) | refine st_box1 rJ rE rN (fun g => ?_) | (apply exlStore; first | refine st_store1_ _ rJ rK rE rN rJ rJ rE rE ?_ | refine st_storeW_ _ rJ rK rJ rC rJ rJ rJ rE ?_ | refine st_storeR _ rJ rK rJ rE rJ rJ rE ?_ | refine st_storeA_ _ rJ rK rJ rC rJ rJ rJ rE rE ?_ | refine st_storeB _ rJ rJ rO rO rK rJ rO ?_ | refine st_storeG _ rJ rK rE rN rJ rO (fun cs hcs => ?_)) | refine st_slice0 rJ rJ rJ rJ (fun g => ?_) | refine st_slice1T rJ rJ rJ rJ (fun g => ?_) | refine st_makeT rJ rJ rJ rJ rE rJ rO rO (fun v o => ?_) | (apply exlCopy; first | refine st_copyW _ rJ rE rK rE rD rJ rE rJ (fun zs hzs => ?_) | refine st_copyS _ rJ rJ rK rE rD rJ rE rJ rO rO (fun zs hzs => ?_)) | refine st_sliceB rJ rJ rJ rJ rJ rJ rJ rL rE rE rJ (fun g => ?_) | refine st_slice1I rJ rJ rJ rJ rJ rJ (fun g => ?_) | refine st_slice1B rJ rJ rJ rJ rJ rJ rO rO (fun g => ?_) | refine st_slice1S rJ rJ rJ rJ rJ rJ (fun g => ?_) | refine st_slice2B rJ rJ rJ rJ rJ rJ rJ rO rO rO rO (fun g => ?_) | (apply exlConv; first | refine st_bytes rJ rJ rJ rJ rJ rO (fun v o => ?_) | refine st_mark _ rJ rJ rK rJ rJ rJ ?_) | refine st_clear _ (0 : UInt8) rJ rK rJ rJ rJ rJ rJ rO ?_ | refine st_clearT _ rJ rK rO rJ rJ rO rE ?_ | (apply exlAppend; first | refine st_app0 rJ rJ rE rD rJ rE rJ rE rJ rJ rJ rO (fun v o => ?_) | refine st_app _ rJ rE rK rE rD rJ rE rJ rE rJ rJ rJ rO (fun v o => ?_) | refine st_shift _ rJ rJ rJ rK rO rJ rJ rJ rO rO rE ?_)) | (refine Ex.cond_d rJ (fun h => ?_) (fun h => ?_) <;> try (exfalso; omega))))
    refine st_slice1T (a := evR r (a + i)) rJ rJ rJ rJ (fun g => ?_)
    (repeat' (first | refine ExL.val rJ rJ rJ rV ?_ | (first | refine Ex.seq ?_ | refine Ex.region ?_ | refine ExL.nil ?_ | refine thn_n ?_ | refine Ex.cond_t rJ ?_ | refine Ex.cond_f rJ ?_ | refine Ex.skip ?_ | refine Ex.block ?_ | refine Ex.exit ?_ | refine Ex.ret ?_ | refine thn_exit ?_ | refine thn_ret ?_ | refine inb_n ?_ | refine inb_hit rJ ?_ | refine inb_miss rJ ?_ | refine inb_ret ?_ | refine rnd_exit ?_ | refine rnd_ret ?_ | refine meet_ret ?_ | refine meet_exit ?_) | (apply exlGuard; first | refine ExL.gskip rJ rJ rJ rJ rJ rJ ?_ | refine ExL.gtake rJ rJ rJ rJ ?_ | refine ExL.gskipU rJ rJ rJ rJ ?_ | (refine ExL.gsplit rJ rJ rJ (fun h => ?_) (fun h => ?_) <;> try (exfalso; omega))) | (first | refine st_new_ rJ rE (fun g => ?_) | refine st_boxA rJ rJ (fun g => ?_) | refine st_box1 rJ rE rN (fun g => ?_) | (apply exlStore; first | refine st_store1_ _ rJ rK rE rN rJ rJ rE rE ?_ | refine st_storeW_ _ rJ rK rJ rC rJ rJ rJ rE ?_ | refine st_storeR _ rJ rK rJ rE rJ rJ rE ?_ | refine st_storeA_ _ rJ rK rJ rC rJ rJ rJ rE rE ?_ | refine st_storeB _ rJ rJ rO rO rK rJ rO ?_ | refine st_storeG _ rJ rK rE rN rJ rO (fun cs hcs => ?_)) | refine st_slice0 rJ rJ rJ rJ (fun g => ?_) | refine st_slice1T rJ rJ rJ rJ (fun g => ?_) | refine st_makeT rJ rJ rJ rJ rE rJ rO rO (fun v o => ?_) | (apply exlCopy; first | refine st_copyW _ rJ rE rK rE rD rJ rE rJ (fun zs hzs => ?_) | refine st_copyS _ rJ rJ rK rE rD rJ rE rJ rO rO (fun zs hzs => ?_)) | refine st_sliceB rJ rJ rJ rJ rJ rJ rJ rL rE rE rJ (fun g => ?_) | refine st_slice1I rJ rJ rJ rJ rJ rJ (fun g => ?_) | refine st_slice1B rJ rJ rJ rJ rJ rJ rO rO (fun g => ?_) | refine st_slice1S rJ rJ rJ rJ rJ rJ (fun g => ?_) | refine st_slice2B rJ rJ rJ rJ rJ rJ rJ rO rO rO rO (fun g => ?_) | (apply exlConv; first | refine st_bytes rJ rJ rJ rJ rJ rO (fun v o => ?_) | refine st_mark _ rJ rJ rK rJ rJ rJ ?_) | refine st_clear _ (0 : UInt8) rJ rK rJ rJ rJ rJ rJ rO ?_ | refine st_clearT _ rJ rK rO rJ rJ rO rE ?_ | (apply exlAppend; first | refine st_app0 rJ rJ rE rD rJ rE rJ rE rJ rJ rJ rO (fun v o => ?_) | refine st_app _ rJ rE rK rE rD rJ rE rJ rE rJ rJ rJ rO (fun v o => ?_) | refine st_shift _ rJ rJ rJ rK rO rJ rJ rJ rO rO rE ?_)) | (refine Ex.cond_d rJ (fun h => ?_) (fun h => ?_) <;> try (exfalso; omega))))
    refine rnd_n ⟨m.toNat - (i + 1), Evs_ v (rowR r a (i + 1)) :: M, by omega, ?_, i + 1, v, by omega, rfl, by assumption, lcons rfl (lcons (vint (by omega)) rfl), rfl⟩
    rw [rowR_succ]
    exact rB
  · obtain rfl : i = m.toNat := by omega
    (repeat' (first | refine ExL.val rJ rJ rJ rV ?_ | (first | refine Ex.seq ?_ | refine Ex.region ?_ | refine ExL.nil ?_ | refine thn_n ?_ | refine Ex.cond_t rJ ?_ | refine Ex.cond_f rJ ?_ | refine Ex.skip ?_ | refine Ex.block ?_ | refine Ex.exit ?_ | refine Ex.ret ?_ | refine thn_exit ?_ | refine thn_ret ?_ | refine inb_n ?_ | refine inb_hit rJ ?_ | refine inb_miss rJ ?_ | refine inb_ret ?_ | refine rnd_exit ?_ | refine rnd_ret ?_ | refine meet_ret ?_ | refine meet_exit ?_) | (apply exlGuard; first | refine ExL.gskip rJ rJ rJ rJ rJ rJ ?_ | refine ExL.gtake rJ rJ rJ rJ ?_ | refine ExL.gskipU rJ rJ rJ rJ ?_ | (refine ExL.gsplit rJ rJ rJ (fun h => ?_) (fun h => ?_) <;> try (exfalso; omega))) | (first | refine st_new_ rJ rE (fun g => ?_) | refine st_boxA rJ rJ (fun g => ?_) | refine st_box1 rJ rE rN (fun g => ?_) | (apply exlStore; first | refine st_store1_ _ rJ rK rE rN rJ rJ rE rE ?_ | refine st_storeW_ _ rJ rK rJ rC rJ rJ rJ rE ?_ | refine st_storeR _ rJ rK rJ rE rJ rJ rE ?_ | refine st_storeA_ _ rJ rK rJ rC rJ rJ rJ rE rE ?_ | refine st_storeB _ rJ rJ rO rO rK rJ rO ?_ | refine st_storeG _ rJ rK rE rN rJ rO (fun cs hcs => ?_)) | refine st_slice0 rJ rJ rJ rJ (fun g => ?_) | refine st_slice1T rJ rJ rJ rJ (fun g => ?_) | refine st_makeT rJ rJ rJ rJ rE rJ rO rO (fun v o => ?_) | (apply exlCopy; first | refine st_copyW _ rJ rE rK rE rD rJ rE rJ (fun zs hzs => ?_) | refine st_copyS _ rJ rJ rK rE rD rJ rE rJ rO rO (fun zs hzs => ?_)) | refine st_sliceB rJ rJ rJ rJ rJ rJ rJ rL rE rE rJ (fun g => ?_) | refine st_slice1I rJ rJ rJ rJ rJ rJ (fun g => ?_) | refine st_slice1B rJ rJ rJ rJ rJ rJ rO rO (fun g => ?_) | refine st_slice1S rJ rJ rJ rJ rJ rJ (fun g => ?_) | refine st_slice2B rJ rJ rJ rJ rJ rJ rJ rO rO rO rO (fun g => ?_) | (apply exlConv; first | refine st_bytes rJ rJ rJ rJ rJ rO (fun v o => ?_) | refine st_mark _ rJ rJ rK rJ rJ rJ ?_) | refine st_clear _ (0 : UInt8) rJ rK rJ rJ rJ rJ rJ rO ?_ | refine st_clearT _ rJ rK rO rJ rJ rO rE ?_ | (apply exlAppend; first | refine st_app0 rJ rJ rE rD rJ rE rJ rE rJ rJ rJ rO (fun v o => ?_) | refine st_app _ rJ rE rK rE rD rJ rE rJ rE rJ rJ rJ rO (fun v o => ?_) | refine st_shift _ rJ rJ rJ rK rO rJ rJ rJ rO rO rE ?_)) | (refine Ex.cond_d rJ (fun h => ?_) (fun h => ?_) <;> try (exfalso; omega))))
    (first | refine fin_ret rS ?_ | refine fin_norm rS ?_)
    exact ⟨_, rB, ho, rfl⟩
end Go.Proofs.Ytkcpgdkchglhhaa
/- kithref11.Fit, walked. No condition. -/
namespace Go.Proofs.Ytkcpgdkchglhhaa
open Go.RowKit
set_option linter.unusedSimpArgs false
set_option linter.unusedVariables false
/-- A config that may be, of any. -/
def fitC (c : Cfg) : Cfg := ⟨1 + (c.n.tmod 5 + 5) % 5, 1 + (c.w.tmod 4 + 4) % 4, 1 + (c.q.tmod 8 + 8) % 8, 1 + (c.h.tmod 20 + 20) % 20, 1 + (c.l.tmod 4 + 4) % 4, 1 + (c.p.tmod 3 + 3) % 3⟩
structure Cfg.May (c : Cfg) : Prop where
  n : 1 ≤ c.n ∧ c.n ≤ 5
  w : 1 ≤ c.w ∧ c.w ≤ 4
  q : 1 ≤ c.q ∧ c.q ≤ 8
  h : 1 ≤ c.h ∧ c.h ≤ 20
  l : 1 ≤ c.l ∧ c.l ≤ 4
  p : 1 ≤ c.p ∧ c.p ≤ 3
theorem fitC_may (c : Cfg) : (fitC c).May := by
  refine ⟨?_, ?_, ?_, ?_, ?_, ?_⟩ <;> simp only [fitC] <;> omega
theorem tmod_bd (n : Int) (k : Int) (hk : 0 < k) : -k < n.tmod k ∧ n.tmod k < k := ⟨Int.lt_tmod_of_pos n hk, Int.tmod_lt_of_pos n hk⟩
set_option maxRecDepth 20000 attribute [local irreducible] Ex ExL Fn thn inb rnd fin meet Tab Mix mxEnd Val Sats RdT Rd RowT Row Blk Sub Fac ResV RVal Evs subs subs3 Hid Capd
theorem fitC_F (c : Cfg) (L : List Assn) : Fn Try.prog 9 #[.agg (Rep.cells c).toArray] L fun v L' => v = .agg (Rep.cells (fitC c)).toArray ∧ L' = L := by
  have h5 := tmod_bd c.n 5 (by omega)
  have h4 := tmod_bd c.w 4 (by omega)
  have h8 := tmod_bd c.q 8 (by omega)
  have h20 := tmod_bd c.h 20 (by omega)
  have h42 := tmod_bd c.l 4 (by omega)
  have h3 := tmod_bd c.p 3 (by omega)
  refine Fn.of_ex Try.func9 rfl Try.ntmps9 rfl ?_
  (repeat' (first | refine ExL.val rJ rJ rJ rV ?_ | (first | refine Ex.seq ?_ | refine Ex.region ?_ | refine ExL.nil ?_ | refine thn_n ?_ | refine Ex.cond_t rJ ?_ | refine Ex.cond_f rJ ?_ | refine Ex.skip ?_ | refine Ex.block ?_ | refine Ex.exit ?_ | refine Ex.ret ?_ | refine thn_exit ?_ | refine thn_ret ?_ | refine inb_n ?_ | refine inb_hit rJ ?_ | refine inb_miss rJ ?_ | refine inb_ret ?_ | refine rnd_exit ?_ | refine rnd_ret ?_ | refine meet_ret ?_ | refine meet_exit ?_) | (apply exlGuard; first | refine ExL.gskip rJ rJ rJ rJ rJ rJ ?_ | refine ExL.gtake rJ rJ rJ rJ ?_ | refine ExL.gskipU rJ rJ rJ rJ ?_ | (refine ExL.gsplit rJ rJ rJ (fun h => ?_) (fun h => ?_) <;> try (exfalso; omega))) | (first | refine st_new_ rJ rE (fun g => ?_) | refine st_boxA rJ rJ (fun g => ?_) | refine st_box1 rJ rE rN (fun g => ?_) | (apply exlStore; first | refine st_store1_ _ rJ rK rE rN rJ rJ rE rE ?_ | refine st_storeW_ _ rJ rK rJ rC rJ rJ rJ rE ?_ | refine st_storeR _ rJ rK rJ rE rJ rJ rE ?_ | refine st_storeA_ _ rJ rK rJ rC rJ rJ rJ rE rE ?_ | refine st_storeB _ rJ rJ rO rO rK rJ rO ?_ | refine st_storeG _ rJ rK rE rN rJ rO (fun cs hcs => ?_)) | refine st_slice0 rJ rJ rJ rJ (fun g => ?_) | refine st_slice1T rJ rJ rJ rJ (fun g => ?_) | refine st_makeT rJ rJ rJ rJ rE rJ rO rO (fun v o => ?_) | (apply exlCopy; first | refine st_copyW _ rJ rE rK rE rD rJ rE rJ (fun zs hzs => ?_) | refine st_copyS _ rJ rJ rK rE rD rJ rE rJ rO rO (fun zs hzs => ?_)) | refine st_sliceB rJ rJ rJ rJ rJ rJ rJ rL rE rE rJ (fun g => ?_) | refine st_slice1I rJ rJ rJ rJ rJ rJ (fun g => ?_) | refine st_slice1B rJ rJ rJ rJ rJ rJ rO rO (fun g => ?_) | refine st_slice1S rJ rJ rJ rJ rJ rJ (fun g => ?_) | refine st_slice2B rJ rJ rJ rJ rJ rJ rJ rO rO rO rO (fun g => ?_) | (apply exlConv; first | refine st_bytes rJ rJ rJ rJ rJ rO (fun v o => ?_) | refine st_mark _ rJ rJ rK rJ rJ rJ ?_) | refine st_clear _ (0 : UInt8) rJ rK rJ rJ rJ rJ rJ rO ?_ | refine st_clearT _ rJ rK rO rJ rJ rO rE ?_ | (apply exlAppend; first | refine st_app0 rJ rJ rE rD rJ rE rJ rE rJ rJ rJ rO (fun v o => ?_) | refine st_app _ rJ rE rK rE rD rJ rE rJ rE rJ rJ rJ rO (fun v o => ?_) | refine st_shift _ rJ rJ rJ rK rO rJ rJ rJ rO rO rE ?_)) | (refine Ex.cond_d rJ (fun h => ?_) (fun h => ?_) <;> try (exfalso; omega))))
  (first | refine fin_ret rS ?_ | refine fin_norm rS ?_)
  exact ⟨_, rB, rfl, rfl⟩
end Go.Proofs.Ytkcpgdkchglhhaa
/- Fields and elements of whole values. No condition. -/
namespace Go.Proofs.Ytkcpgdkchglhhaa
open Go.RowKit
set_option linter.unusedSimpArgs false
set_option linter.unusedVariables false
section
variable {P : Program} {f : Nat → Value} {L : List Assn} {d : Nat} {ty : TypeId} {pos : String} {af : Array Edge} {gd : Option (Nat × Bool)}
theorem extract_toArray (cs : List Value) (o m : Nat) : cs.toArray.extract o (o + m) = ((cs.drop o).take m).toArray := by
  simp [List.take_drop]
/-- x.f, of a whole structure: a structure or an array. -/
theorem vl_fieldV {s : TypeId} {x : Operand} {fi m : Nat} {fs : Array Field} {fd : Field} {cs ws : List Value} (hx : evalF f x = .agg cs.toArray) (hu : P.underlying s = some (.struct fs)) (hf : fs[fi]? = some fd) (hA : aggB P fd.type = some true) (hm : P.cellsOf fd.type = m)
    (hp : Nat.blt 0 m = true) (hl : seqL ((cs.drop fd.offset).take m) = some ws) : Val P ⟨some d, .field s x fi, ty, pos, af, gd⟩ f L (.agg ws.toArray) := fun F w h => by
  rw [← seqL_eq hl, ← extract_toArray]
  simp [execOp, hx, Instr.field, run_underlying hu, hf, asAgg, part, run_isAgg w hA, run_sizeOf' w hm (Nat.le_of_ble_eq_true hp)]
/-- x.f, of a whole structure: one cell. -/
theorem vl_field1V {s : TypeId} {x : Operand} {fi : Nat} {fs : Array Field} {fd : Field} {cs : List Value} {v : Value} (hx : evalF f x = .agg cs.toArray) (hu : P.underlying s = some (.struct fs)) (hf : fs[fi]? = some fd) (hA : aggB P fd.type = some false)
    (hl : cs[fd.offset]? = some v) : Val P ⟨some d, .field s x fi, ty, pos, af, gd⟩ f L v := fun F w h => by
  simp [execOp, hx, Instr.field, run_underlying hu, hf, asAgg, part, run_isAgg w hA, hl]
/-- x[j], of a whole array: one cell. -/
theorem vl_index1V {t e : TypeId} {x y : Operand} {k : IntKind} {n j : Nat} {cs : List Value} {v : Value} (hx : evalF f x = .agg cs.toArray) (hy : evalF f y = .int k (j : Int)) (hu : P.underlying t = some (.array n e)) (hA : aggB P e = some false) (hs : P.cellsOf e = 1) (hj : Nat.blt j n = true)
    (hl : cs[j]? = some v) : Val P ⟨some d, .index t x y, ty, pos, af, gd⟩ f L v := fun F w h => by
  have hj : j < n := Nat.le_of_ble_eq_true hj
  simp [execOp, hx, hy, Instr.index, run_underlying hu, asIntOf, part, run_isAgg w hA, run_sizeOf' w hs (Nat.succ_pos 0), hl, hj]
/-- c[j], of a whole clock, at any place. -/
theorem vl_indexC {t e : TypeId} {x y : Operand} {k : IntKind} {j : Int} {a b c d' e' : Int} (hx : evalF f x = .agg [.int .i64 a, .int .i64 b, .int .i64 c, .int .i64 d', .int .i64 e'].toArray) (hy : evalF f y = .int k j) (hu : P.underlying t = some (.array 5 e)) (hA : aggB P e = some false) (hs : P.cellsOf e = 1) (h0 : 0 ≤ j) (h1 : j < 5) :
    Val P ⟨some d, .index t x y, ty, pos, af, gd⟩ f L (.int .i64 ((⟨a, b, c, d', e'⟩ : Clk).get j.toNat)) := fun F w h => by
  obtain ⟨i, rfl⟩ := Int.eq_ofNat_of_zero_le h0
  have hi : i < 5 := by omega
  have hl : [Value.int .i64 a, .int .i64 b, .int .i64 c, .int .i64 d', .int .i64 e'][i]? = some (.int .i64 ((⟨a, b, c, d', e'⟩ : Clk).get i)) := by
    match i, hi with
    | 0, _ => rfl
    | 1, _ => rfl
    | 2, _ => rfl
    | 3, _ => rfl
    | 4, _ => rfl
  simp [execOp, hx, hy, Instr.index, run_underlying hu, asIntOf, part, run_isAgg w hA, run_sizeOf' w hs (Nat.succ_pos 0), hi]
  exact (List.getElem?_eq_some_iff.1 hl).2
end
end Go.Proofs.Ytkcpgdkchglhhaa
/- The document's example of layer 16. No condition. -/
namespace Go.Proofs.Ytkcpgdkchglhhaa
open Go.RowKit
set_option linter.unusedSimpArgs false
set_option linter.unusedVariables false
def x16 : Ev := ⟨0, 1, ⟨0, 0, 0, 0, 0⟩, 1, ⟨1, [99, 121], 0, []⟩⟩
def s16a : PSt := ⟨[Clk.zero, Clk.zero], [Sf.none, Sf.none]⟩
def s16b : PSt := ⟨[Clk.zero, Clk.zero], [⟨[x16], 0⟩, Sf.none]⟩
def s16c : PSt := ⟨[Clk.zero, ⟨1, 0, 0, 0, 0⟩], [⟨[x16], 0⟩, Sf.none]⟩
def s16d : PSt := ⟨[⟨1, 0, 0, 0, 0⟩, ⟨1, 0, 0, 0, 0⟩], [⟨[x16], 1⟩, Sf.none]⟩
theorem s16_push : s16a.push 1 0 [x16] = (1, 0, s16b) := by
  have h1 : GapOk (0 : Int) [x16] := fun h => ⟨by simp [x16], fun j hj => by
    have : j = 0 := by simpa using hj
    subst this; simp [x16]⟩
  have h2 : fresh (0 : Int) [x16] = [x16] := rfl
  have h3 : (Sf.none).put 1 [x16] = (0, ⟨[x16], 0⟩) := by
    unfold Sf.put Sf.none
    have : putR 1 (([] : List Ev).length : Nat) ((([] : List Ev).length - 0 : Nat) : Int) [x16] = (0, [x16]) := by
      rw [show ((([] : List Ev).length : Nat) : Int) = 0 from rfl, putR_ok h1 (by right; rw [h2]; decide), h2]
    rw [this]
    rfl
  unfold PSt.push
  rw [if_neg (by
    rintro (h | ⟨e, he, h⟩)
    · exact h (by decide)
    · rw [List.mem_singleton] at he
      subst he
      exact h rfl)]
  rw [show s16a.sf.getD (0 : Int).toNat Sf.none = Sf.none from rfl, h3]
  rfl
theorem x16_I : ∀ e ∈ [x16], I64 e.n := fun e he => by rw [List.mem_singleton] at he; subst he; exact ⟨by decide, by decide⟩
theorem s16_fetch : s16b.fetch 1 ⟨0, 0, 0, 0, 0⟩ = ([x16], 0) := by rfl
theorem s16_ack1 : s16b.ack 1 ⟨1, 0, 0, 0, 0⟩ = (0, s16c) := by rfl
theorem s16_ack2 : s16c.ack 0 ⟨1, 0, 0, 0, 0⟩ = (0, s16d) := by rfl
theorem s16_okA : s16a.Ok 1000000 := ⟨by decide, rfl, fun x hx => by simp [s16a, Sf.none] at hx; subst hx; exact ⟨Nat.le_refl _, by decide⟩⟩
theorem s16_okB : s16b.Ok 1000000 := ⟨by decide, rfl, fun x hx => by
  simp [s16b, Sf.none] at hx; rcases hx with rfl | rfl <;> exact ⟨by simp [Sf.Ok], by simp⟩⟩
theorem s16_okC : s16c.Ok 1000000 := ⟨by decide, rfl, fun x hx => by
  simp [s16c, Sf.none] at hx; rcases hx with rfl | rfl <;> exact ⟨by simp [Sf.Ok], by simp⟩⟩
theorem s16_okD : s16d.Ok 1000000 := ⟨by decide, rfl, fun x hx => by
  simp [s16d, Sf.none] at hx; rcases hx with rfl | rfl <;> exact ⟨by simp [Sf.Ok], by simp⟩⟩
theorem s16_new (M : List Assn) : Fn Try.prog 10 #[.agg (Rep.cells (⟨2, 1, 1, 2, 1, 1⟩ : Cfg)).toArray] M
    fun v L' => ∃ g : Nat, v = .pointer (some ⟨g, 0, none⟩) ∧ L' = PoA g 1 s16a :: M := post_NewA _ M
set_option maxRecDepth 20000 attribute [local irreducible] Ex ExL Fn thn inb rnd fin meet Tab Mix mxEnd Val Sats RdT Rd RowT Row Blk Sub Fac ResV RVal Evs subs subs3 Hid Capd
attribute [local irreducible] PoA
set_option maxHeartbeats 2000000 in
theorem shown16_fn (L : List Assn) : Fn Try.prog 8 #[] L fun v L' => v = .bool true ∧ L' = L := by
  refine Fn.of_ex Try.func8 rfl Try.ntmps8 rfl ?_
  (repeat' (first | refine ExL.val rJ rJ rJ rV ?_ | (first | refine Ex.seq ?_ | refine Ex.region ?_ | refine ExL.nil ?_ | refine thn_n ?_ | refine Ex.cond_t rJ ?_ | refine Ex.cond_f rJ ?_ | refine Ex.skip ?_ | refine Ex.block ?_ | refine Ex.exit ?_ | refine Ex.ret ?_ | refine thn_exit ?_ | refine thn_ret ?_ | refine inb_n ?_ | refine inb_hit rJ ?_ | refine inb_miss rJ ?_ | refine inb_ret ?_ | refine rnd_exit ?_ | refine rnd_ret ?_ | refine meet_ret ?_ | refine meet_exit ?_) | (apply exlGuard; first | refine ExL.gskip rJ rJ rJ rJ rJ rJ ?_ | refine ExL.gtake rJ rJ rJ rJ ?_ | refine ExL.gskipU rJ rJ rJ rJ ?_ | (refine ExL.gsplit rJ rJ rJ (fun h => ?_) (fun h => ?_) <;> try (exfalso; omega))) | (first | refine st_new_ rJ rE (fun g => ?_) | refine st_boxA rJ rJ (fun g => ?_) | refine st_box1 rJ rE rN (fun g => ?_) | (apply exlStore; first | refine st_store1_ _ rJ rK rE rN rJ rJ rE rE ?_ | refine st_storeW_ _ rJ rK rJ rC rJ rJ rJ rE ?_ | refine st_storeR _ rJ rK rJ rE rJ rJ rE ?_ | refine st_storeA_ _ rJ rK rJ rC rJ rJ rJ rE rE ?_ | refine st_storeB _ rJ rJ rO rO rK rJ rO ?_ | refine st_storeG _ rJ rK rE rN rJ rO (fun cs hcs => ?_)) | refine st_slice0 rJ rJ rJ rJ (fun g => ?_) | refine st_slice1T rJ rJ rJ rJ (fun g => ?_) | refine st_makeT rJ rJ rJ rJ rE rJ rO rO (fun v o => ?_) | (apply exlCopy; first | refine st_copyW _ rJ rE rK rE rD rJ rE rJ (fun zs hzs => ?_) | refine st_copyS _ rJ rJ rK rE rD rJ rE rJ rO rO (fun zs hzs => ?_)) | refine st_sliceB rJ rJ rJ rJ rJ rJ rJ rL rE rE rJ (fun g => ?_) | refine st_slice1I rJ rJ rJ rJ rJ rJ (fun g => ?_) | refine st_slice1B rJ rJ rJ rJ rJ rJ rO rO (fun g => ?_) | refine st_slice1S rJ rJ rJ rJ rJ rJ (fun g => ?_) | refine st_slice2B rJ rJ rJ rJ rJ rJ rJ rO rO rO rO (fun g => ?_) | (apply exlConv; first | refine st_bytes rJ rJ rJ rJ rJ rO (fun v o => ?_) | refine st_mark _ rJ rJ rK rJ rJ rJ ?_) | refine st_clear _ (0 : UInt8) rJ rK rJ rJ rJ rJ rJ rO ?_ | refine st_clearT _ rJ rK rO rJ rJ rO rE ?_ | (apply exlAppend; first | refine st_app0 rJ rJ rE rD rJ rE rJ rE rJ rJ rJ rO (fun v o => ?_) | refine st_app _ rJ rE rK rE rD rJ rE rJ rE rJ rJ rJ rO (fun v o => ?_) | refine st_shift _ rJ rJ rJ rK rO rJ rJ rJ rO rO rE ?_)) | (refine Ex.cond_d rJ (fun h => ?_) (fun h => ?_) <;> try (exfalso; omega))))
  refine st_callIs [] rJ Try.call10 rJ rJ (s16_new _) ?_
  rintro _ _ ⟨g0, rfl, rfl⟩
  (repeat' (first | refine ExL.val rJ rJ rJ rV ?_ | (first | refine Ex.seq ?_ | refine Ex.region ?_ | refine ExL.nil ?_ | refine thn_n ?_ | refine Ex.cond_t rJ ?_ | refine Ex.cond_f rJ ?_ | refine Ex.skip ?_ | refine Ex.block ?_ | refine Ex.exit ?_ | refine Ex.ret ?_ | refine thn_exit ?_ | refine thn_ret ?_ | refine inb_n ?_ | refine inb_hit rJ ?_ | refine inb_miss rJ ?_ | refine inb_ret ?_ | refine rnd_exit ?_ | refine rnd_ret ?_ | refine meet_ret ?_ | refine meet_exit ?_) | (apply exlGuard; first | refine ExL.gskip rJ rJ rJ rJ rJ rJ ?_ | refine ExL.gtake rJ rJ rJ rJ ?_ | refine ExL.gskipU rJ rJ rJ rJ ?_ | (refine ExL.gsplit rJ rJ rJ (fun h => ?_) (fun h => ?_) <;> try (exfalso; omega))) | (first | refine st_new_ rJ rE (fun g => ?_) | refine st_boxA rJ rJ (fun g => ?_) | refine st_box1 rJ rE rN (fun g => ?_) | (apply exlStore; first | refine st_store1_ _ rJ rK rE rN rJ rJ rE rE ?_ | refine st_storeW_ _ rJ rK rJ rC rJ rJ rJ rE ?_ | refine st_storeR _ rJ rK rJ rE rJ rJ rE ?_ | refine st_storeA_ _ rJ rK rJ rC rJ rJ rJ rE rE ?_ | refine st_storeB _ rJ rJ rO rO rK rJ rO ?_ | refine st_storeG _ rJ rK rE rN rJ rO (fun cs hcs => ?_)) | refine st_slice0 rJ rJ rJ rJ (fun g => ?_) | refine st_slice1T rJ rJ rJ rJ (fun g => ?_) | refine st_makeT rJ rJ rJ rJ rE rJ rO rO (fun v o => ?_) | (apply exlCopy; first | refine st_copyW _ rJ rE rK rE rD rJ rE rJ (fun zs hzs => ?_) | refine st_copyS _ rJ rJ rK rE rD rJ rE rJ rO rO (fun zs hzs => ?_)) | refine st_sliceB rJ rJ rJ rJ rJ rJ rJ rL rE rE rJ (fun g => ?_) | refine st_slice1I rJ rJ rJ rJ rJ rJ (fun g => ?_) | refine st_slice1B rJ rJ rJ rJ rJ rJ rO rO (fun g => ?_) | refine st_slice1S rJ rJ rJ rJ rJ rJ (fun g => ?_) | refine st_slice2B rJ rJ rJ rJ rJ rJ rJ rO rO rO rO (fun g => ?_) | (apply exlConv; first | refine st_bytes rJ rJ rJ rJ rJ rO (fun v o => ?_) | refine st_mark _ rJ rJ rK rJ rJ rJ ?_) | refine st_clear _ (0 : UInt8) rJ rK rJ rJ rJ rJ rJ rO ?_ | refine st_clearT _ rJ rK rO rJ rJ rO rE ?_ | (apply exlAppend; first | refine st_app0 rJ rJ rE rD rJ rE rJ rE rJ rJ rJ rO (fun v o => ?_) | refine st_app _ rJ rE rK rE rD rJ rE rJ rE rJ rJ rJ rO (fun v o => ?_) | refine st_shift _ rJ rJ rJ rK rO rJ rJ rJ rO rO rE ?_)) | (refine Ex.cond_d rJ (fun h => ?_) (fun h => ?_) <;> try (exfalso; omega))))
  refine st_slice1T (a := x16) rJ rJ rJ rJ (fun g2 => ?_)
  refine st_callIs [2] rJ Try.call15 rE rJ (post_PushA g0 1 s16a 0 _ [x16] _ s16_okA rD (by decide) x16_I) ?_
  rw [s16_push]
  rintro _ _ ⟨rfl, rfl⟩
  (repeat' (first | refine ExL.val rJ rJ rJ rV ?_ | (first | refine Ex.seq ?_ | refine Ex.region ?_ | refine ExL.nil ?_ | refine thn_n ?_ | refine Ex.cond_t rJ ?_ | refine Ex.cond_f rJ ?_ | refine Ex.skip ?_ | refine Ex.block ?_ | refine Ex.exit ?_ | refine Ex.ret ?_ | refine thn_exit ?_ | refine thn_ret ?_ | refine inb_n ?_ | refine inb_hit rJ ?_ | refine inb_miss rJ ?_ | refine inb_ret ?_ | refine rnd_exit ?_ | refine rnd_ret ?_ | refine meet_ret ?_ | refine meet_exit ?_) | (apply exlGuard; first | refine ExL.gskip rJ rJ rJ rJ rJ rJ ?_ | refine ExL.gtake rJ rJ rJ rJ ?_ | refine ExL.gskipU rJ rJ rJ rJ ?_ | (refine ExL.gsplit rJ rJ rJ (fun h => ?_) (fun h => ?_) <;> try (exfalso; omega))) | (first | refine st_new_ rJ rE (fun g => ?_) | refine st_boxA rJ rJ (fun g => ?_) | refine st_box1 rJ rE rN (fun g => ?_) | (apply exlStore; first | refine st_store1_ _ rJ rK rE rN rJ rJ rE rE ?_ | refine st_storeW_ _ rJ rK rJ rC rJ rJ rJ rE ?_ | refine st_storeR _ rJ rK rJ rE rJ rJ rE ?_ | refine st_storeA_ _ rJ rK rJ rC rJ rJ rJ rE rE ?_ | refine st_storeB _ rJ rJ rO rO rK rJ rO ?_ | refine st_storeG _ rJ rK rE rN rJ rO (fun cs hcs => ?_)) | refine st_slice0 rJ rJ rJ rJ (fun g => ?_) | refine st_slice1T rJ rJ rJ rJ (fun g => ?_) | refine st_makeT rJ rJ rJ rJ rE rJ rO rO (fun v o => ?_) | (apply exlCopy; first | refine st_copyW _ rJ rE rK rE rD rJ rE rJ (fun zs hzs => ?_) | refine st_copyS _ rJ rJ rK rE rD rJ rE rJ rO rO (fun zs hzs => ?_)) | refine st_sliceB rJ rJ rJ rJ rJ rJ rJ rL rE rE rJ (fun g => ?_) | refine st_slice1I rJ rJ rJ rJ rJ rJ (fun g => ?_) | refine st_slice1B rJ rJ rJ rJ rJ rJ rO rO (fun g => ?_) | refine st_slice1S rJ rJ rJ rJ rJ rJ (fun g => ?_) | refine st_slice2B rJ rJ rJ rJ rJ rJ rJ rO rO rO rO (fun g => ?_) | (apply exlConv; first | refine st_bytes rJ rJ rJ rJ rJ rO (fun v o => ?_) | refine st_mark _ rJ rJ rK rJ rJ rJ ?_) | refine st_clear _ (0 : UInt8) rJ rK rJ rJ rJ rJ rJ rO ?_ | refine st_clearT _ rJ rK rO rJ rJ rO rE ?_ | (apply exlAppend; first | refine st_app0 rJ rJ rE rD rJ rE rJ rE rJ rJ rJ rO (fun v o => ?_) | refine st_app _ rJ rE rK rE rD rJ rE rJ rE rJ rJ rJ rO (fun v o => ?_) | refine st_shift _ rJ rJ rJ rK rO rJ rJ rJ rO rO rE ?_)) | (refine Ex.cond_d rJ (fun h => ?_) (fun h => ?_) <;> try (exfalso; omega))))
  refine st_callIs [] rJ Try.call19 rE rJ (post_FetchA g0 1 s16b 1 ⟨0, 0, 0, 0, 0⟩ _ s16_okB) ?_
  rw [s16_fetch]
  rintro _ _ ⟨u, ou, rfl, rfl⟩
  (repeat' (first | refine ExL.val rJ rJ rJ rV ?_ | (first | refine Ex.seq ?_ | refine Ex.region ?_ | refine ExL.nil ?_ | refine thn_n ?_ | refine Ex.cond_t rJ ?_ | refine Ex.cond_f rJ ?_ | refine Ex.skip ?_ | refine Ex.block ?_ | refine Ex.exit ?_ | refine Ex.ret ?_ | refine thn_exit ?_ | refine thn_ret ?_ | refine inb_n ?_ | refine inb_hit rJ ?_ | refine inb_miss rJ ?_ | refine inb_ret ?_ | refine rnd_exit ?_ | refine rnd_ret ?_ | refine meet_ret ?_ | refine meet_exit ?_) | (apply exlGuard; first | refine ExL.gskip rJ rJ rJ rJ rJ rJ ?_ | refine ExL.gtake rJ rJ rJ rJ ?_ | refine ExL.gskipU rJ rJ rJ rJ ?_ | (refine ExL.gsplit rJ rJ rJ (fun h => ?_) (fun h => ?_) <;> try (exfalso; omega))) | (first | refine st_new_ rJ rE (fun g => ?_) | refine st_boxA rJ rJ (fun g => ?_) | refine st_box1 rJ rE rN (fun g => ?_) | (apply exlStore; first | refine st_store1_ _ rJ rK rE rN rJ rJ rE rE ?_ | refine st_storeW_ _ rJ rK rJ rC rJ rJ rJ rE ?_ | refine st_storeR _ rJ rK rJ rE rJ rJ rE ?_ | refine st_storeA_ _ rJ rK rJ rC rJ rJ rJ rE rE ?_ | refine st_storeB _ rJ rJ rO rO rK rJ rO ?_ | refine st_storeG _ rJ rK rE rN rJ rO (fun cs hcs => ?_)) | refine st_slice0 rJ rJ rJ rJ (fun g => ?_) | refine st_slice1T rJ rJ rJ rJ (fun g => ?_) | refine st_makeT rJ rJ rJ rJ rE rJ rO rO (fun v o => ?_) | (apply exlCopy; first | refine st_copyW _ rJ rE rK rE rD rJ rE rJ (fun zs hzs => ?_) | refine st_copyS _ rJ rJ rK rE rD rJ rE rJ rO rO (fun zs hzs => ?_)) | refine st_sliceB rJ rJ rJ rJ rJ rJ rJ rL rE rE rJ (fun g => ?_) | refine st_slice1I rJ rJ rJ rJ rJ rJ (fun g => ?_) | refine st_slice1B rJ rJ rJ rJ rJ rJ rO rO (fun g => ?_) | refine st_slice1S rJ rJ rJ rJ rJ rJ (fun g => ?_) | refine st_slice2B rJ rJ rJ rJ rJ rJ rJ rO rO rO rO (fun g => ?_) | (apply exlConv; first | refine st_bytes rJ rJ rJ rJ rJ rO (fun v o => ?_) | refine st_mark _ rJ rJ rK rJ rJ rJ ?_) | refine st_clear _ (0 : UInt8) rJ rK rJ rJ rJ rJ rJ rO ?_ | refine st_clearT _ rJ rK rO rJ rJ rO rE ?_ | (apply exlAppend; first | refine st_app0 rJ rJ rE rD rJ rE rJ rE rJ rJ rJ rO (fun v o => ?_) | refine st_app _ rJ rE rK rE rD rJ rE rJ rE rJ rJ rJ rO (fun v o => ?_) | refine st_shift _ rJ rJ rJ rK rO rJ rJ rJ rO rO rE ?_)) | (refine Ex.cond_d rJ (fun h => ?_) (fun h => ?_) <;> try (exfalso; omega))))
  refine st_callIs [1] rJ Try.call17 rE rJ (post_AckA g0 1 s16b 1 ⟨1, 0, 0, 0, 0⟩ _ s16_okB) ?_
  rw [s16_ack1]
  rintro _ _ ⟨rfl, rfl⟩
  (repeat' (first | refine ExL.val rJ rJ rJ rV ?_ | (first | refine Ex.seq ?_ | refine Ex.region ?_ | refine ExL.nil ?_ | refine thn_n ?_ | refine Ex.cond_t rJ ?_ | refine Ex.cond_f rJ ?_ | refine Ex.skip ?_ | refine Ex.block ?_ | refine Ex.exit ?_ | refine Ex.ret ?_ | refine thn_exit ?_ | refine thn_ret ?_ | refine inb_n ?_ | refine inb_hit rJ ?_ | refine inb_miss rJ ?_ | refine inb_ret ?_ | refine rnd_exit ?_ | refine rnd_ret ?_ | refine meet_ret ?_ | refine meet_exit ?_) | (apply exlGuard; first | refine ExL.gskip rJ rJ rJ rJ rJ rJ ?_ | refine ExL.gtake rJ rJ rJ rJ ?_ | refine ExL.gskipU rJ rJ rJ rJ ?_ | (refine ExL.gsplit rJ rJ rJ (fun h => ?_) (fun h => ?_) <;> try (exfalso; omega))) | (first | refine st_new_ rJ rE (fun g => ?_) | refine st_boxA rJ rJ (fun g => ?_) | refine st_box1 rJ rE rN (fun g => ?_) | (apply exlStore; first | refine st_store1_ _ rJ rK rE rN rJ rJ rE rE ?_ | refine st_storeW_ _ rJ rK rJ rC rJ rJ rJ rE ?_ | refine st_storeR _ rJ rK rJ rE rJ rJ rE ?_ | refine st_storeA_ _ rJ rK rJ rC rJ rJ rJ rE rE ?_ | refine st_storeB _ rJ rJ rO rO rK rJ rO ?_ | refine st_storeG _ rJ rK rE rN rJ rO (fun cs hcs => ?_)) | refine st_slice0 rJ rJ rJ rJ (fun g => ?_) | refine st_slice1T rJ rJ rJ rJ (fun g => ?_) | refine st_makeT rJ rJ rJ rJ rE rJ rO rO (fun v o => ?_) | (apply exlCopy; first | refine st_copyW _ rJ rE rK rE rD rJ rE rJ (fun zs hzs => ?_) | refine st_copyS _ rJ rJ rK rE rD rJ rE rJ rO rO (fun zs hzs => ?_)) | refine st_sliceB rJ rJ rJ rJ rJ rJ rJ rL rE rE rJ (fun g => ?_) | refine st_slice1I rJ rJ rJ rJ rJ rJ (fun g => ?_) | refine st_slice1B rJ rJ rJ rJ rJ rJ rO rO (fun g => ?_) | refine st_slice1S rJ rJ rJ rJ rJ rJ (fun g => ?_) | refine st_slice2B rJ rJ rJ rJ rJ rJ rJ rO rO rO rO (fun g => ?_) | (apply exlConv; first | refine st_bytes rJ rJ rJ rJ rJ rO (fun v o => ?_) | refine st_mark _ rJ rJ rK rJ rJ rJ ?_) | refine st_clear _ (0 : UInt8) rJ rK rJ rJ rJ rJ rJ rO ?_ | refine st_clearT _ rJ rK rO rJ rJ rO rE ?_ | (apply exlAppend; first | refine st_app0 rJ rJ rE rD rJ rE rJ rE rJ rJ rJ rO (fun v o => ?_) | refine st_app _ rJ rE rK rE rD rJ rE rJ rE rJ rJ rJ rO (fun v o => ?_) | refine st_shift _ rJ rJ rJ rK rO rJ rJ rJ rO rO rE ?_)) | (refine Ex.cond_d rJ (fun h => ?_) (fun h => ?_) <;> try (exfalso; omega))))
  refine st_callIs [] rJ Try.call13 rE rJ (post_SiteA g0 1 s16c _ s16_okC) ?_
  rintro _ _ ⟨rfl, rfl⟩
  (repeat' (first | refine ExL.val rJ rJ rJ rV ?_ | (first | refine Ex.seq ?_ | refine Ex.region ?_ | refine ExL.nil ?_ | refine thn_n ?_ | refine Ex.cond_t rJ ?_ | refine Ex.cond_f rJ ?_ | refine Ex.skip ?_ | refine Ex.block ?_ | refine Ex.exit ?_ | refine Ex.ret ?_ | refine thn_exit ?_ | refine thn_ret ?_ | refine inb_n ?_ | refine inb_hit rJ ?_ | refine inb_miss rJ ?_ | refine inb_ret ?_ | refine rnd_exit ?_ | refine rnd_ret ?_ | refine meet_ret ?_ | refine meet_exit ?_) | (apply exlGuard; first | refine ExL.gskip rJ rJ rJ rJ rJ rJ ?_ | refine ExL.gtake rJ rJ rJ rJ ?_ | refine ExL.gskipU rJ rJ rJ rJ ?_ | (refine ExL.gsplit rJ rJ rJ (fun h => ?_) (fun h => ?_) <;> try (exfalso; omega))) | (first | refine st_new_ rJ rE (fun g => ?_) | refine st_boxA rJ rJ (fun g => ?_) | refine st_box1 rJ rE rN (fun g => ?_) | (apply exlStore; first | refine st_store1_ _ rJ rK rE rN rJ rJ rE rE ?_ | refine st_storeW_ _ rJ rK rJ rC rJ rJ rJ rE ?_ | refine st_storeR _ rJ rK rJ rE rJ rJ rE ?_ | refine st_storeA_ _ rJ rK rJ rC rJ rJ rJ rE rE ?_ | refine st_storeB _ rJ rJ rO rO rK rJ rO ?_ | refine st_storeG _ rJ rK rE rN rJ rO (fun cs hcs => ?_)) | refine st_slice0 rJ rJ rJ rJ (fun g => ?_) | refine st_slice1T rJ rJ rJ rJ (fun g => ?_) | refine st_makeT rJ rJ rJ rJ rE rJ rO rO (fun v o => ?_) | (apply exlCopy; first | refine st_copyW _ rJ rE rK rE rD rJ rE rJ (fun zs hzs => ?_) | refine st_copyS _ rJ rJ rK rE rD rJ rE rJ rO rO (fun zs hzs => ?_)) | refine st_sliceB rJ rJ rJ rJ rJ rJ rJ rL rE rE rJ (fun g => ?_) | refine st_slice1I rJ rJ rJ rJ rJ rJ (fun g => ?_) | refine st_slice1B rJ rJ rJ rJ rJ rJ rO rO (fun g => ?_) | refine st_slice1S rJ rJ rJ rJ rJ rJ (fun g => ?_) | refine st_slice2B rJ rJ rJ rJ rJ rJ rJ rO rO rO rO (fun g => ?_) | (apply exlConv; first | refine st_bytes rJ rJ rJ rJ rJ rO (fun v o => ?_) | refine st_mark _ rJ rJ rK rJ rJ rJ ?_) | refine st_clear _ (0 : UInt8) rJ rK rJ rJ rJ rJ rJ rO ?_ | refine st_clearT _ rJ rK rO rJ rJ rO rE ?_ | (apply exlAppend; first | refine st_app0 rJ rJ rE rD rJ rE rJ rE rJ rJ rJ rO (fun v o => ?_) | refine st_app _ rJ rE rK rE rD rJ rE rJ rE rJ rJ rJ rO (fun v o => ?_) | refine st_shift _ rJ rJ rJ rK rO rJ rJ rJ rO rO rE ?_)) | (refine Ex.cond_d rJ (fun h => ?_) (fun h => ?_) <;> try (exfalso; omega))))
  refine st_callIs [1] rJ Try.call17 rE rJ (post_AckA g0 1 s16c 0 ⟨1, 0, 0, 0, 0⟩ _ s16_okC) ?_
  rw [s16_ack2]
  rintro _ _ ⟨rfl, rfl⟩
  (repeat' (first | refine ExL.val rJ rJ rJ rV ?_ | (first | refine Ex.seq ?_ | refine Ex.region ?_ | refine ExL.nil ?_ | refine thn_n ?_ | refine Ex.cond_t rJ ?_ | refine Ex.cond_f rJ ?_ | refine Ex.skip ?_ | refine Ex.block ?_ | refine Ex.exit ?_ | refine Ex.ret ?_ | refine thn_exit ?_ | refine thn_ret ?_ | refine inb_n ?_ | refine inb_hit rJ ?_ | refine inb_miss rJ ?_ | refine inb_ret ?_ | refine rnd_exit ?_ | refine rnd_ret ?_ | refine meet_ret ?_ | refine meet_exit ?_) | (apply exlGuard; first | refine ExL.gskip rJ rJ rJ rJ rJ rJ ?_ | refine ExL.gtake rJ rJ rJ rJ ?_ | refine ExL.gskipU rJ rJ rJ rJ ?_ | (refine ExL.gsplit rJ rJ rJ (fun h => ?_) (fun h => ?_) <;> try (exfalso; omega))) | (first | refine st_new_ rJ rE (fun g => ?_) | refine st_boxA rJ rJ (fun g => ?_) | refine st_box1 rJ rE rN (fun g => ?_) | (apply exlStore; first | refine st_store1_ _ rJ rK rE rN rJ rJ rE rE ?_ | refine st_storeW_ _ rJ rK rJ rC rJ rJ rJ rE ?_ | refine st_storeR _ rJ rK rJ rE rJ rJ rE ?_ | refine st_storeA_ _ rJ rK rJ rC rJ rJ rJ rE rE ?_ | refine st_storeB _ rJ rJ rO rO rK rJ rO ?_ | refine st_storeG _ rJ rK rE rN rJ rO (fun cs hcs => ?_)) | refine st_slice0 rJ rJ rJ rJ (fun g => ?_) | refine st_slice1T rJ rJ rJ rJ (fun g => ?_) | refine st_makeT rJ rJ rJ rJ rE rJ rO rO (fun v o => ?_) | (apply exlCopy; first | refine st_copyW _ rJ rE rK rE rD rJ rE rJ (fun zs hzs => ?_) | refine st_copyS _ rJ rJ rK rE rD rJ rE rJ rO rO (fun zs hzs => ?_)) | refine st_sliceB rJ rJ rJ rJ rJ rJ rJ rL rE rE rJ (fun g => ?_) | refine st_slice1I rJ rJ rJ rJ rJ rJ (fun g => ?_) | refine st_slice1B rJ rJ rJ rJ rJ rJ rO rO (fun g => ?_) | refine st_slice1S rJ rJ rJ rJ rJ rJ (fun g => ?_) | refine st_slice2B rJ rJ rJ rJ rJ rJ rJ rO rO rO rO (fun g => ?_) | (apply exlConv; first | refine st_bytes rJ rJ rJ rJ rJ rO (fun v o => ?_) | refine st_mark _ rJ rJ rK rJ rJ rJ ?_) | refine st_clear _ (0 : UInt8) rJ rK rJ rJ rJ rJ rJ rO ?_ | refine st_clearT _ rJ rK rO rJ rJ rO rE ?_ | (apply exlAppend; first | refine st_app0 rJ rJ rE rD rJ rE rJ rE rJ rJ rJ rO (fun v o => ?_) | refine st_app _ rJ rE rK rE rD rJ rE rJ rE rJ rJ rJ rO (fun v o => ?_) | refine st_shift _ rJ rJ rJ rK rO rJ rJ rJ rO rO rE ?_)) | (refine Ex.cond_d rJ (fun h => ?_) (fun h => ?_) <;> try (exfalso; omega))))
  (refine Ex.mixA 43 _ rfl (by kernel_rfl) rF ?_; (repeat' (first | refine mx_val rJ rJ rJ rV ?_ | refine mx_nil ?_ | (first | refine mx_gskip rJ rJ rJ rJ ?_ | refine mx_gtake rJ rJ rJ ?_ | refine mx_gskipU rJ rJ rJ ?_) | (first | refine mx_slice1T rJ rJ rJ rJ (fun g => ?_) | refine mx_slice1I rJ rJ rJ rJ rJ rJ (fun g => ?_) | refine mx_slice1B rJ rJ rJ rJ rJ rJ rO rO (fun g => ?_) | refine mx_slice1S rJ rJ rJ rJ rJ rJ (fun g => ?_) | refine mx_slice2B rJ rJ rJ rJ rJ rJ rJ rO rO rO rO (fun g => ?_) | refine mx_alloc rJ rE (fun g => ?_) | refine mx_boxA rJ rJ (fun g => ?_) | refine mx_slice0 rJ rJ rJ rJ (fun g => ?_)) | (refine mx_gsplit rJ rJ rJ (fun h => ?_) (fun h => ?_) <;> try (exfalso; omega)) | (refine mx_act rJ rJ rJ ?_; (first | (apply exlCopy; first | refine st_copyW _ rJ rE rK rE rD rJ rE rJ (fun zs hzs => ?_) | refine st_copyS _ rJ rJ rK rE rD rJ rE rJ rO rO (fun zs hzs => ?_)) | (apply exlAppend; first | refine st_app0 rJ rJ rE rD rJ rE rJ rE rJ rJ rJ rO (fun v o => ?_) | refine st_app _ rJ rE rK rE rD rJ rE rJ rE rJ rJ rJ rO (fun v o => ?_) | refine st_shift _ rJ rJ rJ rK rO rJ rJ rJ rO rO rE ?_)); refine ExL.nil ?_; refine mxEnd_n rF ?_))))
  refine mx_val rJ rJ rJ (vl_eqlT_t (a := x16) (b := x16) rJ rJ rJ) ?_
  (repeat' (first | refine mx_val rJ rJ rJ rV ?_ | refine mx_nil ?_ | (first | refine mx_gskip rJ rJ rJ rJ ?_ | refine mx_gtake rJ rJ rJ ?_ | refine mx_gskipU rJ rJ rJ ?_) | (first | refine mx_slice1T rJ rJ rJ rJ (fun g => ?_) | refine mx_slice1I rJ rJ rJ rJ rJ rJ (fun g => ?_) | refine mx_slice1B rJ rJ rJ rJ rJ rJ rO rO (fun g => ?_) | refine mx_slice1S rJ rJ rJ rJ rJ rJ (fun g => ?_) | refine mx_slice2B rJ rJ rJ rJ rJ rJ rJ rO rO rO rO (fun g => ?_) | refine mx_alloc rJ rE (fun g => ?_) | refine mx_boxA rJ rJ (fun g => ?_) | refine mx_slice0 rJ rJ rJ rJ (fun g => ?_)) | (refine mx_gsplit rJ rJ rJ (fun h => ?_) (fun h => ?_) <;> try (exfalso; omega)) | (refine mx_act rJ rJ rJ ?_; (first | (apply exlCopy; first | refine st_copyW _ rJ rE rK rE rD rJ rE rJ (fun zs hzs => ?_) | refine st_copyS _ rJ rJ rK rE rD rJ rE rJ rO rO (fun zs hzs => ?_)) | (apply exlAppend; first | refine st_app0 rJ rJ rE rD rJ rE rJ rE rJ rJ rJ rO (fun v o => ?_) | refine st_app _ rJ rE rK rE rD rJ rE rJ rE rJ rJ rJ rO (fun v o => ?_) | refine st_shift _ rJ rJ rJ rK rO rJ rJ rJ rO rO rE ?_)); refine ExL.nil ?_; refine mxEnd_n rF ?_)))
  (refine mx_act rJ rJ rJ ?_; refine st_callIs [] rJ Try.call13 rE rJ (post_SiteA g0 1 s16d _ s16_okD) ?_)
  rintro _ _ ⟨rfl, rfl⟩
  refine ExL.nil ?_; refine mxEnd_n rF ?_
  (first | refine mx_gskip rJ rJ rJ rJ ?_ | refine mx_gtake rJ rJ rJ ?_ | refine mx_gskipU rJ rJ rJ ?_)
  refine mx_val rJ rJ rJ (vl_fieldV rJ rJ rJ rJ rJ rJ rE) ?_
  (first | refine mx_gskip rJ rJ rJ rJ ?_ | refine mx_gtake rJ rJ rJ ?_ | refine mx_gskipU rJ rJ rJ ?_)
  refine mx_val rJ rJ rJ (vl_index1V (j := 0) rJ rJ rJ rJ rJ rJ rE) ?_
  (repeat' (first | refine mx_val rJ rJ rJ rV ?_ | refine mx_nil ?_ | (first | refine mx_gskip rJ rJ rJ rJ ?_ | refine mx_gtake rJ rJ rJ ?_ | refine mx_gskipU rJ rJ rJ ?_) | (first | refine mx_slice1T rJ rJ rJ rJ (fun g => ?_) | refine mx_slice1I rJ rJ rJ rJ rJ rJ (fun g => ?_) | refine mx_slice1B rJ rJ rJ rJ rJ rJ rO rO (fun g => ?_) | refine mx_slice1S rJ rJ rJ rJ rJ rJ (fun g => ?_) | refine mx_slice2B rJ rJ rJ rJ rJ rJ rJ rO rO rO rO (fun g => ?_) | refine mx_alloc rJ rE (fun g => ?_) | refine mx_boxA rJ rJ (fun g => ?_) | refine mx_slice0 rJ rJ rJ rJ (fun g => ?_)) | (refine mx_gsplit rJ rJ rJ (fun h => ?_) (fun h => ?_) <;> try (exfalso; omega)) | (refine mx_act rJ rJ rJ ?_; (first | (apply exlCopy; first | refine st_copyW _ rJ rE rK rE rD rJ rE rJ (fun zs hzs => ?_) | refine st_copyS _ rJ rJ rK rE rD rJ rE rJ rO rO (fun zs hzs => ?_)) | (apply exlAppend; first | refine st_app0 rJ rJ rE rD rJ rE rJ rE rJ rJ rJ rO (fun v o => ?_) | refine st_app _ rJ rE rK rE rD rJ rE rJ rE rJ rJ rJ rO (fun v o => ?_) | refine st_shift _ rJ rJ rJ rK rO rJ rJ rJ rO rO rE ?_)); refine ExL.nil ?_; refine mxEnd_n rF ?_)))
  (repeat' (first | refine ExL.val rJ rJ rJ rV ?_ | (first | refine Ex.seq ?_ | refine Ex.region ?_ | refine ExL.nil ?_ | refine thn_n ?_ | refine Ex.cond_t rJ ?_ | refine Ex.cond_f rJ ?_ | refine Ex.skip ?_ | refine Ex.block ?_ | refine Ex.exit ?_ | refine Ex.ret ?_ | refine thn_exit ?_ | refine thn_ret ?_ | refine inb_n ?_ | refine inb_hit rJ ?_ | refine inb_miss rJ ?_ | refine inb_ret ?_ | refine rnd_exit ?_ | refine rnd_ret ?_ | refine meet_ret ?_ | refine meet_exit ?_) | (apply exlGuard; first | refine ExL.gskip rJ rJ rJ rJ rJ rJ ?_ | refine ExL.gtake rJ rJ rJ rJ ?_ | refine ExL.gskipU rJ rJ rJ rJ ?_ | (refine ExL.gsplit rJ rJ rJ (fun h => ?_) (fun h => ?_) <;> try (exfalso; omega))) | (first | refine st_new_ rJ rE (fun g => ?_) | refine st_boxA rJ rJ (fun g => ?_) | refine st_box1 rJ rE rN (fun g => ?_) | (apply exlStore; first | refine st_store1_ _ rJ rK rE rN rJ rJ rE rE ?_ | refine st_storeW_ _ rJ rK rJ rC rJ rJ rJ rE ?_ | refine st_storeR _ rJ rK rJ rE rJ rJ rE ?_ | refine st_storeA_ _ rJ rK rJ rC rJ rJ rJ rE rE ?_ | refine st_storeB _ rJ rJ rO rO rK rJ rO ?_ | refine st_storeG _ rJ rK rE rN rJ rO (fun cs hcs => ?_)) | refine st_slice0 rJ rJ rJ rJ (fun g => ?_) | refine st_slice1T rJ rJ rJ rJ (fun g => ?_) | refine st_makeT rJ rJ rJ rJ rE rJ rO rO (fun v o => ?_) | (apply exlCopy; first | refine st_copyW _ rJ rE rK rE rD rJ rE rJ (fun zs hzs => ?_) | refine st_copyS _ rJ rJ rK rE rD rJ rE rJ rO rO (fun zs hzs => ?_)) | refine st_sliceB rJ rJ rJ rJ rJ rJ rJ rL rE rE rJ (fun g => ?_) | refine st_slice1I rJ rJ rJ rJ rJ rJ (fun g => ?_) | refine st_slice1B rJ rJ rJ rJ rJ rJ rO rO (fun g => ?_) | refine st_slice1S rJ rJ rJ rJ rJ rJ (fun g => ?_) | refine st_slice2B rJ rJ rJ rJ rJ rJ rJ rO rO rO rO (fun g => ?_) | (apply exlConv; first | refine st_bytes rJ rJ rJ rJ rJ rO (fun v o => ?_) | refine st_mark _ rJ rJ rK rJ rJ rJ ?_) | refine st_clear _ (0 : UInt8) rJ rK rJ rJ rJ rJ rJ rO ?_ | refine st_clearT _ rJ rK rO rJ rJ rO rE ?_ | (apply exlAppend; first | refine st_app0 rJ rJ rE rD rJ rE rJ rE rJ rJ rJ rO (fun v o => ?_) | refine st_app _ rJ rE rK rE rD rJ rE rJ rE rJ rJ rJ rO (fun v o => ?_) | refine st_shift _ rJ rJ rJ rK rO rJ rJ rJ rO rO rE ?_)) | (refine Ex.cond_d rJ (fun h => ?_) (fun h => ?_) <;> try (exfalso; omega))))
  (first | refine fin_ret rS ?_ | refine fin_norm rS ?_)
  exact ⟨_, rB, rfl, rfl⟩
end Go.Proofs.Ytkcpgdkchglhhaa
