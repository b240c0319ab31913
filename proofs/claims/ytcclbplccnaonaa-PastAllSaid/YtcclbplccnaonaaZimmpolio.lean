/- Several texts, one behind the other; each says in its head what it proves. No condition. -/
import Derived.Test.YtcclbplccnaonaaZmpicbhoi
import Derived.Test.YtcclbplccnaonaaZbjcafbdh
import Derived.Test.YtcclbplccnaonaaZibdcggfj
import Derived.Test.YtcclbplccnaonaaZfeodhdok
/- Two sorted blocks as one, where one of them has one thing; walked. No condition. -/
namespace Go.Proofs.Ytcclbplccnaonaa
open Go.RowKit
set_option linter.unusedSimpArgs false
set_option linter.unusedVariables false
theorem stLt_lo {a b c : Ev} (h : stLt b c = true) (k : stLt b a = false) : stLt a c = true := by
  rw [stLt_iff] at h ⊢; rw [stLt_f] at k; omega
theorem stLt_mid2 {y x z : Ev} (h : stLt y x = true) (k : stLt z x = false) : stLt y z = true := by
  rw [stLt_iff] at h ⊢; rw [stLt_f] at k; omega
theorem Srt.at {l : List Ev} (h : Srt l) {i j : Nat} (hi : i < l.length) (hj : j < l.length) (hij : i ≤ j) : stLt (l[j]'hj) (l[i]'hi) = false := by
  rcases Nat.lt_or_eq_of_le hij with h1 | h1
  · exact List.pairwise_iff_getElem.1 h i j hi hj h1
  · subst h1; exact stLt_irr _
theorem mid_is {i j : Nat} (h : i + j ≤ 1000000000) : IntKind.i64.wrap (((i : Int) + (j : Int)).fdiv (2 ^ min (Int.toNat 1) IntKind.u64.bits)) = (((i + j) / 2 : Nat) : Int) := by
  show IntKind.i64.wrap (((i : Int) + (j : Int)).fdiv 2) = _
  rw [Int.fdiv_eq_ediv_of_nonneg _ (by decide), IntKind.wrap_i64]
  omega
theorem row_at {P L R S : List Ev} {k : Nat} (hk : k < R.length) {n : Nat} (hn : P.length + L.length + k = n) (h : n < (P ++ L ++ R ++ S).length) : (P ++ L ++ R ++ S)[n]'h = R[k]'hk := by
  subst hn
  rw [List.getElem_append_left (by simp only [List.length_append]; omega), List.getElem_append_right (by simp only [List.length_append]; omega)]
  congr 1
  simp only [List.length_append]
  omega
theorem row_at1 {P L R S : List Ev} {k : Nat} (hk : k < L.length) {n : Nat} (hn : P.length + k = n) (h : n < (P ++ L ++ R ++ S).length) : (P ++ L ++ R ++ S)[n]'h = L[k]'hk := by
  subst hn
  rw [List.getElem_append_left (by simp only [List.length_append]; omega), List.getElem_append_left (by simp only [List.length_append]; omega), List.getElem_append_right (by omega)]
  congr 1
  omega
set_option maxRecDepth 20000 attribute [local irreducible] Ex ExL Fn thn inb rnd fin meet Tab Mix mxEnd Val Sats RdT Rd RowT Row Blk Sub Fac ResV RVal Evs subs subs3 Hid Capd
attribute [local irreducible] MixE meEnd
set_option maxHeartbeats 8000000 in
theorem symL (v0 : Value) (P Rx S : List Ev) (x : Ev) (a m b : Nat) (gl ga : Nat) (M : List Assn) (hP : P.length = a) (hm : a + 1 = m) (hb : m + Rx.length = b) (h0 : 0 < Rx.length) (hs : Srt Rx) (hl : b + S.length ≤ 1000000) : Fn Try.prog 60 #[v0, .int .i64 a, .int .i64 m, .int .i64 b, cmpV gl] (KL gl ga :: KA ga :: Evs_ v0 (P ++ [x] ++ Rx ++ S) :: M)
    fun v L' => L' = KL gl ga :: KA ga :: Evs_ v0 (P ++ mrg [x] Rx ++ S) :: M := by
  refine Fn.of_ex Try.func60 rfl Try.ntmps60 rfl ?_
  (refine rn ?_; (repeat (first | intro (g : Nat) | intro (v : Value) | intro (o : Value.oneCell' _ = true) | intro (cs : List Value) | intro (hcs : _ = List.set _ _ _) | intro (zs : List _) | intro (hzs : _))))
  refine Ex.loop [10, 11] (fun q vs L' => ∃ (i j : Nat), m ≤ i ∧ i ≤ j ∧ j ≤ b ∧ q = j - i ∧ vs = [.int .i64 i, .int .i64 j] ∧ (∀ k (h : k < Rx.length), m + k < i → stLt (Rx[k]'h) x = true) ∧ (∀ k (h : k < Rx.length), j ≤ m + k → stLt (Rx[k]'h) x = false) ∧ L' = KL gl ga :: KA ga :: Evs_ v0 (P ++ [x] ++ Rx ++ S) :: M) (b - m) ⟨m, b, by omega, by omega, by omega, rfl, rfl, fun k h h2 => by omega, fun k h h2 => by omega, rfl⟩ ?_
  rintro q vs g1 L' ⟨i, j, hi, hij, hjb, rfl, rfl, hlo, hhi, rfl⟩
  refine Ex.keep [0, 1, 4, 10, 11] rG (fun gk => ?_)
  by_cases hlt : i < j
  · obtain ⟨h, hh⟩ : ∃ h, h = (i + j) / 2 := ⟨_, rfl⟩
    have hmid := mid_is (i := i) (j := j) (by omega)
    rw [← hh] at hmid
    have hhR : h - m < Rx.length := by omega
    have hgh : ∀ q, (P ++ [x] ++ Rx ++ S)[h]'q = Rx[h - m]'hhR := fun q => row_at hhR (by simp only [List.length_cons, List.length_nil]; omega) q
    have hga : ∀ q, (P ++ [x] ++ Rx ++ S)[a]'q = x := fun q => row_at1 (L := [x]) (k := 0) (by simp) (by omega) q
    have hRl : (P ++ [x] ++ Rx ++ S).length = b + S.length := by simp only [List.length_append, List.length_cons, List.length_nil]; omega
    obtain ⟨y, hy⟩ : ∃ y, y = Rx[h - m]'hhR := ⟨_, rfl⟩
    rw [← hy] at hgh
    have hcn := cmpE_neg y x
    have hcr := cmpE_rng y x
    generalize P ++ [x] ++ Rx ++ S = R at hgh hga hRl ⊢
    (refine rn ?_; (repeat (first | intro (g : Nat) | intro (v : Value) | intro (o : Value.oneCell' _ = true) | intro (cs : List Value) | intro (hcs : _ = List.set _ _ _) | intro (zs : List _) | intro (hzs : _))))
    rw [hmid]
    (refine Ex.mixA 11 _ rfl (by kernel_rfl) (Fac.refl _) ?_; (refine mn ?_; (repeat (first | intro (g : Nat) | intro (v : Value) | intro (o : Value.oneCell' _ = true) | intro (cs : List Value) | intro (hcs : _ = List.set _ _ _) | intro (zs : List _) | intro (hzs : _)))))
    rw [hgh, hga]
    refine mx_act (by rfl) (by rfl) (by rfl) ?_
    refine st_callC [] (xs := [.tmp 44, .tmp 48]) (fs := []) (us := [.pointer (some ⟨gl, 0, none⟩)]) (vs := [.agg (Rep.cells y).toArray, .agg (Rep.cells x).toArray]) (by rfl) (by rfl) Try.call48 rE (by rfl) (cmp_F y x gl ga _) ?_
    rintro _ _ ⟨rfl, rfl⟩
    generalize cmpE y x = cc at hcn hcr ⊢
    by_cases hlx : stLt y x = true
    · have hcc := hcn.2 hlx
      (refine ExL.nil ?_; refine mxEnd_n rF ?_; (refine mn ?_; (repeat (first | intro (g : Nat) | intro (v : Value) | intro (o : Value.oneCell' _ = true) | intro (cs : List Value) | intro (hcs : _ = List.set _ _ _) | intro (zs : List _) | intro (hzs : _)))))
      (refine rn ?_; (repeat (first | intro (g : Nat) | intro (v : Value) | intro (o : Value.oneCell' _ = true) | intro (cs : List Value) | intro (hcs : _ = List.set _ _ _) | intro (zs : List _) | intro (hzs : _))))
      exact rnd_n ⟨j - (h + 1), _, by omega, rB, h + 1, j, by omega, by omega, by omega, rfl, lcons (vint (by omega)) (lcons rfl rfl), (fun k hk hk2 => stLt_lo hlx (by rw [hy]; exact hs.at hk hhR (by omega))), hhi, rfl⟩
    · have hcc : ¬ cc < 0 := fun h => hlx (hcn.1 h)
      (refine ExL.nil ?_; refine mxEnd_n rF ?_; (refine mn ?_; (repeat (first | intro (g : Nat) | intro (v : Value) | intro (o : Value.oneCell' _ = true) | intro (cs : List Value) | intro (hcs : _ = List.set _ _ _) | intro (zs : List _) | intro (hzs : _)))))
      (refine rn ?_; (repeat (first | intro (g : Nat) | intro (v : Value) | intro (o : Value.oneCell' _ = true) | intro (cs : List Value) | intro (hcs : _ = List.set _ _ _) | intro (zs : List _) | intro (hzs : _))))
      exact rnd_n ⟨h - i, _, by omega, rB, i, h, by omega, by omega, by omega, rfl, lcons rfl (lcons rfl rfl), hlo, (fun k hk hk2 => stLt_ge (b := y) (by rw [hy]; exact hs.at hhR hk (by omega)) (by simpa using hlx)), rfl⟩
  · obtain rfl : i = j := by omega
    obtain ⟨R1, hR1⟩ : ∃ X, X = Rx.take (i - m) := ⟨_, rfl⟩
    obtain ⟨R2, hR2⟩ : ∃ X, X = Rx.drop (i - m) := ⟨_, rfl⟩
    have hRR : Rx = R1 ++ R2 := by rw [hR1, hR2, List.take_append_drop]
    have l1 : R1.length = i - m := by rw [hR1, List.length_take]; omega
    have l2 : R1.length + R2.length = Rx.length := by rw [hRR, List.length_append]
    have hall1 : ∀ y ∈ R1, stLt y x = true := fun y hy => by
      rw [hR1] at hy
      obtain ⟨k, hk, rfl⟩ := List.getElem_of_mem hy
      rw [List.length_take] at hk
      rw [List.getElem_take]
      exact hlo k (by omega) (by omega)
    have hall2 : ∀ y ∈ R2, stLt y x = false := fun y hy => by
      rw [hR2] at hy
      obtain ⟨k, hk, rfl⟩ := List.getElem_of_mem hy
      rw [List.length_drop] at hk
      rw [List.getElem_drop]
      exact hhi (i - m + k) (by omega) (by omega)
    have hfin : mrg [x] Rx = R1 ++ x :: R2 := by
      have e1 := mrg_app [] R1 [x] R2 (by simp) (fun c hc b hb => by
        simp only [List.mem_singleton] at hc
        subst hc
        exact hall1 b hb)
      have e2 := mrg_l [x] [] R2 (fun c hc b hb => by
        simp only [List.mem_singleton] at hc
        subst hc
        exact hall2 b hb)
      rw [List.append_nil, mrg_nil_l] at e2
      rw [List.nil_append, mrg_nil_l, e2, ← hRR] at e1
      exact e1
    clear hlo hhi
    rw [hfin]
    have hrow0 : P ++ [x] ++ Rx ++ S = P ++ R1.take 0 ++ x :: (R1.drop 0 ++ R2 ++ S) := by rw [hRR]; simp
    rw [hrow0]
    (refine rn ?_; (repeat (first | intro (g : Nat) | intro (v : Value) | intro (o : Value.oneCell' _ = true) | intro (cs : List Value) | intro (hcs : _ = List.set _ _ _) | intro (zs : List _) | intro (hzs : _))))
    refine Ex.loop [13] (fun q vs L' => ∃ t, t ≤ R1.length ∧ q = R1.length - t ∧ vs = [.int .i64 (a + t : Nat)] ∧ L' = KL gl ga :: KA ga :: Evs_ v0 (P ++ R1.take t ++ x :: (R1.drop t ++ R2 ++ S)) :: M) R1.length ⟨0, by omega, by omega, rfl, rfl⟩ ?_
    rintro q vs g3 L' ⟨t, ht, rfl, rfl, rfl⟩
    refine Ex.keep [0, 10, 13] rG (fun gk => ?_)
    by_cases htl : t < R1.length
    · obtain ⟨y, hy⟩ : ∃ y, y = R1[t]'htl := ⟨_, rfl⟩
      obtain ⟨U, hU⟩ : ∃ U, U = P ++ R1.take t := ⟨_, rfl⟩
      have hUl : U.length = a + t := by rw [hU, List.length_append, List.length_take]; omega
      obtain ⟨T, hT⟩ : ∃ T, T = R1.drop (t + 1) ++ R2 ++ S := ⟨_, rfl⟩
      have hrow : P ++ R1.take t ++ x :: (R1.drop t ++ R2 ++ S) = U ++ x :: ([] ++ y :: T) := by
        have hd : R1.drop t = y :: R1.drop (t + 1) := by rw [hy, List.getElem_cons_drop]
        rw [hU, hT, hd]
        simp only [List.cons_append, List.nil_append]
      have hnew : U ++ y :: ([] ++ x :: T) = P ++ R1.take (t + 1) ++ x :: (R1.drop (t + 1) ++ R2 ++ S) := by
        rw [hU, hT, List.take_succ_eq_append_getElem htl, ← hy]
        simp only [List.append_assoc, List.cons_append, List.nil_append]
      have hsw := swap_two U [] T x y
      have hg1 := get_one U [] T x y
      have hg2 := get_two U [] T x y
      have hRl : (U ++ x :: ([] ++ y :: T)).length = b + S.length := by
        rw [hT]
        simp only [List.length_append, List.length_cons, List.length_drop, List.length_nil]
        omega
      simp only [List.length_nil, Nat.add_zero] at hsw hg2
      rw [hrow]
      generalize U ++ x :: ([] ++ y :: T) = R at hRl hsw hg1 hg2 ⊢
      rw [hUl] at hsw hg1 hg2
      (refine rn ?_; (repeat (first | intro (g : Nat) | intro (v : Value) | intro (o : Value.oneCell' _ = true) | intro (cs : List Value) | intro (hcs : _ = List.set _ _ _) | intro (zs : List _) | intro (hzs : _))))
      (refine Ex.mixEs 16 [8, 9, 12, 13, 14] M rfl (by kernel_rfl) (by kernel_rfl) rF ?_; (refine me ?_; (repeat (first | intro (g : Nat) | intro (v : Value) | intro (o : Value.oneCell' _ = true) | intro (cs : List Value) | intro (hcs : _ = List.set _ _ _) | intro (zs : List _) | intro (hzs : _)))))
      rw [hg1 (by omega), hg2 (by omega)]
      (refine me_act (by rfl) (by rfl) (by rfl) ?_; refine st_storeRA 2 (a := y) (by rfl) (by rfl) (by rfl) (by rfl) (by rfl) rO rfl ?_; refine ExL.nil ?_; refine meEnd_n rF ?_; (refine me ?_; (repeat (first | intro (g : Nat) | intro (v : Value) | intro (o : Value.oneCell' _ = true) | intro (cs : List Value) | intro (hcs : _ = List.set _ _ _) | intro (zs : List _) | intro (hzs : _)))))
      (refine rn ?_; (repeat (first | intro (g : Nat) | intro (v : Value) | intro (o : Value.oneCell' _ = true) | intro (cs : List Value) | intro (hcs : _ = List.set _ _ _) | intro (zs : List _) | intro (hzs : _))))
      refine st_storeRA 2 (a := x) (by rfl) (by rfl) (by rfl) (by rfl) (by rfl) rO rfl ?_
      rw [hsw, hnew]
      (refine rn ?_; (repeat (first | intro (g : Nat) | intro (v : Value) | intro (o : Value.oneCell' _ = true) | intro (cs : List Value) | intro (hcs : _ = List.set _ _ _) | intro (zs : List _) | intro (hzs : _))))
      exact rnd_n ⟨R1.length - (t + 1), _, by omega, rB, t + 1, by omega, rfl, lcons (vint (by omega)) rfl, rfl⟩
    · obtain rfl : t = R1.length := by omega
      rw [List.take_of_length_le (Nat.le_refl _), List.drop_eq_nil_of_le (Nat.le_refl _), List.nil_append]
      (refine rn ?_; (repeat (first | intro (g : Nat) | intro (v : Value) | intro (o : Value.oneCell' _ = true) | intro (cs : List Value) | intro (hcs : _ = List.set _ _ _) | intro (zs : List _) | intro (hzs : _))))
      (first | refine fin_ret rS ?_ | refine fin_norm rS ?_)
      refine ⟨_, rB, ?_⟩
      simp only [List.append_assoc, List.cons_append]
end Go.Proofs.Ytcclbplccnaonaa
/- Two sorted blocks as one, where the second has one thing; walked. No condition. -/
namespace Go.Proofs.Ytcclbplccnaonaa
open Go.RowKit
set_option linter.unusedSimpArgs false
set_option linter.unusedVariables false
set_option maxRecDepth 20000 attribute [local irreducible] Ex ExL Fn thn inb rnd fin meet Tab Mix mxEnd Val Sats RdT Rd RowT Row Blk Sub Fac ResV RVal Evs subs subs3 Hid Capd
attribute [local irreducible] MixE meEnd
set_option maxHeartbeats 8000000 in
theorem symR (v0 : Value) (P Lx S : List Ev) (y : Ev) (a m b : Nat) (gl ga : Nat) (M : List Assn) (hP : P.length = a) (hm : a + Lx.length = m) (hb : m + 1 = b) (h0 : 1 < Lx.length) (hs : Srt Lx) (hl : b + S.length ≤ 1000000) : Fn Try.prog 60 #[v0, .int .i64 a, .int .i64 m, .int .i64 b, cmpV gl] (KL gl ga :: KA ga :: Evs_ v0 (P ++ Lx ++ [y] ++ S) :: M)
    fun v L' => L' = KL gl ga :: KA ga :: Evs_ v0 (P ++ mrg Lx [y] ++ S) :: M := by
  refine Fn.of_ex Try.func60 rfl Try.ntmps60 rfl ?_
  (refine rn ?_; (repeat (first | intro (g : Nat) | intro (v : Value) | intro (o : Value.oneCell' _ = true) | intro (cs : List Value) | intro (hcs : _ = List.set _ _ _) | intro (zs : List _) | intro (hzs : _))))
  refine Ex.loop [14, 15] (fun q vs L' => ∃ (i j : Nat), a ≤ i ∧ i ≤ j ∧ j ≤ m ∧ q = j - i ∧ vs = [.int .i64 i, .int .i64 j] ∧ (∀ k (h : k < Lx.length), a + k < i → stLt y (Lx[k]'h) = false) ∧ (∀ k (h : k < Lx.length), j ≤ a + k → stLt y (Lx[k]'h) = true) ∧ L' = KL gl ga :: KA ga :: Evs_ v0 (P ++ Lx ++ [y] ++ S) :: M) (m - a) ⟨a, m, by omega, by omega, by omega, rfl, rfl, fun k h h2 => by omega, fun k h h2 => by omega, rfl⟩ ?_
  rintro q vs g1 L' ⟨i, j, hi, hij, hjb, rfl, rfl, hlo, hhi, rfl⟩
  refine Ex.keep [0, 2, 4, 14, 15] rG (fun gk => ?_)
  by_cases hlt : i < j
  · obtain ⟨h, hh⟩ : ∃ h, h = (i + j) / 2 := ⟨_, rfl⟩
    have hmid := mid_is (i := i) (j := j) (by omega)
    rw [← hh] at hmid
    have hhR : h - a < Lx.length := by omega
    have hgh : ∀ q, (P ++ Lx ++ [y] ++ S)[h]'q = Lx[h - a]'hhR := fun q => row_at1 hhR (by omega) q
    have hga : ∀ q, (P ++ Lx ++ [y] ++ S)[m]'q = y := fun q => row_at (R := [y]) (k := 0) (by simp) (by omega) q
    have hRl : (P ++ Lx ++ [y] ++ S).length = b + S.length := by simp only [List.length_append, List.length_cons, List.length_nil]; omega
    obtain ⟨x, hx⟩ : ∃ x, x = Lx[h - a]'hhR := ⟨_, rfl⟩
    rw [← hx] at hgh
    have hcn := cmpE_neg y x
    have hcr := cmpE_rng y x
    generalize P ++ Lx ++ [y] ++ S = R at hgh hga hRl ⊢
    (refine rn ?_; (repeat (first | intro (g : Nat) | intro (v : Value) | intro (o : Value.oneCell' _ = true) | intro (cs : List Value) | intro (hcs : _ = List.set _ _ _) | intro (zs : List _) | intro (hzs : _))))
    rw [hmid]
    (refine Ex.mixA 12 _ rfl (by kernel_rfl) (Fac.refl _) ?_; (refine mn ?_; (repeat (first | intro (g : Nat) | intro (v : Value) | intro (o : Value.oneCell' _ = true) | intro (cs : List Value) | intro (hcs : _ = List.set _ _ _) | intro (zs : List _) | intro (hzs : _)))))
    rw [hgh, hga]
    refine mx_act (by rfl) (by rfl) (by rfl) ?_
    refine st_callC [] (xs := [.tmp 96, .tmp 100]) (fs := []) (us := [.pointer (some ⟨gl, 0, none⟩)]) (vs := [.agg (Rep.cells y).toArray, .agg (Rep.cells x).toArray]) (by rfl) (by rfl) Try.call48 rE (by rfl) (cmp_F y x gl ga _) ?_
    rintro _ _ ⟨rfl, rfl⟩
    generalize cmpE y x = cc at hcn hcr ⊢
    by_cases hlx : stLt y x = true
    · have hcc := hcn.2 hlx
      (refine ExL.nil ?_; refine mxEnd_n rF ?_; (refine mn ?_; (repeat (first | intro (g : Nat) | intro (v : Value) | intro (o : Value.oneCell' _ = true) | intro (cs : List Value) | intro (hcs : _ = List.set _ _ _) | intro (zs : List _) | intro (hzs : _)))))
      (refine rn ?_; (repeat (first | intro (g : Nat) | intro (v : Value) | intro (o : Value.oneCell' _ = true) | intro (cs : List Value) | intro (hcs : _ = List.set _ _ _) | intro (zs : List _) | intro (hzs : _))))
      exact rnd_n ⟨h - i, _, by omega, rB, i, h, by omega, by omega, by omega, rfl, lcons rfl (lcons rfl rfl), hlo, (fun k hk hk2 => stLt_mid2 hlx (by rw [hx]; exact hs.at hhR hk (by omega))), rfl⟩
    · have hcc : ¬ cc < 0 := fun h => hlx (hcn.1 h)
      (refine ExL.nil ?_; refine mxEnd_n rF ?_; (refine mn ?_; (repeat (first | intro (g : Nat) | intro (v : Value) | intro (o : Value.oneCell' _ = true) | intro (cs : List Value) | intro (hcs : _ = List.set _ _ _) | intro (zs : List _) | intro (hzs : _)))))
      (refine rn ?_; (repeat (first | intro (g : Nat) | intro (v : Value) | intro (o : Value.oneCell' _ = true) | intro (cs : List Value) | intro (hcs : _ = List.set _ _ _) | intro (zs : List _) | intro (hzs : _))))
      exact rnd_n ⟨j - (h + 1), _, by omega, rB, h + 1, j, by omega, by omega, by omega, rfl, lcons (vint (by omega)) (lcons rfl rfl), (fun k hk hk2 => stLt_ge (b := x) (by simpa using hlx) (by rw [hx]; exact hs.at hk hhR (by omega))), hhi, rfl⟩
  · obtain rfl : i = j := by omega
    obtain ⟨L1, hL1⟩ : ∃ X, X = Lx.take (i - a) := ⟨_, rfl⟩
    obtain ⟨L2, hL2⟩ : ∃ X, X = Lx.drop (i - a) := ⟨_, rfl⟩
    have hLL : Lx = L1 ++ L2 := by rw [hL1, hL2, List.take_append_drop]
    have l1 : L1.length = i - a := by rw [hL1, List.length_take]; omega
    have l2 : L1.length + L2.length = Lx.length := by rw [hLL, List.length_append]
    have hall1 : ∀ x ∈ L1, stLt y x = false := fun x hx => by
      rw [hL1] at hx
      obtain ⟨k, hk, rfl⟩ := List.getElem_of_mem hx
      rw [List.length_take] at hk
      rw [List.getElem_take]
      exact hlo k (by omega) (by omega)
    have hall2 : ∀ x ∈ L2, stLt y x = true := fun x hx => by
      rw [hL2] at hx
      obtain ⟨k, hk, rfl⟩ := List.getElem_of_mem hx
      rw [List.length_drop] at hk
      rw [List.getElem_drop]
      exact hhi (i - a + k) (by omega) (by omega)
    have hfin : mrg Lx [y] = L1 ++ y :: L2 := by
      have e1 := mrg_l L1 L2 [y] (fun c hc b hb => by
        simp only [List.mem_singleton] at hb
        subst hb
        exact hall1 c hc)
      have e2 := mrg_r [y] L2 [] (fun c hc b hb => by
        simp only [List.mem_singleton] at hb
        subst hb
        exact hall2 c hc)
      rw [List.append_nil, mrg_nil_r] at e2
      rw [e2, ← hLL] at e1
      exact e1
    clear hlo hhi
    rw [hfin]
    have hrow0 : P ++ Lx ++ [y] ++ S = P ++ L1 ++ L2.take L2.length ++ y :: (L2.drop L2.length ++ S) := by rw [hLL, List.take_length, List.drop_length]; simp only [List.append_assoc, List.cons_append, List.nil_append]
    rw [hrow0]
    (refine rn ?_; (repeat (first | intro (g : Nat) | intro (v : Value) | intro (o : Value.oneCell' _ = true) | intro (cs : List Value) | intro (hcs : _ = List.set _ _ _) | intro (zs : List _) | intro (hzs : _))))
    refine Ex.loop [17] (fun q vs L' => ∃ t, t ≤ L2.length ∧ q = t ∧ vs = [.int .i64 (i + t : Nat)] ∧ L' = KL gl ga :: KA ga :: Evs_ v0 (P ++ L1 ++ L2.take t ++ y :: (L2.drop t ++ S)) :: M) L2.length ⟨L2.length, by omega, rfl, lcons (vint (by omega)) rfl, rfl⟩ ?_
    rintro q vs g3 L' ⟨t, ht, rfl, rfl, rfl⟩
    refine Ex.keep [0, 14, 17] rG (fun gk => ?_)
    by_cases htl : 0 < q
    · obtain ⟨t, rfl⟩ : ∃ t, q = t + 1 := ⟨q - 1, by omega⟩
      have htl2 : t < L2.length := by omega
      obtain ⟨z, hz⟩ : ∃ z, z = L2[t]'htl2 := ⟨_, rfl⟩
      obtain ⟨U, hU⟩ : ∃ U, U = P ++ L1 ++ L2.take t := ⟨_, rfl⟩
      have hUl : U.length = i + t := by rw [hU, List.length_append, List.length_append, List.length_take]; omega
      obtain ⟨T, hT⟩ : ∃ T, T = L2.drop (t + 1) ++ S := ⟨_, rfl⟩
      have hrow : P ++ L1 ++ L2.take (t + 1) ++ y :: (L2.drop (t + 1) ++ S) = U ++ z :: ([] ++ y :: T) := by
        rw [hU, hT, List.take_succ_eq_append_getElem htl2, ← hz]
        simp only [List.append_assoc, List.cons_append, List.nil_append]
      have hnew : U ++ y :: ([] ++ z :: T) = P ++ L1 ++ L2.take t ++ y :: (L2.drop t ++ S) := by
        have hd : L2.drop t = z :: L2.drop (t + 1) := by rw [hz, List.getElem_cons_drop]
        rw [hU, hT, hd]
        simp only [List.cons_append, List.nil_append]
      have hsw := swap_two U [] T z y
      have hg1 := get_one U [] T z y
      have hg2 := get_two U [] T z y
      have hRl : (U ++ z :: ([] ++ y :: T)).length = b + S.length := by
        rw [hT]
        simp only [List.length_append, List.length_cons, List.length_drop, List.length_nil]
        omega
      simp only [List.length_nil, Nat.add_zero] at hsw hg2
      rw [List.set_comm _ _ (by omega)] at hsw
      rw [hrow]
      generalize U ++ z :: ([] ++ y :: T) = R at hRl hsw hg1 hg2 ⊢
      rw [hUl] at hsw hg1 hg2
      have hsw2 : (R.set (i + (t + 1)) z).set (i + t) y = U ++ y :: ([] ++ z :: T) := hsw
      have hg3 : ∀ (h : i + (t + 1) < R.length), R[i + (t + 1)]'h = y := fun h => hg2 h
      have hk1 : (((i + (t + 1) : Nat) : Int) - 1).toNat = i + t := by omega
      have hg4 : ∀ (h : (((i + (t + 1) : Nat) : Int) - 1).toNat < R.length), R[(((i + (t + 1) : Nat) : Int) - 1).toNat]'h = z := by simp only [hk1]; exact hg1
      (refine rn ?_; (repeat (first | intro (g : Nat) | intro (v : Value) | intro (o : Value.oneCell' _ = true) | intro (cs : List Value) | intro (hcs : _ = List.set _ _ _) | intro (zs : List _) | intro (hzs : _))))
      (refine Ex.mixEs 16 [8, 9, 12, 13, 14] M rfl (by kernel_rfl) (by kernel_rfl) rF ?_; (refine me ?_; (repeat (first | intro (g : Nat) | intro (v : Value) | intro (o : Value.oneCell' _ = true) | intro (cs : List Value) | intro (hcs : _ = List.set _ _ _) | intro (zs : List _) | intro (hzs : _)))))
      rw [hg4 (by omega), hg3 (by omega)]
      (refine me_act (by rfl) (by rfl) (by rfl) ?_; refine st_storeRA 2 (a := z) (by rfl) (by rfl) (by rfl) (by rfl) (by rfl) rO rfl ?_; refine ExL.nil ?_; refine meEnd_n rF ?_; (refine me ?_; (repeat (first | intro (g : Nat) | intro (v : Value) | intro (o : Value.oneCell' _ = true) | intro (cs : List Value) | intro (hcs : _ = List.set _ _ _) | intro (zs : List _) | intro (hzs : _)))))
      (refine rn ?_; (repeat (first | intro (g : Nat) | intro (v : Value) | intro (o : Value.oneCell' _ = true) | intro (cs : List Value) | intro (hcs : _ = List.set _ _ _) | intro (zs : List _) | intro (hzs : _))))
      refine st_storeRA 2 (a := y) (by rfl) (by rfl) (by rfl) (by rfl) (by rfl) rO rfl ?_
      rw [hk1, hsw2, hnew]
      (refine rn ?_; (repeat (first | intro (g : Nat) | intro (v : Value) | intro (o : Value.oneCell' _ = true) | intro (cs : List Value) | intro (hcs : _ = List.set _ _ _) | intro (zs : List _) | intro (hzs : _))))
      exact rnd_n ⟨t, _, by omega, rB, t, by omega, rfl, lcons (vint (by omega)) rfl, rfl⟩
    · obtain rfl : q = 0 := by omega
      rw [List.take_zero, List.drop_zero, List.append_nil]
      (refine rn ?_; (repeat (first | intro (g : Nat) | intro (v : Value) | intro (o : Value.oneCell' _ = true) | intro (cs : List Value) | intro (hcs : _ = List.set _ _ _) | intro (zs : List _) | intro (hzs : _))))
      (first | refine fin_ret rS ?_ | refine fin_norm rS ?_)
      refine ⟨_, rB, ?_⟩
      simp only [List.append_assoc, List.cons_append]
end Go.Proofs.Ytcclbplccnaonaa
/- Two sorted blocks as one, walked. No condition. -/
namespace Go.Proofs.Ytcclbplccnaonaa
open Go.RowKit
set_option linter.unusedSimpArgs false
set_option linter.unusedVariables false
theorem sym_split {Lx Rx : List Ev} (i j : Nat) (hi : i ≤ Lx.length) (hj : j ≤ Rx.length)
    (h1 : ∀ c (hc : c < Lx.length) q (hq : q < Rx.length), c < i → j ≤ q → stLt (Rx[q]'hq) (Lx[c]'hc) = false)
    (h2 : ∀ c (hc : c < Lx.length) q (hq : q < Rx.length), i ≤ c → q < j → stLt (Rx[q]'hq) (Lx[c]'hc) = true) :
    ∃ L1 L2 R1 R2, Lx = L1 ++ L2 ∧ Rx = R1 ++ R2 ∧ L1.length = i ∧ R1.length = j ∧ mrg Lx Rx = mrg L1 R1 ++ mrg L2 R2 := by
  refine ⟨Lx.take i, Lx.drop i, Rx.take j, Rx.drop j, (List.take_append_drop ..).symm, (List.take_append_drop ..).symm, by rw [List.length_take]; omega, by rw [List.length_take]; omega, ?_⟩
  have := mrg_app (Lx.take i) (Rx.take j) (Lx.drop i) (Rx.drop j) (fun x hx y hy => by
    obtain ⟨c, hc, rfl⟩ := List.getElem_of_mem hx
    obtain ⟨q, hq, rfl⟩ := List.getElem_of_mem hy
    rw [List.length_take] at hc
    rw [List.length_drop] at hq
    rw [List.getElem_take, List.getElem_drop]
    exact h1 c (by omega) (j + q) (by omega) (by omega) (by omega)) (fun x hx y hy => by
    obtain ⟨c, hc, rfl⟩ := List.getElem_of_mem hx
    obtain ⟨q, hq, rfl⟩ := List.getElem_of_mem hy
    rw [List.length_drop] at hc
    rw [List.length_take] at hq
    rw [List.getElem_take, List.getElem_drop]
    exact h2 (i + c) (by omega) q (by omega) (by omega) (by omega))
  rwa [List.take_append_drop, List.take_append_drop] at this
theorem sym_at {Lx Rx : List Ev} (hL : Srt Lx) (hR : Srt Rx) (a m b mid s lo hi : Nat) (hl : a + Lx.length = m) (hr : m + Rx.length = b) (hlo : lo ≤ s) (hhi : s ≤ hi)
    (hc : (mid < m ∧ lo + b = mid + m ∧ hi = mid) ∨ (m ≤ mid ∧ lo = a ∧ hi = m)) (hab : a + 2 ≤ m ∧ m + 2 ≤ b) (hmid : mid = (a + b) / 2)
    (hA : ∀ c, lo ≤ c → c < s → ∀ (h1 : c - a < Lx.length) (h2 : mid - 1 - c < Rx.length), stLt (Rx[mid - 1 - c]'h2) (Lx[c - a]'h1) = false)
    (hB : ∀ c, s ≤ c → c < hi → ∀ (h1 : c - a < Lx.length) (h2 : mid - 1 - c < Rx.length), stLt (Rx[mid - 1 - c]'h2) (Lx[c - a]'h1) = true) :
    ∃ L1 L2 R1 R2, Lx = L1 ++ L2 ∧ Rx = R1 ++ R2 ∧ L1.length = s - a ∧ R1.length = mid - s ∧ a ≤ s ∧ s ≤ m ∧ s ≤ mid ∧ mid + m ≤ b + s ∧ mrg Lx Rx = mrg L1 R1 ++ mrg L2 R2 := by
  have key := sym_split (Lx := Lx) (Rx := Rx) (s - a) (mid - s) (by omega) (by omega) (fun c hcl q hql hci hqj => by
    have hls : lo < s := by omega
    have h := hA (s - 1) (by omega) (by omega) (by omega) (by omega)
    refine stLt_ge (stLt_ge (hR.at (i := mid - 1 - (s - 1)) (by omega) hql (by omega)) h) (hL.at hcl (by omega) (by omega))) (fun c hcl q hql hci hqj => by
    have hls : s < hi := by omega
    have h := hB s (by omega) (by omega) (by omega) (by omega)
    exact stLt_mid2 (stLt_lo h (hR.at hql (by omega) (by omega))) (hL.at (by omega) hcl (by omega)))
  obtain ⟨L1, L2, R1, R2, e1, e2, e3, e4, e5⟩ := key
  exact ⟨L1, L2, R1, R2, e1, e2, e3, e4, by omega, by omega, by omega, by omega, e5⟩
theorem mrg_len : ∀ A B : List Ev, (mrg A B).length = A.length + B.length
  | [], B => by rw [mrg_nil_l]; simp
  | A, [] => by rw [mrg_nil_r]; simp
  | x :: A, y :: B => by
    have h1 := mrg_len A (y :: B)
    have h2 := mrg_len (x :: A) B
    simp only [mrg]
    split
    · simp only [List.length_cons] at h2 ⊢; omega
    · simp only [List.length_cons] at h1 ⊢; omega
set_option maxRecDepth 20000 attribute [local irreducible] Ex ExL Fn thn inb rnd fin meet Tab Mix mxEnd Val Sats RdT Rd RowT Row Blk Sub Fac ResV RVal Evs subs subs3 Hid Capd
attribute [local irreducible] MixE meEnd
set_option maxHeartbeats 8000000 in
theorem symM (v0 : Value) (gl ga : Nat) (M : List Assn) : ∀ (n : Nat) (P Lx Rx S : List Ev) (a m b : Nat), b - a ≤ n → P.length = a → a + Lx.length = m → m + Rx.length = b → 0 < Lx.length → 0 < Rx.length → Srt Lx → Srt Rx → b + S.length ≤ 1000000 →
    Fn Try.prog 60 #[v0, .int .i64 a, .int .i64 m, .int .i64 b, cmpV gl] (KL gl ga :: KA ga :: Evs_ v0 (P ++ Lx ++ Rx ++ S) :: M)
    fun v L' => L' = KL gl ga :: KA ga :: Evs_ v0 (P ++ mrg Lx Rx ++ S) :: M := by
  intro n
  induction n with
  | zero => intro P Lx Rx S a m b h1 h2 h3 h4 h5 h6; omega
  | succ n ih =>
    intro P Lx Rx S a m b hn hP hm hb hL0 hR0 hsL hsR hl
    by_cases hL1 : Lx.length = 1
    · obtain ⟨x, rfl⟩ := List.length_eq_one_iff.1 hL1
      exact symL v0 P Rx S x a m b gl ga M hP hm hb hR0 hsR hl
    by_cases hR1 : Rx.length = 1
    · obtain ⟨y, rfl⟩ := List.length_eq_one_iff.1 hR1
      exact symR v0 P Lx S y a m b gl ga M hP hm hb (by omega) hsL hl
    have hab : a + 2 ≤ m ∧ m + 2 ≤ b := by omega
    obtain ⟨mid, hmd⟩ : ∃ mid, mid = (a + b) / 2 := ⟨_, rfl⟩
    have hmid := mid_is (i := a) (j := b) (by omega)
    rw [← hmd] at hmid
    refine Fn.of_ex Try.func60 rfl Try.ntmps60 rfl ?_
    refine Ex.claim 7 [0, 1, 2, 3, 4, 18, 19, 20, 21, 22] (fun vs L' => ∃ lo hi : Nat, ((mid < m ∧ lo + b = mid + m ∧ hi = mid) ∨ (m ≤ mid ∧ lo = a ∧ hi = m)) ∧ vs = [v0, .int .i64 a, .int .i64 m, .int .i64 b, cmpV gl, .int .i64 mid, .int .i64 (mid + m : Nat), .int .i64 lo, .int .i64 hi, .int .i64 (mid + m - 1 : Nat)] ∧ L' = KL gl ga :: KA ga :: Evs_ v0 (P ++ Lx ++ Rx ++ S) :: M) ?_ ?_
    · rintro vs gk L' ⟨lo, hi, hc, rfl, rfl⟩
      refine Ex.claim 1 [0, 1, 2, 3, 4, 18, 19, 20] (fun vs L' => ∃ s : Nat, lo ≤ s ∧ s ≤ hi ∧ (∀ c, lo ≤ c → c < s → ∀ (h1 : c - a < Lx.length) (h2 : mid - 1 - c < Rx.length), stLt (Rx[mid - 1 - c]'h2) (Lx[c - a]'h1) = false) ∧ (∀ c, s ≤ c → c < hi → ∀ (h1 : c - a < Lx.length) (h2 : mid - 1 - c < Rx.length), stLt (Rx[mid - 1 - c]'h2) (Lx[c - a]'h1) = true) ∧ vs = [v0, .int .i64 a, .int .i64 m, .int .i64 b, cmpV gl, .int .i64 mid, .int .i64 (mid + m : Nat), .int .i64 s] ∧ L' = KL gl ga :: KA ga :: Evs_ v0 (P ++ Lx ++ Rx ++ S) :: M) ?_ ?_
      · rintro vs gk2 L' ⟨s, hlo, hhi, hA, hB, rfl, rfl⟩
        obtain ⟨L1, L2, R1, R2, hLx, hRx, l1, l2, hs1, hs2, hs3, hs4, hmr⟩ := sym_at hsL hsR a m b mid s lo hi hm hb hlo hhi hc hab hmd hA hB
        clear hA hB
        rw [hmr]
        obtain ⟨Lx0, hLx0⟩ : ∃ z, z = Lx.length := ⟨_, rfl⟩
        obtain ⟨Rx0, hRx0⟩ : ∃ z, z = Rx.length := ⟨_, rfl⟩
        subst hLx hRx
        have hsL1 : Srt L1 := (List.pairwise_append.1 hsL).1
        have hsL2 : Srt L2 := (List.pairwise_append.1 hsL).2.1
        have hsR1 : Srt R1 := (List.pairwise_append.1 hsR).1
        have hsR2 : Srt R2 := (List.pairwise_append.1 hsR).2.1
        obtain ⟨en, hen⟩ : ∃ en, en = mid + m - s := ⟨_, rfl⟩
        have hll : L1.length + L2.length = Lx0 := by rw [← List.length_append, hLx0]
        have hrl : R1.length + R2.length = Rx0 := by rw [← List.length_append, hRx0]
        rw [← hLx0] at hm hL0 hL1
        rw [← hRx0] at hb hR0 hR1
        clear hLx0 hRx0 hsL hsR hmr hc hmid
        refine Ex.claim 2 [0, 1, 3, 4, 18, 20, 24] (fun vs L' => vs = [v0, .int .i64 a, .int .i64 b, cmpV gl, .int .i64 mid, .int .i64 s, .int .i64 en] ∧ L' = KL gl ga :: KA ga :: Evs_ v0 (P ++ L1 ++ R1 ++ (L2 ++ R2 ++ S)) :: M) ?_ ?_
        · rintro vs gk3 L' ⟨rfl, rfl⟩
          refine Ex.claim 1 [0, 3, 4, 18, 24] (fun vs L' => vs = [v0, .int .i64 b, cmpV gl, .int .i64 mid, .int .i64 en] ∧ L' = KL gl ga :: KA ga :: Evs_ v0 (P ++ mrg L1 R1 ++ (L2 ++ R2 ++ S)) :: M) ?_ ?_
          · rintro vs gk4 L' ⟨rfl, rfl⟩
            have hml := mrg_len L1 R1
            have hrow : P ++ mrg L1 R1 ++ (L2 ++ R2 ++ S) = (P ++ mrg L1 R1) ++ L2 ++ R2 ++ S := by simp only [List.append_assoc]
            by_cases hq : mid < en ∧ en < b
            · obtain ⟨hq1, hq2⟩ := hq
              (refine rn ?_; (repeat (first | intro (g : Nat) | intro (v : Value) | intro (o : Value.oneCell' _ = true) | intro (cs : List Value) | intro (hcs : _ = List.set _ _ _) | intro (zs : List _) | intro (hzs : _))))
              rw [hrow]
              refine st_callIs [] (by rfl) Try.call60 rE (by rfl) (ih (P ++ mrg L1 R1) L2 R2 S mid en b (by omega) (by rw [List.length_append]; omega) (by omega) (by omega) (by omega) (by omega) hsL2 hsR2 hl) ?_
              rintro _ _ rfl
              (refine rn ?_; (repeat (first | intro (g : Nat) | intro (v : Value) | intro (o : Value.oneCell' _ = true) | intro (cs : List Value) | intro (hcs : _ = List.set _ _ _) | intro (zs : List _) | intro (hzs : _))))
              (first | refine fin_ret rS ?_ | refine fin_norm rS ?_)
              refine ⟨_, rB, ?_⟩
              simp only [List.append_assoc]
            · have hm2 : mrg L2 R2 = L2 ++ R2 := by
                by_cases h0 : L2.length = 0
                · rw [List.length_eq_zero_iff.1 h0, mrg_nil_l, List.nil_append]
                · rw [List.length_eq_zero_iff.1 (show R2.length = 0 by omega), mrg_nil_r, List.append_nil]
              rw [hm2]
              have hq2 : en ≤ mid ∨ (mid < en ∧ b ≤ en) := by omega
              rcases hq2 with hq2 | ⟨hq2, hq3⟩
              all_goals
                (refine rn ?_; (repeat (first | intro (g : Nat) | intro (v : Value) | intro (o : Value.oneCell' _ = true) | intro (cs : List Value) | intro (hcs : _ = List.set _ _ _) | intro (zs : List _) | intro (hzs : _))))
                (first | refine fin_ret rS ?_ | refine fin_norm rS ?_)
                refine ⟨_, rB, ?_⟩
                simp only [List.append_assoc]
          · intro HC
            by_cases hq : a < s ∧ s < mid
            · obtain ⟨hq1, hq2⟩ := hq
              (refine rn ?_; (repeat (first | intro (g : Nat) | intro (v : Value) | intro (o : Value.oneCell' _ = true) | intro (cs : List Value) | intro (hcs : _ = List.set _ _ _) | intro (zs : List _) | intro (hzs : _))))
              refine st_callIs [] (by rfl) Try.call60 rE (by rfl) (ih P L1 R1 (L2 ++ R2 ++ S) a s mid (by omega) hP (by omega) (by omega) (by omega) (by omega) hsL1 hsR1 (by simp only [List.length_append]; omega)) ?_
              rintro _ _ rfl
              (refine rn ?_; (repeat (first | intro (g : Nat) | intro (v : Value) | intro (o : Value.oneCell' _ = true) | intro (cs : List Value) | intro (hcs : _ = List.set _ _ _) | intro (zs : List _) | intro (hzs : _))))
              exact HC _ _ ⟨_, rB, rfl, rfl⟩
            · have hm2 : mrg L1 R1 = L1 ++ R1 := by
                by_cases h0 : L1.length = 0
                · rw [List.length_eq_zero_iff.1 h0, mrg_nil_l, List.nil_append]
                · rw [List.length_eq_zero_iff.1 (show R1.length = 0 by omega), mrg_nil_r, List.append_nil]
              have hq2 : s ≤ a ∨ (a < s ∧ mid ≤ s) := by omega
              have hrw : P ++ L1 ++ R1 ++ (L2 ++ R2 ++ S) = P ++ mrg L1 R1 ++ (L2 ++ R2 ++ S) := by rw [hm2]; simp only [List.append_assoc]
              rw [hrw]
              rcases hq2 with hq2 | ⟨hq2, hq3⟩
              all_goals
                (refine rn ?_; (repeat (first | intro (g : Nat) | intro (v : Value) | intro (o : Value.oneCell' _ = true) | intro (cs : List Value) | intro (hcs : _ = List.set _ _ _) | intro (zs : List _) | intro (hzs : _))))
                exact HC _ _ ⟨_, rB, rfl, rfl⟩
        · intro HC
          have hnv : ((mid + m : Nat) : Int) - (s : Int) = (en : Int) := by omega
          by_cases hq : s < m ∧ m < en
          · obtain ⟨hq1, hq2⟩ := hq
            have hrw : P ++ (L1 ++ L2) ++ (R1 ++ R2) ++ S = (P ++ L1) ++ L2 ++ R1 ++ (R2 ++ S) := by simp only [List.append_assoc]
            have hrw2 : (P ++ L1) ++ R1 ++ L2 ++ (R2 ++ S) = P ++ L1 ++ R1 ++ (L2 ++ R2 ++ S) := by simp only [List.append_assoc]
            rw [hrw]
            (refine rn ?_; (repeat (first | intro (g : Nat) | intro (v : Value) | intro (o : Value.oneCell' _ = true) | intro (cs : List Value) | intro (hcs : _ = List.set _ _ _) | intro (zs : List _) | intro (hzs : _))))
            rw [hnv]
            refine st_callIs [] (by rfl) Try.call61 rE (by rfl) (rotate_F v0 _ (P ++ L1) L2 R1 (R2 ++ S) s m en gl ga M (by rw [List.length_append]; omega) (by omega) (by omega) (by omega) (by omega) (by simp only [List.length_append]; omega)) ?_
            rintro _ _ rfl
            rw [hrw2]
            (refine rn ?_; (repeat (first | intro (g : Nat) | intro (v : Value) | intro (o : Value.oneCell' _ = true) | intro (cs : List Value) | intro (hcs : _ = List.set _ _ _) | intro (zs : List _) | intro (hzs : _))))
            exact HC _ _ ⟨_, rB, rfl, rfl⟩
          · have h0 : L2.length = 0 ∨ R1.length = 0 := by omega
            have hrw : P ++ (L1 ++ L2) ++ (R1 ++ R2) ++ S = P ++ L1 ++ R1 ++ (L2 ++ R2 ++ S) := by
              rcases h0 with h0 | h0
              · rw [List.length_eq_zero_iff.1 h0]; simp only [List.append_assoc, List.nil_append]
              · rw [List.length_eq_zero_iff.1 h0]; simp only [List.append_assoc, List.nil_append]
            rw [hrw]
            have hq2 : m ≤ s ∨ (s < m ∧ en ≤ m) := by omega
            rcases hq2 with hq2 | ⟨hq2, hq3⟩
            all_goals
              (refine rn ?_; (repeat (first | intro (g : Nat) | intro (v : Value) | intro (o : Value.oneCell' _ = true) | intro (cs : List Value) | intro (hcs : _ = List.set _ _ _) | intro (zs : List _) | intro (hzs : _))))
              exact HC _ _ ⟨_, rB, lcons rfl (lcons rfl (lcons rfl (lcons rfl (lcons rfl (lcons rfl (lcons (vint (by omega)) rfl)))))), rfl⟩
      · intro HC
        obtain ⟨pp, hpp⟩ : ∃ pp, pp = mid + m - 1 := ⟨_, rfl⟩
        rw [← hpp]
        (refine rn ?_; (repeat (first | intro (g : Nat) | intro (v : Value) | intro (o : Value.oneCell' _ = true) | intro (cs : List Value) | intro (hcs : _ = List.set _ _ _) | intro (zs : List _) | intro (hzs : _))))
        refine Ex.loop [20, 21] (fun q vs L' => ∃ (s r : Nat), lo ≤ s ∧ s ≤ r ∧ r ≤ hi ∧ q = r - s ∧ (∀ c, lo ≤ c → c < s → ∀ (h1 : c - a < Lx.length) (h2 : mid - 1 - c < Rx.length), stLt (Rx[mid - 1 - c]'h2) (Lx[c - a]'h1) = false) ∧ (∀ c, r ≤ c → c < hi → ∀ (h1 : c - a < Lx.length) (h2 : mid - 1 - c < Rx.length), stLt (Rx[mid - 1 - c]'h2) (Lx[c - a]'h1) = true) ∧ vs = [.int .i64 s, .int .i64 r] ∧ L' = KL gl ga :: KA ga :: Evs_ v0 (P ++ Lx ++ Rx ++ S) :: M) (hi - lo) ⟨lo, hi, by omega, by omega, by omega, rfl, fun c h1 h2 => by omega, fun c h1 h2 => by omega, by rfl, rfl⟩ ?_
        rintro q vs g1 L' ⟨s, r, hlo, hsr, hhi, rfl, hA, hB, rfl, rfl⟩
        refine Ex.keep [0, 1, 2, 3, 4, 18, 19, 20, 21, 22] rG (fun gk => ?_)
        by_cases hlt : s < r
        · obtain ⟨h, hh⟩ : ∃ h, h = (s + r) / 2 := ⟨_, rfl⟩
          have hmid2 := mid_is (i := s) (j := r) (by omega)
          rw [← hh] at hmid2
          have hx1 : h - a < Lx.length := by omega
          have hx2 : mid - 1 - h < Rx.length := by omega
          have hgh : ∀ q, (P ++ Lx ++ Rx ++ S)[h]'q = Lx[h - a]'hx1 := fun q => row_at1 hx1 (by omega) q
          have hgp : ∀ q, (P ++ Lx ++ Rx ++ S)[pp - h]'q = Rx[mid - 1 - h]'hx2 := fun q => row_at hx2 (by omega) q
          have hRl : (P ++ Lx ++ Rx ++ S).length = b + S.length := by simp only [List.length_append]; omega
          obtain ⟨x, hx⟩ : ∃ x, x = Lx[h - a]'hx1 := ⟨_, rfl⟩
          obtain ⟨y, hy⟩ : ∃ y, y = Rx[mid - 1 - h]'hx2 := ⟨_, rfl⟩
          rw [← hx] at hgh
          rw [← hy] at hgp
          have hcn := cmpE_neg y x
          have hcr := cmpE_rng y x
          generalize P ++ Lx ++ Rx ++ S = R at hgh hgp hRl ⊢
          have hph : ((pp : Int) - (h : Int)).toNat = pp - h := by omega
          have hgq : ∀ (q : ((pp : Int) - (h : Int)).toNat < R.length), R[((pp : Int) - (h : Int)).toNat]'q = y := by simp only [hph]; exact hgp
          (refine rn ?_; (repeat (first | intro (g : Nat) | intro (v : Value) | intro (o : Value.oneCell' _ = true) | intro (cs : List Value) | intro (hcs : _ = List.set _ _ _) | intro (zs : List _) | intro (hzs : _))))
          rw [hmid2]
          (refine Ex.mixA 14 _ rfl (by kernel_rfl) (Fac.refl _) ?_; (refine mn ?_; (repeat (first | intro (g : Nat) | intro (v : Value) | intro (o : Value.oneCell' _ = true) | intro (cs : List Value) | intro (hcs : _ = List.set _ _ _) | intro (zs : List _) | intro (hzs : _)))))
          rw [hgq, hgh]
          refine mx_act (by rfl) (by rfl) (by rfl) ?_
          refine st_callC [] (xs := [.tmp 164, .tmp 168]) (fs := []) (us := [.pointer (some ⟨gl, 0, none⟩)]) (vs := [.agg (Rep.cells y).toArray, .agg (Rep.cells x).toArray]) (by rfl) (by rfl) Try.call48 rE (by rfl) (cmp_F y x gl ga _) ?_
          rintro _ _ ⟨rfl, rfl⟩
          generalize cmpE y x = cc at hcn hcr ⊢
          by_cases hlx : stLt y x = true
          · have hcc := hcn.2 hlx
            (refine ExL.nil ?_; refine mxEnd_n rF ?_; (refine mn ?_; (repeat (first | intro (g : Nat) | intro (v : Value) | intro (o : Value.oneCell' _ = true) | intro (cs : List Value) | intro (hcs : _ = List.set _ _ _) | intro (zs : List _) | intro (hzs : _)))))
            (refine rn ?_; (repeat (first | intro (g : Nat) | intro (v : Value) | intro (o : Value.oneCell' _ = true) | intro (cs : List Value) | intro (hcs : _ = List.set _ _ _) | intro (zs : List _) | intro (hzs : _))))
            exact rnd_n ⟨h - s, _, by omega, rB, s, h, by omega, by omega, by omega, rfl, hA, (fun c hc1 hc2 h1 h2 => stLt_mid2 (x := x) (stLt_lo (b := y) hlx (by rw [hy]; exact hsR.at h2 hx2 (by omega))) (by rw [hx]; exact hsL.at hx1 h1 (by omega))), lcons rfl (lcons rfl rfl), rfl⟩
          · have hcc : ¬ cc < 0 := fun h => hlx (hcn.1 h)
            (refine ExL.nil ?_; refine mxEnd_n rF ?_; (refine mn ?_; (repeat (first | intro (g : Nat) | intro (v : Value) | intro (o : Value.oneCell' _ = true) | intro (cs : List Value) | intro (hcs : _ = List.set _ _ _) | intro (zs : List _) | intro (hzs : _)))))
            (refine rn ?_; (repeat (first | intro (g : Nat) | intro (v : Value) | intro (o : Value.oneCell' _ = true) | intro (cs : List Value) | intro (hcs : _ = List.set _ _ _) | intro (zs : List _) | intro (hzs : _))))
            exact rnd_n ⟨r - (h + 1), _, by omega, rB, h + 1, r, by omega, by omega, by omega, rfl, (fun c hc1 hc2 h1 h2 => stLt_ge (b := x) (stLt_ge (b := y) (by rw [hy]; exact hsR.at hx2 h2 (by omega)) (by simpa using hlx)) (by rw [hx]; exact hsL.at h1 hx1 (by omega))), hB, lcons (vint (by omega)) (lcons rfl rfl), rfl⟩
        · obtain rfl : s = r := by omega
          (refine rn ?_; (repeat (first | intro (g : Nat) | intro (v : Value) | intro (o : Value.oneCell' _ = true) | intro (cs : List Value) | intro (hcs : _ = List.set _ _ _) | intro (zs : List _) | intro (hzs : _))))
          exact HC _ _ ⟨_, rB, s, hlo, hhi, hA, hB, rfl, rfl⟩
    · intro HC
      (repeat' (first | refine ExL.val (by rfl) (by rfl) (by rfl) rV ?_ | (first | refine Ex.seq ?_ | refine Ex.region ?_ | refine ExL.nil ?_ | refine thn_n ?_ | refine Ex.cond_t (by rfl) ?_ | refine Ex.cond_f (by rfl) ?_ | refine Ex.skip ?_ | refine Ex.block ?_ | refine Ex.exit ?_ | refine Ex.ret ?_ | refine thn_exit ?_ | refine thn_ret ?_ | refine inb_n ?_ | refine inb_hit (by rfl) ?_ | refine inb_miss (by rfl) ?_ | refine inb_ret ?_ | refine rnd_exit ?_ | refine rnd_ret ?_ | refine meet_ret ?_ | refine meet_exit ?_) | (apply exlGuard; first | refine ExL.gskip (by rfl) (by rfl) (by rfl) (by rfl) (by rfl) (by rfl) ?_ | refine ExL.gtake (by rfl) (by rfl) (by rfl) (by rfl) ?_ | refine ExL.gskipU (by rfl) (by rfl) (by rfl) (by rfl) ?_ | (refine ExL.gsplit (by rfl) (by rfl) (by rfl) (fun h => ?_) (fun h => ?_) <;> try (exfalso; omega))) | (first | refine st_new_ (by rfl) rE (fun g => ?_) | refine st_boxA (by rfl) (by rfl) (fun g => ?_) | refine st_box1 (by rfl) rE rN (fun g => ?_) | (apply exlStore; first | refine st_store1_ _ (by rfl) rK rE rN (by rfl) (by rfl) rE rE ?_ | refine st_storeW_ _ (by rfl) rK (by rfl) rC (by rfl) (by rfl) (by rfl) rE ?_ | refine st_storeR _ (by rfl) rK (by rfl) rE (by rfl) (by rfl) rE ?_ | refine st_storeA_ _ (by rfl) rK (by rfl) rC (by rfl) (by rfl) (by rfl) rE rE ?_ | refine st_storeB _ (by rfl) (by rfl) rO rO rK (by rfl) rO ?_ | refine st_storeG _ (by rfl) rK rE rN (by rfl) rO (fun cs hcs => ?_)) | refine st_slice0 (by rfl) (by rfl) (by rfl) (by rfl) (fun g => ?_) | refine st_slice1T (by rfl) (by rfl) (by rfl) (by rfl) (fun g => ?_) | refine st_makeT (by rfl) (by rfl) (by rfl) (by rfl) rE (by rfl) rO rO (fun v o => ?_) | (apply exlCopy; first | refine st_copyW _ (by rfl) rE rK rE rD (by rfl) rE (by rfl) (fun zs hzs => ?_) | refine st_copyS _ (by rfl) (by rfl) rK rE rD (by rfl) rE (by rfl) rO rO (fun zs hzs => ?_)) | refine st_sliceB (by rfl) (by rfl) (by rfl) (by rfl) (by rfl) (by rfl) (by rfl) rL rE rE (by rfl) (fun g => ?_) | refine st_slice1I (by rfl) (by rfl) (by rfl) (by rfl) (by rfl) (by rfl) (fun g => ?_) | refine st_slice1B (by rfl) (by rfl) (by rfl) (by rfl) (by rfl) (by rfl) rO rO (fun g => ?_) | refine st_slice1S (by rfl) (by rfl) (by rfl) (by rfl) (by rfl) (by rfl) (fun g => ?_) | refine st_slice2B (by rfl) (by rfl) (by rfl) (by rfl) (by rfl) (by rfl) (by rfl) rO rO rO rO (fun g => ?_) | (apply exlConv; first | refine st_bytes (by rfl) (by rfl) (by rfl) (by rfl) (by rfl) rO (fun v o => ?_) | refine st_mark _ (by rfl) (by rfl) rK (by rfl) (by rfl) (by rfl) ?_) | refine st_clear _ (0 : UInt8) (by rfl) rK (by rfl) (by rfl) (by rfl) (by rfl) (by rfl) rO ?_ | refine st_clearT _ (by rfl) rK rO (by rfl) (by rfl) rO rE ?_ | (apply exlAppend; first | refine st_app0 (by rfl) (by rfl) rE rD (by rfl) rE (by rfl) rE (by rfl) (by rfl) (by rfl) rO (fun v o => ?_) | refine st_app _ (by rfl) rE rK rE rD (by rfl) rE (by rfl) rE (by rfl) (by rfl) (by rfl) rO (fun v o => ?_) | refine st_shift _ (by rfl) (by rfl) (by rfl) rK rO (by rfl) (by rfl) (by rfl) rO rO rE ?_)) | (refine Ex.cond_d (by rfl) (fun h => ?_) (fun h => ?_) <;> try (exfalso; omega))))
      · exact HC _ _ ⟨_, rB, mid + m - b, mid, .inl ⟨by omega, by omega, rfl⟩, lcons rfl (lcons rfl (lcons rfl (lcons rfl (lcons rfl (lcons (vint (by omega)) (lcons (vint (by omega)) (lcons (vint (by omega)) (lcons (vint (by omega)) (lcons (vint (by omega)) rfl))))))))), rfl⟩
      · exact HC _ _ ⟨_, rB, a, m, .inr ⟨by omega, rfl, rfl⟩, lcons rfl (lcons rfl (lcons rfl (lcons rfl (lcons rfl (lcons (vint (by omega)) (lcons (vint (by omega)) (lcons rfl (lcons rfl (lcons (vint (by omega)) rfl))))))))), rfl⟩
end Go.Proofs.Ytcclbplccnaonaa
/- slices.SortStableFunc of events, walked: up to 40. No condition. -/
namespace Go.Proofs.Ytcclbplccnaonaa
open Go.RowKit
set_option linter.unusedSimpArgs false
set_option linter.unusedVariables false
theorem sortP_len (l : List Ev) : (sortP l).length = l.length := (sortP_perm l).length_eq
theorem sortP_nil : sortP [] = [] := rfl
set_option maxRecDepth 20000 attribute [local irreducible] Ex ExL Fn thn inb rnd fin meet Tab Mix mxEnd Val Sats RdT Rd RowT Row Blk Sub Fac ResV RVal Evs subs subs3 Hid Capd
attribute [local irreducible] MixE meEnd
set_option maxHeartbeats 8000000 in
theorem stable_F (v0 : Value) (xs A B : List Ev) (gl ga n : Nat) (M : List Assn) (hn : xs.length = n) (hn40 : n ≤ 40) (hA : A = xs.take 20) (hB : B = xs.drop 20) : Fn Try.prog 55 #[v0, .int .i64 n, cmpV gl] (KL gl ga :: KA ga :: Evs_ v0 xs :: M)
    fun v L' => L' = KL gl ga :: KA ga :: Evs_ v0 (sortP xs) :: M := by
  have hAB : xs = A ++ B := by rw [hA, hB, List.take_append_drop]
  have hs : mrg (sortP A) (sortP B) = sortP xs := by rw [hAB, sortP_app]
  have hAl : A.length = min 20 n := by rw [hA, List.length_take, hn]
  have hBl : B.length = n - 20 := by rw [hB, List.length_drop, hn]
  have lA := sortP_len A
  have lB := sortP_len B
  refine Fn.of_ex Try.func55 rfl Try.ntmps55 rfl ?_
  refine Ex.claim 4 [0, 1, 2, 6] (fun vs L' => vs = [v0, .int .i64 n, cmpV gl, .int .i64 20] ∧ L' = KL gl ga :: KA ga :: Evs_ v0 (sortP A ++ sortP B) :: M) ?_ ?_
  · rintro vs gk L' ⟨rfl, rfl⟩
    (refine rn ?_; (repeat (first | intro (g : Nat) | intro (v : Value) | intro (o : Value.oneCell' _ = true) | intro (cs : List Value) | intro (hcs : _ = List.set _ _ _) | intro (zs : List _) | intro (hzs : _))))
    refine Ex.loop [6] (fun q vs L' => (q = 1 ∧ vs = [.int .i64 20] ∧ L' = KL gl ga :: KA ga :: Evs_ v0 (sortP A ++ sortP B) :: M) ∨ (q = 0 ∧ vs = [.int .i64 40] ∧ L' = KL gl ga :: KA ga :: Evs_ v0 (sortP xs) :: M)) 1 (.inl ⟨rfl, rfl, rfl⟩) ?_
    rintro q vs g1 L' (⟨rfl, rfl, rfl⟩ | ⟨rfl, rfl, rfl⟩)
    · refine Ex.keep [0, 1, 2, 6] rG (fun gk => ?_)
      by_cases h20 : 20 < n
      · have hm := symM v0 gl ga M n [] (sortP A) (sortP B) [] 0 20 n (by omega) rfl (by omega) (by omega) (by omega) (by omega) (sortP_srt A) (sortP_srt B) (by simp; omega)
        simp only [List.nil_append, List.append_nil] at hm
        rw [hs] at hm
        (refine rn ?_; (repeat (first | intro (g : Nat) | intro (v : Value) | intro (o : Value.oneCell' _ = true) | intro (cs : List Value) | intro (hcs : _ = List.set _ _ _) | intro (zs : List _) | intro (hzs : _))))
        refine Ex.loop [7, 8] (fun q vs L' => (q = 1 ∧ vs = [.int .i64 0, .int .i64 40] ∧ L' = KL gl ga :: KA ga :: Evs_ v0 (sortP A ++ sortP B) :: M) ∨ (q = 0 ∧ n = 40 ∧ vs = [.int .i64 40, .int .i64 80] ∧ L' = KL gl ga :: KA ga :: Evs_ v0 (sortP xs) :: M)) 1 (.inl ⟨rfl, rfl, rfl⟩) ?_
        rintro q vs g2 L' (⟨rfl, rfl, rfl⟩ | ⟨rfl, h40, rfl, rfl⟩)
        · refine Ex.keep [0, 1, 2, 6, 7, 8] rG (fun gk => ?_)
          by_cases h40 : n = 40
          · subst h40
            (refine rn ?_; (repeat (first | intro (g : Nat) | intro (v : Value) | intro (o : Value.oneCell' _ = true) | intro (cs : List Value) | intro (hcs : _ = List.set _ _ _) | intro (zs : List _) | intro (hzs : _))))
            refine st_callIs [] (by rfl) Try.call60 rE (by rfl) (hm) ?_
            rintro _ _ rfl
            (refine rn ?_; (repeat (first | intro (g : Nat) | intro (v : Value) | intro (o : Value.oneCell' _ = true) | intro (cs : List Value) | intro (hcs : _ = List.set _ _ _) | intro (zs : List _) | intro (hzs : _))))
            exact rnd_n ⟨0, _, by omega, rB, .inr ⟨rfl, rfl, lcons rfl (lcons (vint (by omega)) rfl), rfl⟩⟩
          · (refine rn ?_; (repeat (first | intro (g : Nat) | intro (v : Value) | intro (o : Value.oneCell' _ = true) | intro (cs : List Value) | intro (hcs : _ = List.set _ _ _) | intro (zs : List _) | intro (hzs : _))))
            refine st_callIs [] (by rfl) Try.call60 rE (by rfl) (hm) ?_
            rintro _ _ rfl
            (refine rn ?_; (repeat (first | intro (g : Nat) | intro (v : Value) | intro (o : Value.oneCell' _ = true) | intro (cs : List Value) | intro (hcs : _ = List.set _ _ _) | intro (zs : List _) | intro (hzs : _))))
            exact rnd_n ⟨0, _, by omega, rB, .inr ⟨rfl, lcons (vint (by omega)) rfl, rfl⟩⟩
        · refine Ex.keep [0, 1, 2, 6, 7, 8] rG (fun gk => ?_)
          (refine rn ?_; (repeat (first | intro (g : Nat) | intro (v : Value) | intro (o : Value.oneCell' _ = true) | intro (cs : List Value) | intro (hcs : _ = List.set _ _ _) | intro (zs : List _) | intro (hzs : _))))
          exact rnd_n ⟨0, _, by omega, rB, .inr ⟨rfl, lcons (vint (by omega)) rfl, rfl⟩⟩
      · have h0 : sortP A ++ sortP B = sortP xs := by
          have hb : B = [] := List.length_eq_zero_iff.1 (by omega)
          rw [hb, sortP_nil, List.append_nil, hAB, hb, List.append_nil]
        rw [h0]
        (refine rn ?_; (repeat (first | intro (g : Nat) | intro (v : Value) | intro (o : Value.oneCell' _ = true) | intro (cs : List Value) | intro (hcs : _ = List.set _ _ _) | intro (zs : List _) | intro (hzs : _))))
        (first | refine fin_ret rS ?_ | refine fin_norm rS ?_)
        exact ⟨_, rB, rfl⟩
    · refine Ex.keep [0, 1, 2, 6] rG (fun gk => ?_)
      (refine rn ?_; (repeat (first | intro (g : Nat) | intro (v : Value) | intro (o : Value.oneCell' _ = true) | intro (cs : List Value) | intro (hcs : _ = List.set _ _ _) | intro (zs : List _) | intro (hzs : _))))
      (first | refine fin_ret rS ?_ | refine fin_norm rS ?_)
      exact ⟨_, rB, rfl⟩
  · intro HC
    (refine rn ?_; (repeat (first | intro (g : Nat) | intro (v : Value) | intro (o : Value.oneCell' _ = true) | intro (cs : List Value) | intro (hcs : _ = List.set _ _ _) | intro (zs : List _) | intro (hzs : _))))
    refine Ex.loop [7, 8] (fun q vs L' => (q = 2 ∧ vs = [.int .i64 0, .int .i64 20] ∧ L' = KL gl ga :: KA ga :: Evs_ v0 xs :: M) ∨ (q = 1 ∧ 20 ≤ n ∧ vs = [.int .i64 20, .int .i64 40] ∧ L' = KL gl ga :: KA ga :: Evs_ v0 (sortP A ++ B) :: M) ∨ (q = 0 ∧ n = 40 ∧ vs = [.int .i64 40, .int .i64 60] ∧ L' = KL gl ga :: KA ga :: Evs_ v0 (sortP A ++ sortP B) :: M)) 2 (.inl ⟨rfl, rfl, rfl⟩) ?_
    rintro q vs g1 L' (⟨rfl, rfl, rfl⟩ | ⟨rfl, h20, rfl, rfl⟩ | ⟨rfl, h40, rfl, rfl⟩)
    · refine Ex.keep [0, 1, 2, 6, 7, 8] rG (fun gk => ?_)
      by_cases h20 : 20 ≤ n
      · have hi := isort_F v0 xs gl ga 0 20 M (by omega) (by omega) (by omega)
        have e : xs.take 0 ++ sortP ((xs.drop 0).take (20 - 0)) ++ xs.drop 20 = sortP A ++ B := by rw [hA, hB]; simp
        rw [e] at hi
        (refine rn ?_; (repeat (first | intro (g : Nat) | intro (v : Value) | intro (o : Value.oneCell' _ = true) | intro (cs : List Value) | intro (hcs : _ = List.set _ _ _) | intro (zs : List _) | intro (hzs : _))))
        refine st_callIs [] (by rfl) Try.call59 rE (by rfl) (hi) ?_
        rintro _ _ rfl
        (refine rn ?_; (repeat (first | intro (g : Nat) | intro (v : Value) | intro (o : Value.oneCell' _ = true) | intro (cs : List Value) | intro (hcs : _ = List.set _ _ _) | intro (zs : List _) | intro (hzs : _))))
        exact rnd_n ⟨1, _, by omega, rB, .inr (.inl ⟨rfl, h20, lcons rfl (lcons (vint (by omega)) rfl), rfl⟩)⟩
      · have hi := isort_F v0 xs gl ga 0 n M (by omega) (by omega) (by omega)
        have hb : B = [] := List.length_eq_zero_iff.1 (by omega)
        have e : xs.take 0 ++ sortP ((xs.drop 0).take (n - 0)) ++ xs.drop n = sortP A ++ sortP B := by
          rw [hb, sortP_nil, List.drop_eq_nil_of_le (show xs.length ≤ n by omega), List.drop_zero, List.take_of_length_le (show xs.length ≤ n - 0 by omega), hA, List.take_of_length_le (show xs.length ≤ 20 by omega)]
          simp
        rw [e] at hi
        (refine rn ?_; (repeat (first | intro (g : Nat) | intro (v : Value) | intro (o : Value.oneCell' _ = true) | intro (cs : List Value) | intro (hcs : _ = List.set _ _ _) | intro (zs : List _) | intro (hzs : _))))
        refine st_callIs [] (by rfl) Try.call59 rE (by rfl) (hi) ?_
        rintro _ _ rfl
        (refine rn ?_; (repeat (first | intro (g : Nat) | intro (v : Value) | intro (o : Value.oneCell' _ = true) | intro (cs : List Value) | intro (hcs : _ = List.set _ _ _) | intro (zs : List _) | intro (hzs : _))))
        exact HC _ _ ⟨_, rB, rfl, rfl⟩
    · refine Ex.keep [0, 1, 2, 6, 7, 8] rG (fun gk => ?_)
      have hl : (sortP A ++ B).length = n := by rw [List.length_append]; omega
      have t1 : (sortP A ++ B).take 20 = sortP A := List.take_left' (by omega)
      have t2 : (sortP A ++ B).drop 20 = B := List.drop_left' (by omega)
      have hi := isort_F v0 (sortP A ++ B) gl ga 20 n M (by omega) (by omega) (by omega)
      rw [t1, t2, List.take_of_length_le (show B.length ≤ n - 20 by omega), List.drop_eq_nil_of_le (show (sortP A ++ B).length ≤ n by omega), List.append_nil] at hi
      by_cases h40 : n = 40
      · subst h40
        (refine rn ?_; (repeat (first | intro (g : Nat) | intro (v : Value) | intro (o : Value.oneCell' _ = true) | intro (cs : List Value) | intro (hcs : _ = List.set _ _ _) | intro (zs : List _) | intro (hzs : _))))
        refine st_callIs [] (by rfl) Try.call59 rE (by rfl) (hi) ?_
        rintro _ _ rfl
        (refine rn ?_; (repeat (first | intro (g : Nat) | intro (v : Value) | intro (o : Value.oneCell' _ = true) | intro (cs : List Value) | intro (hcs : _ = List.set _ _ _) | intro (zs : List _) | intro (hzs : _))))
        exact rnd_n ⟨0, _, by omega, rB, .inr (.inr ⟨rfl, rfl, lcons rfl (lcons (vint (by omega)) rfl), rfl⟩)⟩
      · (refine rn ?_; (repeat (first | intro (g : Nat) | intro (v : Value) | intro (o : Value.oneCell' _ = true) | intro (cs : List Value) | intro (hcs : _ = List.set _ _ _) | intro (zs : List _) | intro (hzs : _))))
        refine st_callIs [] (by rfl) Try.call59 rE (by rfl) (hi) ?_
        rintro _ _ rfl
        (refine rn ?_; (repeat (first | intro (g : Nat) | intro (v : Value) | intro (o : Value.oneCell' _ = true) | intro (cs : List Value) | intro (hcs : _ = List.set _ _ _) | intro (zs : List _) | intro (hzs : _))))
        exact HC _ _ ⟨_, rB, rfl, rfl⟩
    · refine Ex.keep [0, 1, 2, 6, 7, 8] rG (fun gk => ?_)
      subst h40
      have hl : (sortP A ++ sortP B).length = 40 := by rw [List.length_append]; omega
      have hi := isort_F v0 (sortP A ++ sortP B) gl ga 40 40 M (by omega) (by omega) (by omega)
      rw [List.take_of_length_le (show (sortP A ++ sortP B).length ≤ 40 by omega), List.drop_eq_nil_of_le (show (sortP A ++ sortP B).length ≤ 40 by omega), List.append_nil] at hi
      simp only [List.take_nil, sortP_nil, List.append_nil] at hi
      (refine rn ?_; (repeat (first | intro (g : Nat) | intro (v : Value) | intro (o : Value.oneCell' _ = true) | intro (cs : List Value) | intro (hcs : _ = List.set _ _ _) | intro (zs : List _) | intro (hzs : _))))
      refine st_callIs [] (by rfl) Try.call59 rE (by rfl) (hi) ?_
      rintro _ _ rfl
      (refine rn ?_; (repeat (first | intro (g : Nat) | intro (v : Value) | intro (o : Value.oneCell' _ = true) | intro (cs : List Value) | intro (hcs : _ = List.set _ _ _) | intro (zs : List _) | intro (hzs : _))))
      exact HC _ _ ⟨_, rB, rfl, rfl⟩
theorem sortStable_F (v0 : Value) (xs : List Ev) (gl ga : Nat) (M : List Assn) (hn40 : xs.length ≤ 40) : Fn Try.prog 47 #[v0, cmpV gl] (KL gl ga :: KA ga :: Evs_ v0 xs :: M)
    fun v L' => L' = KL gl ga :: KA ga :: Evs_ v0 (sortP xs) :: M := by
  refine Fn.of_ex Try.func47 rfl Try.ntmps47 rfl ?_
  (refine rn ?_; (repeat (first | intro (g : Nat) | intro (v : Value) | intro (o : Value.oneCell' _ = true) | intro (cs : List Value) | intro (hcs : _ = List.set _ _ _) | intro (zs : List _) | intro (hzs : _))))
  refine st_callIs [] (by rfl) Try.call55 rE (by rfl) (stable_F v0 xs _ _ gl ga _ M rfl hn40 rfl rfl) ?_
  rintro _ _ rfl
  (refine rn ?_; (repeat (first | intro (g : Nat) | intro (v : Value) | intro (o : Value.oneCell' _ = true) | intro (cs : List Value) | intro (hcs : _ = List.set _ _ _) | intro (zs : List _) | intro (hzs : _))))
  (first | refine fin_ret rS ?_ | refine fin_norm rS ?_)
  exact ⟨_, rB, rfl⟩
end Go.Proofs.Ytcclbplccnaonaa
/- past.Sort, walked: up to 40 events. No condition. -/
namespace Go.Proofs.Ytcclbplccnaonaa
open Go.RowKit
set_option linter.unusedSimpArgs false
set_option linter.unusedVariables false
set_option maxRecDepth 20000 attribute [local irreducible] Ex ExL Fn thn inb rnd fin meet Tab Mix mxEnd Val Sats RdT Rd RowT Row Blk Sub Fac ResV RVal Evs subs subs3 Hid Capd
theorem psorted_F (v0 : Value) (xs : List Ev) (ga : Nat) (M : List Assn) (hr : RdT M v0 xs) (hn40 : xs.length ≤ 40) : Fn Try.prog 36 #[v0, .func (.func 37) #[] #[.pointer (some ⟨ga, 0, none⟩)]] (KA ga :: M)
    fun v L' => v.oneCell' = true ∧ L' = Evs_ v (sortP xs) :: KA ga :: M := by
  refine Fn.of_ex Try.func36 rfl Try.ntmps36 rfl ?_
  (refine rn ?_; (repeat (first | intro (g : Nat) | intro (v : Value) | intro (o : Value.oneCell' _ = true) | intro (cs : List Value) | intro (hcs : _ = List.set _ _ _) | intro (zs : List _) | intro (hzs : _))))
  revert g
  intro gl
  refine st_callIs [] (by rfl) Try.call46 rE (by rfl) (clone_evs v0 xs _ rD (by omega)) ?_
  rintro r _ ⟨or, rfl⟩
  (refine rn ?_; (repeat (first | intro (g : Nat) | intro (v : Value) | intro (o : Value.oneCell' _ = true) | intro (cs : List Value) | intro (hcs : _ = List.set _ _ _) | intro (zs : List _) | intro (hzs : _))))
  refine st_callIs [2, 2] (by rfl) Try.call47 rE (by rfl) (sortStable_F r xs gl ga _ hn40) ?_
  rintro _ _ rfl
  (refine rn ?_; (repeat (first | intro (g : Nat) | intro (v : Value) | intro (o : Value.oneCell' _ = true) | intro (cs : List Value) | intro (hcs : _ = List.set _ _ _) | intro (zs : List _) | intro (hzs : _))))
  (first | refine fin_ret rS ?_ | refine fin_norm rS ?_)
  exact ⟨_, Sub.fr [2] rfl rB, or, rfl⟩
theorem psort_F (v0 : Value) (xs : List Ev) (M : List Assn) (hr : RdT M v0 xs) (hn40 : xs.length ≤ 40) : Fn Try.prog 20 #[v0] M
    fun v L' => v.oneCell' = true ∧ L' = Evs_ v (sortP xs) :: M := by
  refine Fn.of_ex Try.func20 rfl Try.ntmps20 rfl ?_
  (refine rn ?_; (repeat (first | intro (g : Nat) | intro (v : Value) | intro (o : Value.oneCell' _ = true) | intro (cs : List Value) | intro (hcs : _ = List.set _ _ _) | intro (zs : List _) | intro (hzs : _))))
  refine st_callIs [] (by rfl) Try.call36 rE (by rfl) (psorted_F v0 xs g _ hr hn40) ?_
  rintro r _ ⟨or, rfl⟩
  (refine rn ?_; (repeat (first | intro (g : Nat) | intro (v : Value) | intro (o : Value.oneCell' _ = true) | intro (cs : List Value) | intro (hcs : _ = List.set _ _ _) | intro (zs : List _) | intro (hzs : _))))
  (first | refine fin_ret rS ?_ | refine fin_norm rS ?_)
  exact ⟨_, rB, or, rfl⟩
end Go.Proofs.Ytcclbplccnaonaa
/- Clocks are compared cell by cell. No condition. -/
namespace Go.Proofs.Ytcclbplccnaonaa
open Go.RowKit
set_option linter.unusedSimpArgs false
set_option linter.unusedVariables false
set_option maxRecDepth 20000
instance : EqT Try.prog 29 Clk := ⟨6, [.i .i64, .i .i64, .i .i64, .i .i64, .i .i64], by kernel_rfl, by kernel_rfl, by kernel_rfl, by kernel_rfl, fun _ => rfl, fun a b h => by
  obtain ⟨a1, a2, a3, a4, a5⟩ := a
  obtain ⟨b1, b2, b3, b4, b5⟩ := b
  simp only [Rep.cells, List.cons.injEq, Value.int.injEq, true_and, and_true] at h
  simp [h]⟩
end Go.Proofs.Ytcclbplccnaonaa
/- kithref08: find, whole, Ordered, Clock, walked. No condition. -/
namespace Go.Proofs.Ytcclbplccnaonaa
open Go.RowKit
set_option linter.unusedSimpArgs false
set_option linter.unusedVariables false
/-- The place of the first one of a mark; -1: there is none. -/
def FirstI (l : List Ev) (r n x : Int) : Prop := (x = -1 ∧ (⟨r, n⟩ : Mk) ∉ marks l) ∨ ∃ i : Nat, x = i ∧ ∃ h : i < l.length, (l[i]'h).mk_ = ⟨r, n⟩ ∧ ∀ j (hj : j < l.length), j < i → (l[j]'hj).mk_ ≠ ⟨r, n⟩
theorem FirstI.neg {l : List Ev} {r n x : Int} (h : FirstI l r n x) : x < 0 ↔ (⟨r, n⟩ : Mk) ∉ marks l := by
  rcases h with ⟨rfl, h⟩ | ⟨i, rfl, hi, hm, _⟩
  · exact ⟨fun _ => h, fun _ => by omega⟩
  · exact ⟨fun h => by omega, fun h => absurd (mem_marks.2 ⟨_, List.getElem_mem hi, hm⟩) h⟩
set_option maxRecDepth 20000 attribute [local irreducible] Ex ExL Fn thn inb rnd fin meet Tab Mix mxEnd Val Sats RdT Rd RowT Row Blk Sub Fac ResV RVal Evs subs subs3 Hid Capd
set_option maxHeartbeats 2000000 in
theorem find_F (v0 : Value) (l : List Ev) (r n : Int) (M : List Assn) (hr : RdT M v0 l) (hl : l.length ≤ 1000000) : Fn Try.prog 39 #[v0, .int .i64 r, .int .i64 n] M fun v L' => (∃ x : Int, -1 ≤ x ∧ x ≤ 1000000 ∧ FirstI l r n x ∧ v = .int .i64 x) ∧ L' = M := by
  refine Fn.of_ex Try.func39 rfl Try.ntmps39 rfl ?_
  (refine rn ?_; (repeat (first | intro (g : Nat) | intro (v : Value) | intro (o : Value.oneCell' _ = true) | intro (cs : List Value) | intro (hcs : _ = List.set _ _ _) | intro (zs : List _) | intro (hzs : _))))
  refine Ex.loop [7] (fun m vs L' => ∃ (i : Nat), i ≤ l.length ∧ m = l.length - i ∧ vs = [.int .i64 i] ∧ (∀ j (h : j < l.length), j < i → (l[j]'h).mk_ ≠ ⟨r, n⟩) ∧ L' = M) l.length ⟨0, by omega, by omega, rfl, fun j hj h => by omega, rfl⟩ ?_
  rintro m vs g1 L' ⟨i, hi, rfl, rfl, hall, rfl⟩
  refine Ex.keep [0, 1, 2, 7] rG (fun gk => ?_)
  by_cases hlt : i < l.length
  · by_cases h1 : (l[i]'hlt).r = r
    · by_cases h2 : (l[i]'hlt).n = n
      · (refine rn ?_; (repeat (first | intro (g : Nat) | intro (v : Value) | intro (o : Value.oneCell' _ = true) | intro (cs : List Value) | intro (hcs : _ = List.set _ _ _) | intro (zs : List _) | intro (hzs : _))))
        (first | refine fin_ret rS ?_ | refine fin_norm rS ?_)
        exact ⟨_, rB, ⟨i, by omega, by omega, .inr ⟨i, rfl, hlt, by simp only [Ev.mk_, h1, h2], hall⟩, rfl⟩, rfl⟩
      · have hall2 : ∀ j (h : j < l.length), j < i + 1 → (l[j]'h).mk_ ≠ ⟨r, n⟩ := fun j hj hji => by
          by_cases he : j = i
          · subst he; exact fun e => h2 (mk_of e).2
          · exact hall j hj (by omega)
        clear hall
        (refine rn ?_; (repeat (first | intro (g : Nat) | intro (v : Value) | intro (o : Value.oneCell' _ = true) | intro (cs : List Value) | intro (hcs : _ = List.set _ _ _) | intro (zs : List _) | intro (hzs : _))))
        exact rnd_n ⟨l.length - (i + 1), _, by omega, rB, i + 1, by omega, rfl, lcons (vint (by omega)) rfl, hall2, rfl⟩
    · have hall2 : ∀ j (h : j < l.length), j < i + 1 → (l[j]'h).mk_ ≠ ⟨r, n⟩ := fun j hj hji => by
        by_cases he : j = i
        · subst he; exact fun e => h1 (mk_of e).1
        · exact hall j hj (by omega)
      clear hall
      (refine rn ?_; (repeat (first | intro (g : Nat) | intro (v : Value) | intro (o : Value.oneCell' _ = true) | intro (cs : List Value) | intro (hcs : _ = List.set _ _ _) | intro (zs : List _) | intro (hzs : _))))
      exact rnd_n ⟨l.length - (i + 1), _, by omega, rB, i + 1, by omega, rfl, lcons (vint (by omega)) rfl, hall2, rfl⟩
  · obtain rfl : i = l.length := by omega
    (refine rn ?_; (repeat (first | intro (g : Nat) | intro (v : Value) | intro (o : Value.oneCell' _ = true) | intro (cs : List Value) | intro (hcs : _ = List.set _ _ _) | intro (zs : List _) | intro (hzs : _))))
    (first | refine fin_ret rS ?_ | refine fin_norm rS ?_)
    exact ⟨_, rB, ⟨-1, by omega, by omega, .inl ⟨rfl, fun h => by
      obtain ⟨a, ha, e⟩ := mem_marks.1 h
      obtain ⟨j, hj, rfl⟩ := List.getElem_of_mem ha
      exact hall j hj hj e⟩, rfl⟩, rfl⟩
end Go.Proofs.Ytcclbplccnaonaa
/- kithref08: whole, Ordered, Clock, Height, walked. No condition. -/
namespace Go.Proofs.Ytcclbplccnaonaa
open Go.RowKit
set_option linter.unusedSimpArgs false
set_option linter.unusedVariables false
/-- Mark n of r is there, and the first such event has no more than c. -/
def WholeN (l : List Ev) (c : Clk) (r n : Int) : Prop := ∃ i, ∃ h : i < l.length, (l[i]'h).mk_ = ⟨r, n⟩ ∧ (∀ j (hj : j < l.length), j < i → (l[j]'hj).mk_ ≠ ⟨r, n⟩) ∧ (l[i]'h).c.le c = true
def WholeP (l : List Ev) (c : Clk) : Prop := ∀ r : Nat, r < 5 → ∀ n : Int, 1 ≤ n → n ≤ c.get r → WholeN l c r n
theorem WholeN.first {l : List Ev} {c : Clk} {r n : Int} (h : WholeN l c r n) {i : Nat} (hi : i < l.length) (hm : (l[i]'hi).mk_ = ⟨r, n⟩) (hf : ∀ j (hj : j < l.length), j < i → (l[j]'hj).mk_ ≠ ⟨r, n⟩) : (l[i]'hi).c.le c = true := by
  obtain ⟨k, hk, hkm, hkf, hle⟩ := h
  have : k = i := by
    rcases Nat.lt_trichotomy k i with h | h | h
    · exact absurd hkm (hf k hk h)
    · exact h
    · exact absurd hm (hkf i hi h)
  subst this
  exact hle
theorem ev_cell (e : Ev) (q : Nat) (h : q < 5) : (Rep.cells e)[2 + (q : Int).toNat * 1]? = some (.int .i64 (e.c.get q)) := by
  match q, h with
  | 0, _ => rfl
  | 1, _ => rfl
  | 2, _ => rfl
  | 3, _ => rfl
  | 4, _ => rfl
set_option maxRecDepth 20000 attribute [local irreducible] Ex ExL Fn thn inb rnd fin meet Tab Mix mxEnd Val Sats RdT Rd RowT Row Blk Sub Fac ResV RVal Evs subs subs3 Hid Capd
set_option maxHeartbeats 8000000 in
theorem whole_F (v0 : Value) (l : List Ev) (c : Clk) (M : List Assn) (hr : RdT M v0 l) (hl : l.length ≤ 1000000) (hc : ∀ i, i < 5 → c.get i ≤ 1000000000) : Fn Try.prog 40 #[v0, c.val] M fun v L' => (∃ b : Bool, (b = true ↔ WholeP l c) ∧ v = .bool b) ∧ L' = M := by
  refine Fn.of_ex Try.func40 rfl Try.ntmps40 rfl ?_
  (refine rn ?_; (repeat (first | intro (g : Nat) | intro (v : Value) | intro (o : Value.oneCell' _ = true) | intro (cs : List Value) | intro (hcs : _ = List.set _ _ _) | intro (zs : List _) | intro (hzs : _))))
  revert g
  intro g3
  refine Ex.loop [5] (fun m vs L' => ∃ (r : Nat), r ≤ 5 ∧ m = 5 - r ∧ vs = [.int .i64 r] ∧ (∀ q : Nat, q < r → ∀ n : Int, 1 ≤ n → n ≤ c.get q → WholeN l c q n) ∧ L' = Blk g3 29 (Rep.cells c) :: M) 5 ⟨0, by omega, by omega, rfl, fun j hj => by omega, rfl⟩ ?_
  rintro m vs g1 L' ⟨r, hr5, rfl, rfl, hall, rfl⟩
  refine Ex.keep [0, 3, 5] rG (fun gk => ?_)
  by_cases hlt : r < 5
  · have e1 := Clk.getD_eq c (r : Int).toNat
    rw [show c.get (r : Int).toNat = c.get r from rfl] at e1
    have hcr := hc r hlt
    (refine rn ?_; (repeat (first | intro (g : Nat) | intro (v : Value) | intro (o : Value.oneCell' _ = true) | intro (cs : List Value) | intro (hcs : _ = List.set _ _ _) | intro (zs : List _) | intro (hzs : _))))
    refine Ex.loop [6] (fun m vs L' => ∃ (n : Int), 1 ≤ n ∧ n ≤ max 1 (c.get r + 1) ∧ m = (max 1 (c.get r + 1) - n).toNat ∧ vs = [.int .i64 n] ∧ (∀ k : Int, 1 ≤ k → k < n → WholeN l c r k) ∧ L' = Blk g3 29 (Rep.cells c) :: M) (max 1 (c.get r + 1) - 1).toNat ⟨1, by omega, by omega, rfl, rfl, fun k h1 h2 => by omega, rfl⟩ ?_
    rintro m vs g2 L' ⟨n, hn1, hn2, rfl, rfl, hall2, rfl⟩
    refine Ex.keep [0, 3, 5, 6] rG (fun gk => ?_)
    by_cases hle : n ≤ c.get r
    · have hbad : ¬ WholeN l c r n → ∃ b : Bool, (b = true ↔ WholeP l c) ∧ Value.bool false = .bool b := fun h => ⟨false, ⟨fun x => absurd x (by decide), fun k => (h (k r hlt n hn1 hle)).elim⟩, rfl⟩
      have hnext : WholeN l c r n → ∀ k : Int, 1 ≤ k → k < n + 1 → WholeN l c r k := fun h k h1 h2 => by
        by_cases he : k = n
        · subst he; exact h
        · exact hall2 k h1 (by omega)
      clear hall hall2
      (refine rn ?_; (repeat (first | intro (g : Nat) | intro (v : Value) | intro (o : Value.oneCell' _ = true) | intro (cs : List Value) | intro (hcs : _ = List.set _ _ _) | intro (zs : List _) | intro (hzs : _))))
      refine st_callIs [] (by rfl) Try.call39 (by rfl) (by rfl) (find_F v0 l r n _ rD hl) ?_
      rintro _ _ ⟨⟨x, hx1, hx2, hx, rfl⟩, rfl⟩
      by_cases hx0 : x < 0
      · have hno : ¬ WholeN l c r n := fun ⟨i, hi, hm, _⟩ => (hx.neg.1 hx0) (mem_marks.2 ⟨_, List.getElem_mem hi, hm⟩)
        clear hnext
        (refine rn ?_; (repeat (first | intro (g : Nat) | intro (v : Value) | intro (o : Value.oneCell' _ = true) | intro (cs : List Value) | intro (hcs : _ = List.set _ _ _) | intro (zs : List _) | intro (hzs : _))))
        (refine Ex.mixA 12 _ rfl (by kernel_rfl) (Fac.refl _) ?_; (refine mn ?_; (repeat (first | intro (g : Nat) | intro (v : Value) | intro (o : Value.oneCell' _ = true) | intro (cs : List Value) | intro (hcs : _ = List.set _ _ _) | intro (zs : List _) | intro (hzs : _)))))
        (refine rn ?_; (repeat (first | intro (g : Nat) | intro (v : Value) | intro (o : Value.oneCell' _ = true) | intro (cs : List Value) | intro (hcs : _ = List.set _ _ _) | intro (zs : List _) | intro (hzs : _))))
        (first | refine fin_ret rS ?_ | refine fin_norm rS ?_)
        exact ⟨_, rB, hbad hno, rfl⟩
      · obtain ⟨i, rfl, hi, hm, hf⟩ : ∃ i : Nat, x = i ∧ ∃ h : i < l.length, (l[i]'h).mk_ = ⟨(r : Int), n⟩ ∧ ∀ j (hj : j < l.length), j < i → (l[j]'hj).mk_ ≠ ⟨(r : Int), n⟩ := by
          rcases hx with ⟨rfl, _⟩ | h
          · omega
          · exact h
        (refine rn ?_; (repeat (first | intro (g : Nat) | intro (v : Value) | intro (o : Value.oneCell' _ = true) | intro (cs : List Value) | intro (hcs : _ = List.set _ _ _) | intro (zs : List _) | intro (hzs : _))))
        (refine Ex.mixA 12 _ rfl (by kernel_rfl) (Fac.refl _) ?_; (refine mn ?_; (repeat (first | intro (g : Nat) | intro (v : Value) | intro (o : Value.oneCell' _ = true) | intro (cs : List Value) | intro (hcs : _ = List.set _ _ _) | intro (zs : List _) | intro (hzs : _)))))
        (refine mx_act (by rfl) (by rfl) (by rfl) ?_; refine st_callIs [] (by rfl) Try.call43 rE (by rfl) (rle_F (l[i]'hi).c c _) ?_)
        rintro _ _ ⟨rfl, rfl⟩
        cases hlc : (l[i]'hi).c.le c
        · have hno : ¬ WholeN l c r n := fun h => by
            have := h.first hi hm hf
            rw [hlc] at this; cases this
          clear hnext hf
          (refine ExL.nil ?_; refine mxEnd_n rF ?_; (refine mn ?_; (repeat (first | intro (g : Nat) | intro (v : Value) | intro (o : Value.oneCell' _ = true) | intro (cs : List Value) | intro (hcs : _ = List.set _ _ _) | intro (zs : List _) | intro (hzs : _)))))
          (refine rn ?_; (repeat (first | intro (g : Nat) | intro (v : Value) | intro (o : Value.oneCell' _ = true) | intro (cs : List Value) | intro (hcs : _ = List.set _ _ _) | intro (zs : List _) | intro (hzs : _))))
          (first | refine fin_ret rS ?_ | refine fin_norm rS ?_)
          exact ⟨_, rB, hbad hno, rfl⟩
        · have hy := hnext ⟨i, hi, hm, hf, hlc⟩
          clear hnext hbad hf
          (refine ExL.nil ?_; refine mxEnd_n rF ?_; (refine mn ?_; (repeat (first | intro (g : Nat) | intro (v : Value) | intro (o : Value.oneCell' _ = true) | intro (cs : List Value) | intro (hcs : _ = List.set _ _ _) | intro (zs : List _) | intro (hzs : _)))))
          (refine rn ?_; (repeat (first | intro (g : Nat) | intro (v : Value) | intro (o : Value.oneCell' _ = true) | intro (cs : List Value) | intro (hcs : _ = List.set _ _ _) | intro (zs : List _) | intro (hzs : _))))
          exact rnd_n ⟨(max 1 (c.get r + 1) - (n + 1)).toNat, _, by omega, rB, n + 1, by omega, by omega, rfl, rfl, hy, rfl⟩
    · have hall3 : ∀ q : Nat, q < r + 1 → ∀ k : Int, 1 ≤ k → k ≤ c.get q → WholeN l c q k := fun q hq k h1 h2 => by
        by_cases he : q = r
        · subst he; exact hall2 k h1 (by omega)
        · exact hall q (by omega) k h1 h2
      clear hall hall2
      (refine rn ?_; (repeat (first | intro (g : Nat) | intro (v : Value) | intro (o : Value.oneCell' _ = true) | intro (cs : List Value) | intro (hcs : _ = List.set _ _ _) | intro (zs : List _) | intro (hzs : _))))
      exact rnd_n ⟨5 - (r + 1), _, by omega, rB, r + 1, by omega, rfl, lcons (vint (by omega)) rfl, hall3, rfl⟩
  · obtain rfl : r = 5 := by omega
    (refine rn ?_; (repeat (first | intro (g : Nat) | intro (v : Value) | intro (o : Value.oneCell' _ = true) | intro (cs : List Value) | intro (hcs : _ = List.set _ _ _) | intro (zs : List _) | intro (hzs : _))))
    (first | refine fin_ret rS ?_ | refine fin_norm rS ?_)
    exact ⟨_, rB, ⟨true, ⟨fun _ => hall, fun _ => rfl⟩, rfl⟩, rfl⟩
theorem no_ord {l : List Ev} {b : Prop} (h : ¬ b) : ∃ x : Bool, (x = true ↔ b) ∧ Value.bool false = .bool x := ⟨false, ⟨fun x => absurd x (by decide), fun k => (h k).elim⟩, rfl⟩
set_option maxHeartbeats 8000000 in
theorem rordered_F (v0 : Value) (l : List Ev) (M : List Assn) (hr : RdT M v0 l) (hl : l.length ≤ 1000000) (hc : ∀ e ∈ l, ∀ i, i < 5 → e.c.get i ≤ 1000000000) : Fn Try.prog 23 #[v0] M fun v L' => (∃ b : Bool, (b = true ↔ OrdP l) ∧ v = .bool b) ∧ L' = M := by
  rw [OrdQ.iff]
  refine Fn.of_ex Try.func23 rfl Try.ntmps23 rfl ?_
  (refine rn ?_; (repeat (first | intro (g : Nat) | intro (v : Value) | intro (o : Value.oneCell' _ = true) | intro (cs : List Value) | intro (hcs : _ = List.set _ _ _) | intro (zs : List _) | intro (hzs : _))))
  refine Ex.loop [3] (fun m vs L' => ∃ (i : Nat), i ≤ l.length ∧ m = l.length - i ∧ vs = [.int .i64 i] ∧ (∀ j (h : j < l.length), j < i → ∀ r n, (l[j]'h).c.has r n = true → (⟨r, n⟩ : Mk) ∈ marks (l.take j)) ∧ L' = M) l.length ⟨0, by omega, by omega, rfl, fun j _ h => by omega, rfl⟩ ?_
  rintro m vs g1 L1 ⟨i, hi, rfl, rfl, hall, rfl⟩
  refine Ex.keep [0, 3] rG (fun gk => ?_)
  by_cases hlt : i < l.length
  · obtain ⟨c, hcc⟩ : ∃ c, c = (l[i]'hlt).c := ⟨_, rfl⟩
    have hbad : ∀ r n, c.has r n = true → (⟨r, n⟩ : Mk) ∉ marks (l.take i) → ¬ OrdQ l := fun r n h1 h2 k => h2 (k (l.take i) (l[i]'hlt) (l.drop (i + 1)) (by rw [List.getElem_cons_drop, List.take_append_drop]) r n (by rw [← hcc]; exact h1))
    have htl : (l.take i).length ≤ 1000000 := by rw [List.length_take]; omega
    have hci := hc _ (List.getElem_mem hlt)
    rw [← hcc] at hci
    (refine rn ?_; (repeat (first | intro (g : Nat) | intro (v : Value) | intro (o : Value.oneCell' _ = true) | intro (cs : List Value) | intro (hcs : _ = List.set _ _ _) | intro (zs : List _) | intro (hzs : _))))
    refine Ex.loop [4] (fun m vs L' => ∃ (r : Nat), r ≤ 5 ∧ m = 5 - r ∧ vs = [.int .i64 r] ∧ (∀ q : Nat, q < r → ∀ n : Int, 1 ≤ n → n ≤ c.get q → (⟨q, n⟩ : Mk) ∈ marks (l.take i)) ∧ L' = L1) 5 ⟨0, by omega, by omega, rfl, fun j hj => by omega, rfl⟩ ?_
    rintro m vs g2 L2 ⟨r, hr5, rfl, rfl, hall2, rfl⟩
    refine Ex.keep [0, 3, 4] rG (fun gk => ?_)
    by_cases hlr : r < 5
    · have hcr := hci r hlr
      (refine rn ?_; (repeat (first | intro (g : Nat) | intro (v : Value) | intro (o : Value.oneCell' _ = true) | intro (cs : List Value) | intro (hcs : _ = List.set _ _ _) | intro (zs : List _) | intro (hzs : _))))
      refine Ex.loop [5] (fun m vs L' => ∃ (n : Int), 1 ≤ n ∧ n ≤ max 1 (c.get r + 1) ∧ m = (max 1 (c.get r + 1) - n).toNat ∧ vs = [.int .i64 n] ∧ (∀ k : Int, 1 ≤ k → k < n → (⟨(r : Int), k⟩ : Mk) ∈ marks (l.take i)) ∧ L' = L2) (max 1 (c.get r + 1) - 1).toNat ⟨1, by omega, by omega, rfl, rfl, fun k h1 h2 => by omega, rfl⟩ ?_
      rintro m vs g3 L3 ⟨n, hn1, hn2, rfl, rfl, hall3, rfl⟩
      refine Ex.keep [0, 3, 4, 5] rG (fun gk => ?_)
      (refine rn ?_; (repeat (first | intro (g : Nat) | intro (v : Value) | intro (o : Value.oneCell' _ = true) | intro (cs : List Value) | intro (hcs : _ = List.set _ _ _) | intro (zs : List _) | intro (hzs : _))))
      refine ExL.val (by rfl) (by rfl) (by rfl) (vl_loadS1 (sz := 12) (i := i) (o := 2 + (r : Int).toNat * 1) (by rfl) (by rfl) rD hlt (by rfl) (ev_cell _ r hlr)) ?_
      rw [← hcc]
      by_cases hle : n ≤ c.get r
      · have hh : c.has r n = true := (Clk.has_iff _ _ _).2 ⟨by omega, by omega, hn1, by rw [Int.toNat_natCast]; exact hle⟩
        have hb2 := hbad r n hh
        have hnext : (⟨(r : Int), n⟩ : Mk) ∈ marks (l.take i) → ∀ k : Int, 1 ≤ k → k < n + 1 → (⟨(r : Int), k⟩ : Mk) ∈ marks (l.take i) := fun h k h1 h2 => by
          by_cases he : k = n
          · subst he; exact h
          · exact hall3 k h1 (by omega)
        clear hall hall2 hall3 hbad hcc
        (refine rn ?_; (repeat (first | intro (g : Nat) | intro (v : Value) | intro (o : Value.oneCell' _ = true) | intro (cs : List Value) | intro (hcs : _ = List.set _ _ _) | intro (zs : List _) | intro (hzs : _))))
        refine st_callIs [] (by rfl) Try.call39 (by rfl) (by rfl) (find_F _ (l.take i) r n _ rD htl) ?_
        rintro _ _ ⟨⟨x, hx1, hx2, hx, rfl⟩, rfl⟩
        by_cases hx0 : x < 0
        · have hno := hb2 (hx.neg.1 hx0)
          clear hnext
          (refine rn ?_; (repeat (first | intro (g : Nat) | intro (v : Value) | intro (o : Value.oneCell' _ = true) | intro (cs : List Value) | intro (hcs : _ = List.set _ _ _) | intro (zs : List _) | intro (hzs : _))))
          (first | refine fin_ret rS ?_ | refine fin_norm rS ?_)
          exact ⟨_, rB, no_ord (l := l) hno, rfl⟩
        · have hy := hnext (Classical.byContradiction fun h => hx0 (hx.neg.2 h))
          clear hnext
          (refine rn ?_; (repeat (first | intro (g : Nat) | intro (v : Value) | intro (o : Value.oneCell' _ = true) | intro (cs : List Value) | intro (hcs : _ = List.set _ _ _) | intro (zs : List _) | intro (hzs : _))))
          exact rnd_n ⟨(max 1 (c.get r + 1) - (n + 1)).toNat, _, by omega, rB, n + 1, by omega, by omega, rfl, rfl, hy, rfl⟩
      · have hall4 : ∀ q : Nat, q < r + 1 → ∀ k : Int, 1 ≤ k → k ≤ c.get q → (⟨q, k⟩ : Mk) ∈ marks (l.take i) := fun q hq k h1 h2 => by
          by_cases he : q = r
          · subst he; exact hall3 k h1 (by omega)
          · exact hall2 q (by omega) k h1 h2
        clear hall hall2 hall3 hbad
        (refine rn ?_; (repeat (first | intro (g : Nat) | intro (v : Value) | intro (o : Value.oneCell' _ = true) | intro (cs : List Value) | intro (hcs : _ = List.set _ _ _) | intro (zs : List _) | intro (hzs : _))))
        exact rnd_n ⟨5 - (r + 1), _, by omega, rB, r + 1, by omega, rfl, lcons (vint (by omega)) rfl, hall4, rfl⟩
    · obtain rfl : r = 5 := by omega
      have hall4 : ∀ j (h : j < l.length), j < i + 1 → ∀ r n, (l[j]'h).c.has r n = true → (⟨r, n⟩ : Mk) ∈ marks (l.take j) := fun j hj hji r n hh => by
        by_cases he : j = i
        · subst he
          rw [← hcc] at hh
          obtain ⟨h1, h2, h3, h4⟩ := (Clk.has_iff _ _ _).1 hh
          have := hall2 r.toNat (by omega) n h3 h4
          rwa [show ((r.toNat : Nat) : Int) = r by omega] at this
        · exact hall j hj (by omega) r n hh
      clear hall hall2 hbad
      (refine rn ?_; (repeat (first | intro (g : Nat) | intro (v : Value) | intro (o : Value.oneCell' _ = true) | intro (cs : List Value) | intro (hcs : _ = List.set _ _ _) | intro (zs : List _) | intro (hzs : _))))
      exact rnd_n ⟨l.length - (i + 1), _, by omega, rB, i + 1, by omega, rfl, lcons (vint (by omega)) rfl, hall4, rfl⟩
  · obtain rfl : i = l.length := by omega
    (refine rn ?_; (repeat (first | intro (g : Nat) | intro (v : Value) | intro (o : Value.oneCell' _ = true) | intro (cs : List Value) | intro (hcs : _ = List.set _ _ _) | intro (zs : List _) | intro (hzs : _))))
    (first | refine fin_ret rS ?_ | refine fin_norm rS ?_)
    refine ⟨_, rB, ⟨true, ⟨fun _ => ?_, fun _ => rfl⟩, rfl⟩, rfl⟩
    rintro l1 e l2 rfl r n hh
    have := hall l1.length (by simp) (by simp) r n (by simpa using hh)
    rwa [List.take_left] at this
end Go.Proofs.Ytcclbplccnaonaa
