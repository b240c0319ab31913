/- The walk's steps, one for each kind of operation that only reckons. No condition. -/
import Derived.Test.YtkcpgdkchglhhaaSepL
namespace Go.Proofs.Ytkcpgdkchglhhaa
open Go.RowKit
set_option linter.unusedSimpArgs false
set_option linter.unusedVariables false
section
variable {P : Program} {n : Nat} {ops : Array Oper} {Q : Post} {f : Nat → Value} {L : List Assn} {rest : List Oper} {d : Nat} {ty : TypeId} {pos : String} {af : Array Edge}
theorem st_move {x : Operand} {v : Value} (hd : Nat.blt d n = true) (hx : evalF f x = v) (h : ExL P n ops rest Q (upd f d v) L) : ExL P n ops (⟨some d, .move x, ty, pos, af, none⟩ :: rest) Q f L :=
  ExL.val rfl rfl hd (fun F w s => by rw [← hx]; rfl) h
theorem st_assign {x : Operand} {v : Value} (hd : Nat.blt d n = true) (hx : evalF f x = v) (h : ExL P n ops rest Q (upd f d v) L) : ExL P n ops (⟨some d, .assign x, ty, pos, af, none⟩ :: rest) Q f L :=
  ExL.val rfl rfl hd (fun F w s => by rw [← hx]; rfl) h
theorem st_pick_t {c x y : Operand} {v : Value} (hd : Nat.blt d n = true) (hc : evalF f c = .bool true) (hx : evalF f x = v) (h : ExL P n ops rest Q (upd f d v) L) : ExL P n ops (⟨some d, .pick c x y, ty, pos, af, none⟩ :: rest) Q f L :=
  ExL.val rfl rfl hd (fun F w s => by rw [← hx]; simp [execOp, hc, asBool]) h
theorem st_pick_f {c x y : Operand} {v : Value} (hd : Nat.blt d n = true) (hc : evalF f c = .bool false) (hy : evalF f y = v) (h : ExL P n ops rest Q (upd f d v) L) : ExL P n ops (⟨some d, .pick c x y, ty, pos, af, none⟩ :: rest) Q f L :=
  ExL.val rfl rfl hd (fun F w s => by rw [← hy]; simp [execOp, hc, asBool]) h
theorem st_cmp {op : BinOp} {xt yt : TypeId} {x y : Operand} {k : IntKind} {a b : Int} (p : Prop) [i : Decidable p] (hd : Nat.blt d n = true) (hx : evalF f x = .int k a) (hy : evalF f y = .int k b)
    (hr : (binOp op xt (.int k a) (.int k b)) = pure (.bool (decide p))) (h : ExL P n ops rest Q (upd f d (.bool (decide p))) L) : ExL P n ops (⟨some d, .binOp op xt x y yt, ty, pos, af, none⟩ :: rest) Q f L :=
  ExL.val rfl rfl hd (fun F w s => by cases op <;> simp [execOp, hx, hy, eqGuard, hr]) h
theorem st_lss {xt yt : TypeId} {x y : Operand} {k : IntKind} {a b : Int} (hd : Nat.blt d n = true) (hx : evalF f x = .int k a) (hy : evalF f y = .int k b)
    (h : ExL P n ops rest Q (upd f d (.bool (decide (a < b)))) L) : ExL P n ops (⟨some d, .binOp .lss xt x y yt, ty, pos, af, none⟩ :: rest) Q f L :=
  st_cmp (a < b) hd hx hy (by simp [binOp, Op.intCmp]) h
theorem st_leq {xt yt : TypeId} {x y : Operand} {k : IntKind} {a b : Int} (hd : Nat.blt d n = true) (hx : evalF f x = .int k a) (hy : evalF f y = .int k b)
    (h : ExL P n ops rest Q (upd f d (.bool (decide (a ≤ b)))) L) : ExL P n ops (⟨some d, .binOp .leq xt x y yt, ty, pos, af, none⟩ :: rest) Q f L :=
  st_cmp (a ≤ b) hd hx hy (by simp [binOp, Op.intCmp]) h
theorem st_gtr {xt yt : TypeId} {x y : Operand} {k : IntKind} {a b : Int} (hd : Nat.blt d n = true) (hx : evalF f x = .int k a) (hy : evalF f y = .int k b)
    (h : ExL P n ops rest Q (upd f d (.bool (decide (b < a)))) L) : ExL P n ops (⟨some d, .binOp .gtr xt x y yt, ty, pos, af, none⟩ :: rest) Q f L :=
  st_cmp (b < a) hd hx hy (by simp [binOp, Op.intCmp]) h
theorem st_geq {xt yt : TypeId} {x y : Operand} {k : IntKind} {a b : Int} (hd : Nat.blt d n = true) (hx : evalF f x = .int k a) (hy : evalF f y = .int k b)
    (h : ExL P n ops rest Q (upd f d (.bool (decide (b ≤ a)))) L) : ExL P n ops (⟨some d, .binOp .geq xt x y yt, ty, pos, af, none⟩ :: rest) Q f L :=
  st_cmp (b ≤ a) hd hx hy (by simp [binOp, Op.intCmp]) h
theorem st_eql {xt yt : TypeId} {x y : Operand} {k : IntKind} {a b : Int} (hd : Nat.blt d n = true) (hx : evalF f x = .int k a) (hy : evalF f y = .int k b)
    (h : ExL P n ops rest Q (upd f d (.bool (decide (a = b)))) L) : ExL P n ops (⟨some d, .binOp .eql xt x y yt, ty, pos, af, none⟩ :: rest) Q f L :=
  st_cmp (a = b) hd hx hy (by simp [binOp, Op.intCmp]; rfl) h
theorem st_neq {xt yt : TypeId} {x y : Operand} {k : IntKind} {a b : Int} (hd : Nat.blt d n = true) (hx : evalF f x = .int k a) (hy : evalF f y = .int k b)
    (h : ExL P n ops rest Q (upd f d (.bool (decide (a ≠ b)))) L) : ExL P n ops (⟨some d, .binOp .neq xt x y yt, ty, pos, af, none⟩ :: rest) Q f L :=
  st_cmp (a ≠ b) hd hx hy (by simp [binOp, Op.intCmp]; rfl) h
end
section
variable {P : Program} {n : Nat} {Q : Post} {f : Nat → Value} {L : List Assn} {c : Code}
theorem thn_n (h : Ex P n c Q f L) : thn P n c Q .normal f L := h
theorem thn_ret (h : Q .ret f L) : thn P n c Q .ret f L := h
theorem thn_exit {k : Nat} (h : Q (.exit k) f L) : thn P n c Q (.exit k) f L := h
theorem inb_n {id : Nat} (h : Q .normal f L) : inb id Q .normal f L := h
theorem inb_ret {id : Nat} (h : Q .ret f L) : inb id Q .ret f L := h
theorem inb_hit {id k : Nat} (hk : Nat.beq k id = true) (h : Q .normal f L) : inb id Q (.exit k) f L := by
  simp only [inb, hk]; exact h
theorem inb_miss {id k : Nat} (hk : Nat.beq k id = false) (h : Q (.exit k) f L) : inb id Q (.exit k) f L := by
  simp only [inb, hk]; exact h
theorem rnd_n {I : Nat → List Value → List Assn → Prop} {m : Nat} {ss : List Nat} (h : ∃ m' L', m' < m ∧ Sub L' L ∧ I m' (ss.map f) L') : rnd I m ss Q .normal f L := h
theorem rnd_ret {I : Nat → List Value → List Assn → Prop} {m : Nat} {ss : List Nat} (h : Q .ret f L) : rnd I m ss Q .ret f L := h
theorem rnd_exit {I : Nat → List Value → List Assn → Prop} {m k : Nat} {ss : List Nat} (h : Q (.exit k) f L) : rnd I m ss Q (.exit k) f L := h
end
theorem res1 {P : Program} {fn : Func} {f : Nat → Value} {L : List Assn} {t : Tmp} {v : Value} (hr : fn.results = #[.tmp t]) (h : f t = v) : ResV P fn f L v := fun F w tmps ht s => by
  rw [results_tmp hr, ht t, h]
end Go.Proofs.Ytkcpgdkchglhhaa
