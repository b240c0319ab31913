/- The facts beneath the steps that only reckon (by a program, off the steps' own text). No condition. -/
import Derived.Test.YtkcpgdkchglhhaaSepI
namespace Go.Proofs.Ytkcpgdkchglhhaa
open Go.RowKit
set_option linter.unusedSimpArgs false
set_option linter.unusedVariables false
section
variable {P : Program} {f : Nat → Value} {L : List Assn} {d : Nat} {ty : TypeId} {pos : String} {af : Array Edge} {gd : Option (Nat × Bool)}
theorem vl_eqv {op : BinOp} {xt yt : TypeId} {x y : Operand} {a b v : Value} (hx : evalF f x = a) (hy : evalF f y = b) (hg : ∀ w, (eqGuard op xt x y a b).run P w = .ok () w) (hr : ∀ w, (binOp op xt a b).run P w = .ok v w)
    : Val P ⟨some d, .binOp op xt x y yt, ty, pos, af, gd⟩ f L v := (fun F w s => by simp [execOp, hx, hy, hg, hr])
theorem vl_bin {op : BinOp} {xt yt : TypeId} {x y : Operand} {a b v : Value} (hx : evalF f x = a) (hy : evalF f y = b) (hne : (op matches .eql | .neq) = false) (hr : ∀ w, (binOp op xt a b).run P w = .ok v w)
    : Val P ⟨some d, .binOp op xt x y yt, ty, pos, af, gd⟩ f L v := vl_eqv  hx hy (run_eqGuard hne) hr
theorem vl_add64 {xt yt : TypeId} {x y : Operand} {a b : Int} (hx : evalF f x = .int .i64 a) (hy : evalF f y = .int .i64 b) (h1 : -9223372036854775808 ≤ a + b) (h2 : a + b ≤ 9223372036854775807)
    : Val P ⟨some d, .binOp .add xt x y yt, ty, pos, af, gd⟩ f L (.int .i64 (a + b)) := vl_bin  hx hy rfl (fun w => by simp [binOp, Op.intArith, wrap_i64 h1 h2])
theorem vl_sub64 {xt yt : TypeId} {x y : Operand} {a b : Int} (hx : evalF f x = .int .i64 a) (hy : evalF f y = .int .i64 b) (h1 : -9223372036854775808 ≤ a - b) (h2 : a - b ≤ 9223372036854775807)
    : Val P ⟨some d, .binOp .sub xt x y yt, ty, pos, af, gd⟩ f L (.int .i64 (a - b)) := vl_bin  hx hy rfl (fun w => by simp [binOp, Op.intArith, wrap_i64 h1 h2])
theorem vl_mul64 {xt yt : TypeId} {x y : Operand} {a b : Int} (hx : evalF f x = .int .i64 a) (hy : evalF f y = .int .i64 b) (h1 : -9223372036854775808 ≤ a * b) (h2 : a * b ≤ 9223372036854775807)
    : Val P ⟨some d, .binOp .mul xt x y yt, ty, pos, af, gd⟩ f L (.int .i64 (a * b)) := vl_bin  hx hy rfl (fun w => by simp [binOp, Op.intArith, wrap_i64 h1 h2])
theorem vl_addw {k : IntKind} {xt yt : TypeId} {x y : Operand} {a b : Int} (hx : evalF f x = .int k a) (hy : evalF f y = .int k b)
    : Val P ⟨some d, .binOp .add xt x y yt, ty, pos, af, gd⟩ f L (.int k (k.wrap (a + b))) := vl_bin  hx hy rfl (fun w => by simp [binOp, Op.intArith])
theorem vl_subw {k : IntKind} {xt yt : TypeId} {x y : Operand} {a b : Int} (hx : evalF f x = .int k a) (hy : evalF f y = .int k b)
    : Val P ⟨some d, .binOp .sub xt x y yt, ty, pos, af, gd⟩ f L (.int k (k.wrap (a - b))) := vl_bin  hx hy rfl (fun w => by simp [binOp, Op.intArith])
theorem vl_mulw {k : IntKind} {xt yt : TypeId} {x y : Operand} {a b : Int} (hx : evalF f x = .int k a) (hy : evalF f y = .int k b)
    : Val P ⟨some d, .binOp .mul xt x y yt, ty, pos, af, gd⟩ f L (.int k (k.wrap (a * b))) := vl_bin  hx hy rfl (fun w => by simp [binOp, Op.intArith])
theorem vl_rem0 {k : IntKind} {xt yt : TypeId} {x y : Operand} {a b : Int} (hx : evalF f x = .int k a) (hy : evalF f y = .int k b) (ha : 0 ≤ a) (hb : 0 < b)
    : Val P ⟨some d, .binOp .rem xt x y yt, ty, pos, af, gd⟩ f L (.int k (a % b)) := vl_bin  hx hy rfl (fun w => by simp [binOp, Op.intDiv, show b ≠ 0 by omega, Int.tmod_eq_emod_of_nonneg ha])
theorem vl_remt {k : IntKind} {xt yt : TypeId} {x y : Operand} {a b : Int} (hx : evalF f x = .int k a) (hy : evalF f y = .int k b) (hb : b ≠ 0)
    : Val P ⟨some d, .binOp .rem xt x y yt, ty, pos, af, gd⟩ f L (.int k (a.tmod b)) := vl_bin  hx hy rfl (fun w => by simp [binOp, Op.intDiv, hb])
theorem vl_quo0 {xt yt : TypeId} {x y : Operand} {a b : Int} (hx : evalF f x = .int .i64 a) (hy : evalF f y = .int .i64 b) (ha : 0 ≤ a) (hb : 0 < b) (h2 : a / b ≤ 9223372036854775807)
    : Val P ⟨some d, .binOp .quo xt x y yt, ty, pos, af, gd⟩ f L (.int .i64 (a / b)) := by
  have h0 : 0 ≤ a / b := Int.ediv_nonneg ha (by omega)
  refine vl_bin hx hy rfl (fun w => ?_)
  simp [binOp, Op.intDiv, show b ≠ 0 by omega, Int.tdiv_eq_ediv_of_nonneg ha, wrap_i64 (show -9223372036854775808 ≤ a / b by omega) h2]
theorem vl_bits {op : BinOp} {k : IntKind} {xt yt : TypeId} {x y : Operand} {a b : Int} (hx : evalF f x = .int k a) (hy : evalF f y = .int k b) (ho : (op matches .and | .or | .xor | .andNot) = true)
    : Val P ⟨some d, .binOp op xt x y yt, ty, pos, af, gd⟩ f L (.int k (bits op k a b)) := by
  refine vl_bin hx hy (by cases op <;> simp_all) (fun w => ?_)
  cases op <;> first | (simp at ho; done) | (simp [binOp, Op.intBits, bits])
theorem vl_shl {k k' : IntKind} {xt yt : TypeId} {x y : Operand} {a b : Int} (hx : evalF f x = .int k a) (hy : evalF f y = .int k' b) (hb : 0 ≤ b)
    : Val P ⟨some d, .binOp .shl xt x y yt, ty, pos, af, gd⟩ f L (.int k (k.wrap (a * 2 ^ (min b.toNat k.bits)))) := vl_bin  hx hy rfl (fun w => by simp [binOp, Op.shift, show ¬ b < 0 by omega])
theorem vl_shr {k k' : IntKind} {xt yt : TypeId} {x y : Operand} {a b : Int} (hx : evalF f x = .int k a) (hy : evalF f y = .int k' b) (hb : 0 ≤ b)
    : Val P ⟨some d, .binOp .shr xt x y yt, ty, pos, af, gd⟩ f L (.int k (a.fdiv (2 ^ (min b.toNat k.bits)))) := vl_bin  hx hy rfl (fun w => by simp [binOp, Op.shift, show ¬ b < 0 by omega])
theorem vl_not_d {t : TypeId} {x : Operand} {p : Prop} [i : Decidable p] (hx : evalF f x = .bool (decide p)) : Val P ⟨some d, .unOp .not t x, ty, pos, af, gd⟩ f L (.bool (decide (¬p))) := (fun F w s => by simp [execOp, hx, Op.unary])
theorem vl_not {t : TypeId} {x : Operand} {b : Bool} (hx : evalF f x = .bool b) : Val P ⟨some d, .unOp .not t x, ty, pos, af, gd⟩ f L (.bool (!b)) := (fun F w s => by simp [execOp, hx, Op.unary])
theorem vl_not_t {t : TypeId} {x : Operand} (hx : evalF f x = .bool true) : Val P ⟨some d, .unOp .not t x, ty, pos, af, gd⟩ f L (.bool false) := vl_not  hx
theorem vl_not_f {t : TypeId} {x : Operand} (hx : evalF f x = .bool false) : Val P ⟨some d, .unOp .not t x, ty, pos, af, gd⟩ f L (.bool true) := vl_not  hx
theorem vl_eql_b {xt yt : TypeId} {x y : Operand} {a b : Bool} (hx : evalF f x = .bool a) (hy : evalF f y = .bool b) (hu : P.underlying xt = some .bool)
    : Val P ⟨some d, .binOp .eql xt x y yt, ty, pos, af, gd⟩ f L (.bool (decide (a = b))) := vl_eqv  hx hy (fun w => by simp [eqGuard]) (fun w => by
    have h1 : (Op.equal xt (.bool a) (.bool b)).run P w = .ok (decide (a = b)) w := by
      show (Op.equalIn (9999 + 1) xt (.bool a) (.bool b)).run P w = _
      rw [run_equalIn_bool' w 9999 xt a b hu]; cases a <;> cases b <;> rfl
    simp only [binOp, Sem.run_bind, h1, Result.andThen_ok, Sem.run_pure])
theorem vl_neq_b {xt yt : TypeId} {x y : Operand} {a b : Bool} (hx : evalF f x = .bool a) (hy : evalF f y = .bool b) (hu : P.underlying xt = some .bool)
    : Val P ⟨some d, .binOp .neq xt x y yt, ty, pos, af, gd⟩ f L (.bool (decide (a ≠ b))) := vl_eqv  hx hy (fun w => by simp [eqGuard]) (fun w => by
    have h1 : (Op.equal xt (.bool a) (.bool b)).run P w = .ok (decide (a = b)) w := by
      show (Op.equalIn (9999 + 1) xt (.bool a) (.bool b)).run P w = _
      rw [run_equalIn_bool' w 9999 xt a b hu]; cases a <;> cases b <;> rfl
    simp only [binOp, Sem.run_bind, h1, Result.andThen_ok, Sem.run_pure]
    cases a <;> cases b <;> rfl)
theorem vl_eql_s {xt yt : TypeId} {x y : Operand} {a b : List UInt8} (hx : evalF f x = .string (S a)) (hy : evalF f y = .string (S b))
    : Val P ⟨some d, .binOp .eql xt x y yt, ty, pos, af, gd⟩ f L (.bool (decide (a = b))) := vl_eqv  hx hy (fun w => by simp [eqGuard]) (fun w => by
    simp only [binOp, Op.stringOp, S_toList]
    rw [show (a == b) = decide (a = b) by by_cases h : a = b <;> simp [h]]
    rfl)
theorem vl_neq_s {xt yt : TypeId} {x y : Operand} {a b : List UInt8} (hx : evalF f x = .string (S a)) (hy : evalF f y = .string (S b))
    : Val P ⟨some d, .binOp .neq xt x y yt, ty, pos, af, gd⟩ f L (.bool (decide (a ≠ b))) := vl_eqv  hx hy (fun w => by simp [eqGuard]) (fun w => by
    simp only [binOp, Op.stringOp, S_toList]
    rw [show (!(a == b)) = decide (a ≠ b) by by_cases h : a = b <;> simp [h]]
    rfl)
theorem vl_add_s {xt yt : TypeId} {x y : Operand} {a b : List UInt8} (hx : evalF f x = .string (S a)) (hy : evalF f y = .string (S b)) (hl : (a.length : Int) + b.length ≤ 9223372036854775807)
    : Val P ⟨some d, .binOp .add xt x y yt, ty, pos, af, gd⟩ f L (.string (S (a ++ b))) := vl_bin  hx hy rfl (fun w => by
    have : ¬ (((S a).size + (S b).size : Nat) : Int) > IntKind.i64.max := by rw [S_size, S_size]; show ¬ _ > (9223372036854775807 : Int); omega
    simp only [binOp, Op.stringOp, this, if_false, S_append]; rfl)
theorem vl_len_s {x : Operand} {t : TypeId} {a : List UInt8} (hx : evalF f x = .string (S a)) (hu : P.underlying t = some .string) : Val P ⟨some d, .call ⟨.builtin .len, #[x], #[t]⟩, ty, pos, af, gd⟩ f L (.int .i64 a.length) := (fun F w s => by simp [execOp, resolve, invoke, builtin, hx, Builtin.len_, run_underlying hu, goInt, S_size])
theorem vl_len_a {x : Operand} {t e : TypeId} {m : Nat} {v : Value} (hx : evalF f x = v) (hu : P.underlying t = some (.array m e)) : Val P ⟨some d, .call ⟨.builtin .len, #[x], #[t]⟩, ty, pos, af, gd⟩ f L (.int .i64 m) := (fun F w s => by simp [execOp, resolve, invoke, builtin, hx, Builtin.len_, run_underlying hu, goInt])
theorem vl_min {x y : Operand} {ts : Array TypeId} {k k' : IntKind} {a b : Int} (hx : evalF f x = .int k a) (hy : evalF f y = .int k' b) : Val P ⟨some d, .call ⟨.builtin .min, #[x, y], ts⟩, ty, pos, af, gd⟩ f L (.int k (min a b)) := (fun F w s => by
    simp [execOp, resolve, invoke, builtin, hx, hy, Builtin.min_, Builtin.min2]
    omega)
theorem vl_max {x y : Operand} {ts : Array TypeId} {k k' : IntKind} {a b : Int} (hx : evalF f x = .int k a) (hy : evalF f y = .int k' b) : Val P ⟨some d, .call ⟨.builtin .max, #[x, y], ts⟩, ty, pos, af, gd⟩ f L (.int k (max a b)) := (fun F w s => by
    simp [execOp, resolve, invoke, builtin, hx, hy, Builtin.max_, Builtin.max2]
    omega)
theorem vl_conv {src dst : TypeId} {x : Operand} {k k' : IntKind} {a r : Int} {ds : TypeDesc} (hx : evalF f x = .int k a) (hs : P.underlying src = some ds) (hu : P.underlying dst = some (.int k')) (hr : k'.wrap a = r)
    : Val P ⟨some d, .convert src dst x, ty, pos, af, gd⟩ f L (.int k' r) := (fun F w s => by simp [execOp, hx, convert, run_underlying hs, run_underlying hu, Conv.intToInt, hr])
theorem vl_extract {x : Operand} {vs : Array Value} {i : Nat} {v : Value} (hx : evalF f x = .tuple vs) (hv : vs[i]? = some v) : Val P ⟨some d, .extract x i, ty, pos, af, gd⟩ f L v := (fun F w s => by simp [execOp, hx, Instr.extract, hv])
theorem vl_nil_eq {xt yt e : TypeId} {x y : Operand} {a : Addr} (hx : evalF f x = .pointer (some a)) (hy : evalF f y = .pointer none) (hu : P.underlying xt = some (.pointer e)) : Val P ⟨some d, .binOp .eql xt x y yt, ty, pos, af, gd⟩ f L (.bool false) := vl_eqv  hx hy (fun w => by simp [eqGuard]) (fun w => by
    have h1 : (Op.equal xt (.pointer (some a)) (.pointer none)).run P w = .ok false w := by
      show (Op.equalIn (9999 + 1) xt (.pointer (some a)) (.pointer none)).run P w = _
      rw [Op.equalIn]
      simp [run_underlying hu]
    simp only [binOp, Sem.run_bind, h1, Result.andThen_ok, Sem.run_pure])
theorem vl_move {x : Operand} {v : Value} (hx : evalF f x = v) : Val P ⟨some d, .move x, ty, pos, af, gd⟩ f L v := (fun F w s => by rw [← hx]; rfl)
theorem vl_assign {x : Operand} {v : Value} (hx : evalF f x = v) : Val P ⟨some d, .assign x, ty, pos, af, gd⟩ f L v := (fun F w s => by rw [← hx]; rfl)
theorem vl_pick_t {c x y : Operand} {v : Value} (hc : evalF f c = .bool true) (hx : evalF f x = v) : Val P ⟨some d, .pick c x y, ty, pos, af, gd⟩ f L v := (fun F w s => by rw [← hx]; simp [execOp, hc, asBool])
theorem vl_pick_f {c x y : Operand} {v : Value} (hc : evalF f c = .bool false) (hy : evalF f y = v) : Val P ⟨some d, .pick c x y, ty, pos, af, gd⟩ f L v := (fun F w s => by rw [← hy]; simp [execOp, hc, asBool])
theorem vl_cmp {op : BinOp} {xt yt : TypeId} {x y : Operand} {k : IntKind} {a b : Int} (p : Prop) [i : Decidable p] (hx : evalF f x = .int k a) (hy : evalF f y = .int k b)
    (hr : (binOp op xt (.int k a) (.int k b)) = pure (.bool (decide p))) : Val P ⟨some d, .binOp op xt x y yt, ty, pos, af, gd⟩ f L (.bool (decide p)) := (fun F w s => by cases op <;> simp [execOp, hx, hy, eqGuard, hr])
theorem vl_lss {xt yt : TypeId} {x y : Operand} {k : IntKind} {a b : Int} (hx : evalF f x = .int k a) (hy : evalF f y = .int k b)
    : Val P ⟨some d, .binOp .lss xt x y yt, ty, pos, af, gd⟩ f L (.bool (decide (a < b))) := vl_cmp (a < b)  hx hy (by simp [binOp, Op.intCmp])
theorem vl_leq {xt yt : TypeId} {x y : Operand} {k : IntKind} {a b : Int} (hx : evalF f x = .int k a) (hy : evalF f y = .int k b)
    : Val P ⟨some d, .binOp .leq xt x y yt, ty, pos, af, gd⟩ f L (.bool (decide (a ≤ b))) := vl_cmp (a ≤ b)  hx hy (by simp [binOp, Op.intCmp])
theorem vl_gtr {xt yt : TypeId} {x y : Operand} {k : IntKind} {a b : Int} (hx : evalF f x = .int k a) (hy : evalF f y = .int k b)
    : Val P ⟨some d, .binOp .gtr xt x y yt, ty, pos, af, gd⟩ f L (.bool (decide (b < a))) := vl_cmp (b < a)  hx hy (by simp [binOp, Op.intCmp])
theorem vl_geq {xt yt : TypeId} {x y : Operand} {k : IntKind} {a b : Int} (hx : evalF f x = .int k a) (hy : evalF f y = .int k b)
    : Val P ⟨some d, .binOp .geq xt x y yt, ty, pos, af, gd⟩ f L (.bool (decide (b ≤ a))) := vl_cmp (b ≤ a)  hx hy (by simp [binOp, Op.intCmp])
theorem vl_eql {xt yt : TypeId} {x y : Operand} {k : IntKind} {a b : Int} (hx : evalF f x = .int k a) (hy : evalF f y = .int k b)
    : Val P ⟨some d, .binOp .eql xt x y yt, ty, pos, af, gd⟩ f L (.bool (decide (a = b))) := vl_cmp (a = b)  hx hy (by simp [binOp, Op.intCmp]; rfl)
theorem vl_neq {xt yt : TypeId} {x y : Operand} {k : IntKind} {a b : Int} (hx : evalF f x = .int k a) (hy : evalF f y = .int k b)
    : Val P ⟨some d, .binOp .neq xt x y yt, ty, pos, af, gd⟩ f L (.bool (decide (a ≠ b))) := vl_cmp (a ≠ b)  hx hy (by simp [binOp, Op.intCmp]; rfl)
theorem vl_load1 (i : Nat) {t bt : TypeId} {x : Operand} {g o : Nat} {cs : List Value} {v : Value} (hx : evalF f x = .pointer (some ⟨g, o, none⟩)) (hi : L[i]? = some (Blk g bt cs)) (hA : aggB P t = some false) (hv : cs[o]? = some v)
    : Val P ⟨some d, .load t x, ty, pos, af, gd⟩ f L v := (fun F w s => by simp [execOp, hx, Instr.loadAt, Instr.sureAddr, run_loadVar1 w hA (blk_cell hi hv s)])
theorem vl_loadA (i : Nat) {t bt : TypeId} {x : Operand} {g o m : Nat} {cs vs : List Value} (hx : evalF f x = .pointer (some ⟨g, o, none⟩)) (hi : L[i]? = some (Blk g bt cs)) (hA : aggB P t = some true) (hm : P.cellsOf t = m) (hp : Nat.blt 0 m = true)
    (hl : Nat.ble (o + m) cs.length = true) (hv : (cs.drop o).take m = vs) : Val P ⟨some d, .load t x, ty, pos, af, gd⟩ f L (.agg vs.toArray) := by
  have hp := Nat.le_of_ble_eq_true hp
  have hl := Nat.le_of_ble_eq_true hl
  have hlen : vs.length = m := by rw [← hv]; simp; omega
  intro F w s
  have := run_loadVarA (P := P) w (t := t) (a := ⟨g, o, none⟩) (cs := vs) hA (by rw [hm, hlen]) (by omega) (fun j u hj => by
    rw [addr_add]
    rw [← hv] at hj
    exact blk_cell hi (take_drop_get hj) s)
  simp [execOp, hx, Instr.loadAt, Instr.sureAddr, this]
theorem vl_field {s : TypeId} {x : Operand} {g o fi off : Nat} (hx : evalF f x = .pointer (some ⟨g, o, none⟩)) (hf : fieldOff P s fi = some off)
    : Val P ⟨some d, .fieldAddr s x fi, ty, pos, af, gd⟩ f L (.pointer (some ⟨g, o + off, none⟩)) := (fun F w s => by simp [execOp, hx, run_fieldAt w hf, addr_add])
theorem vl_nilCheck {x : Operand} {a : Addr} (hx : evalF f x = .pointer (some a)) : Val P ⟨some d, .nilCheck x, ty, pos, af, gd⟩ f L (.pointer (some a)) := (fun F w s => by simp [execOp, hx])
theorem vl_idxA {t e : TypeId} {x y : Operand} {g o m sz : Nat} {k : IntKind} {j : Int} (hx : evalF f x = .pointer (some ⟨g, o, none⟩)) (hy : evalF f y = .int k j) (hu : P.underlying t = some (.array m e)) (hs : P.cellsOf e = sz) (hp : Nat.blt 0 sz = true)
    (h0 : 0 ≤ j) (h1 : j < (m : Int)) : Val P ⟨some d, .indexAddr t x y, ty, pos, af, gd⟩ f L (.pointer (some ⟨g, o + j.toNat * sz, none⟩)) := (fun F w s => by simp [execOp, hx, hy, run_indexAt_arr hu hs (Nat.le_of_ble_eq_true hp) h0 h1])
variable {α : Type} [Rep α] {v : Value} {xs : List α}
theorem vl_len {x : Operand} {t e : TypeId} (hx : evalF f x = v) (hu : P.underlying t = some (.slice e)) (hr : RdT L v xs) : Val P ⟨some d, .call ⟨.builtin .len, #[x], #[t]⟩, ty, pos, af, gd⟩ f L (.int .i64 xs.length) := (fun F w s => by
    obtain ⟨a, c, rfl, _, _⟩ := sl_cap (hr w F s)
    simp [execOp, resolve, invoke, builtin, hx, Builtin.len_, run_underlying hu, goInt])
theorem vl_idxS {t e : TypeId} {x y : Operand} {k : IntKind} {j sz : Nat} (hx : evalF f x = v) (hy : evalF f y = .int k (j : Int)) (hu : P.underlying t = some (.slice e)) (hr : RdT L v xs) (hs : P.cellsOf e = sz) (hsz : Rep.sz α = sz)
    (h1 : j < xs.length) : Val P ⟨some d, .indexAddr t x y, ty, pos, af, gd⟩ f L (elt v (j * sz + 0)) := (fun F w s => by
    have hp : 0 < sz := by rw [← hsz]; exact Rep.pos
    obtain ⟨hl, a, c, rfl, hk, hm, hn, hcell⟩ := hr w F s
    cases a with
    | none => have := hn rfl; omega
    | some ad =>
      have h1' : (j : Int) < (xs.length : Int) := by omega
      simp [execOp, hx, hy, Instr.indexAt, run_underlying hu, asIntOf, h1, run_sizeOf' w hs hp, elt])
theorem vl_idxSi {t e : TypeId} {x y : Operand} {k : IntKind} {j : Int} {sz : Nat} (hx : evalF f x = v) (hy : evalF f y = .int k j) (hu : P.underlying t = some (.slice e)) (hr : RdT L v xs) (hs : P.cellsOf e = sz) (hsz : Rep.sz α = sz)
    (h0 : 0 ≤ j) (h1 : j < (xs.length : Int)) : Val P ⟨some d, .indexAddr t x y, ty, pos, af, gd⟩ f L (elt v (j.toNat * sz + 0)) := by
  obtain ⟨m, rfl⟩ := Int.eq_ofNat_of_zero_le h0
  have := vl_idxS (ty := ty) (pos := pos) (af := af) (gd := gd) (d := d) hx hy hu hr hs hsz (by omega)
  simpa using this
theorem vl_fieldE {s : TypeId} {x : Operand} {b o fi off : Nat} (hx : evalF f x = elt v (b + o)) (hp : ∃ a k c, v = .slice (some a) k c) (hf : fieldOff P s fi = some off)
    : Val P ⟨some d, .fieldAddr s x fi, ty, pos, af, gd⟩ f L (elt v (b + (o + off))) := (fun F w s => by
    obtain ⟨a, k, c, rfl⟩ := hp
    simp [execOp, hx, elt, run_fieldAt w hf, addr_add2, Nat.add_assoc])
theorem vl_fieldS {s : TypeId} {x : Operand} {i sz o fi off : Nat} (hx : evalF f x = elt v (i * sz + o)) (hr : RdT L v xs) (hi : i < xs.length) (hf : fieldOff P s fi = some off)
    : Val P ⟨some d, .fieldAddr s x fi, ty, pos, af, gd⟩ f L (elt v (i * sz + (o + off))) := (fun F w s => by
    obtain ⟨a, c, rfl, _⟩ := some_of_lt (hr w F s) hi
    simp [execOp, hx, elt, run_fieldAt w hf, addr_add2, Nat.add_assoc])
theorem vl_idxE {t e : TypeId} {x y : Operand} {k : IntKind} {i sz o m es : Nat} {j : Int} (hx : evalF f x = elt v (i * sz + o)) (hy : evalF f y = .int k j) (hu : P.underlying t = some (.array m e)) (hs : P.cellsOf e = es) (hp : Nat.blt 0 es = true) (hr : RdT L v xs) (hi : i < xs.length)
    (h0 : 0 ≤ j) (h1 : j < (m : Int)) : Val P ⟨some d, .indexAddr t x y, ty, pos, af, gd⟩ f L (elt v (i * sz + (o + j.toNat * es))) := (fun F w s => by
    obtain ⟨a, c, rfl, _⟩ := some_of_lt (hr w F s) hi
    simp [execOp, hx, hy, elt, Instr.indexAt, run_underlying hu, asIntOf, Instr.sureAddr, h0, h1, run_sizeOf' w hs (Nat.le_of_ble_eq_true hp), addr_add2, Nat.add_assoc])
theorem vl_loadS1 {t : TypeId} {x : Operand} {i sz o : Nat} {u : Value} (hx : evalF f x = elt v (i * sz + o)) (hA : aggB P t = some false) (hr : RdT L v xs) (hi : i < xs.length) (hsz : Rep.sz α = sz) (hv : (Rep.cells (xs[i]'hi))[o]? = some u)
    : Val P ⟨some d, .load t x, ty, pos, af, gd⟩ f L u := (fun F w s => by
    obtain ⟨a, c, rfl, hcell⟩ := some_of_lt (hr w F s) hi
    have ho : o < Rep.sz α := by rw [← Rep.len (xs[i]'hi)]; exact (List.getElem?_eq_some_iff.1 hv).1
    have := hcell (i * sz + o) u (by rw [← hsz, cellsOf_get hi ho, hv])
    simp [execOp, hx, elt, Instr.loadAt, Instr.sureAddr, run_loadVar1 w hA this])
theorem vl_loadSA {t : TypeId} {x : Operand} {i sz o m : Nat} {us : List Value} (hx : evalF f x = elt v (i * sz + o)) (hA : aggB P t = some true) (hm : P.cellsOf t = m) (hp : Nat.blt 0 m = true) (hr : RdT L v xs) (hi : i < xs.length) (hsz : Rep.sz α = sz) (hle : Nat.ble (o + m) sz = true)
    (hv : ((Rep.cells (xs[i]'hi)).drop o).take m = us) : Val P ⟨some d, .load t x, ty, pos, af, gd⟩ f L (.agg us.toArray) := (fun F w s => by
    obtain ⟨a, c, rfl, hcell⟩ := some_of_lt (hr w F s) hi
    have hle := Nat.le_of_ble_eq_true hle
    have hp := Nat.le_of_ble_eq_true hp
    have hlen : us.length = m := by rw [← hv]; simp [Rep.len]; omega
    have := run_loadVarA (P := P) w (t := t) (a := a.add (i * sz + o)) (cs := us) hA (by rw [hm, hlen]) (by omega) (fun j u hj => by
      rw [addr_add2]
      rw [← hv] at hj
      have hj' := take_drop_get hj
      have ho : o + j < Rep.sz α := by rw [← Rep.len (xs[i]'hi)]; exact (List.getElem?_eq_some_iff.1 hj').1
      exact hcell _ u (by rw [← hsz, Nat.add_assoc, cellsOf_get hi ho, hj']))
    simp [execOp, hx, elt, Instr.loadAt, Instr.sureAddr, this])
end
end Go.Proofs.Ytkcpgdkchglhhaa
