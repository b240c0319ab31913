/- The walk's steps over numbers, texts and aggregates. No condition. -/
import Derived.Test.YtkcpgdkchglhhaaSepA
import Derived.IntWalk
namespace Go.Proofs.Ytkcpgdkchglhhaa
open Go.RowKit
set_option linter.unusedSimpArgs false
set_option linter.unusedVariables false
theorem wrap_i64 {n : Int} (h1 : -9223372036854775808 ≤ n) (h2 : n ≤ 9223372036854775807) : IntKind.i64.wrap n = n := by rw [IntKind.wrap_i64]; omega
theorem wrap_u8 {n : Int} (h1 : 0 ≤ n) (h2 : n ≤ 255) : IntKind.u8.wrap n = n := by
  simp [IntKind.wrap, IntKind.bits, IntKind.signed]; omega
theorem wrap_u32 {n : Int} (h1 : 0 ≤ n) (h2 : n ≤ 4294967295) : IntKind.u32.wrap n = n := by
  simp [IntKind.wrap, IntKind.bits, IntKind.signed]; omega
theorem wrap_u64 {n : Int} (h1 : 0 ≤ n) (h2 : n ≤ 18446744073709551615) : IntKind.u64.wrap n = n := by
  simp [IntKind.wrap, IntKind.bits, IntKind.signed]; omega
theorem S_append (a b : List UInt8) : S a ++ S b = S (a ++ b) := by
  show ByteArray.mk _ = _
  simp [S]
theorem S_size (a : List UInt8) : (S a).size = a.length := by simp [S, ByteArray.size]
theorem S_inj {a b : List UInt8} : S a = S b ↔ a = b := by simp [S]
theorem S_toList (a : List UInt8) : (S a).toList = a := by rw [ByteArray.toList_eq]
theorem S_extract (a : List UInt8) (l h : Nat) : (S a).extract l h = S ((a.drop l).take (h - l)) := by
  apply ByteArray.ext
  rw [ByteArray.data_extract]
  apply Array.ext'
  simp [S, List.drop_take]
theorem S_of (s : ByteArray) : s = S s.data.toList := by simp [S]
section
variable {P : Program} {n : Nat} {ops : Array Oper} {Q : Post} {f : Nat → Value} {L : List Assn} {rest : List Oper} {d : Nat} {ty : TypeId} {pos : String} {af : Array Edge}
theorem st_eqv {op : BinOp} {xt yt : TypeId} {x y : Operand} {a b v : Value} (hd : Nat.blt d n = true) (hx : evalF f x = a) (hy : evalF f y = b) (hg : ∀ w, (eqGuard op xt x y a b).run P w = .ok () w) (hr : ∀ w, (binOp op xt a b).run P w = .ok v w)
    (h : ExL P n ops rest Q (upd f d v) L) : ExL P n ops (⟨some d, .binOp op xt x y yt, ty, pos, af, none⟩ :: rest) Q f L :=
  ExL.val rfl rfl hd (fun F w s => by simp [execOp, hx, hy, hg, hr]) h
theorem run_eqGuard {op : BinOp} {t : TypeId} {x y : Operand} {a b : Value} (hne : (op matches .eql | .neq) = false) (w : World) : (eqGuard op t x y a b).run P w = .ok () w := by
  cases op <;> first | (simp at hne; done) | (simp [eqGuard])
theorem st_bin {op : BinOp} {xt yt : TypeId} {x y : Operand} {a b v : Value} (hd : Nat.blt d n = true) (hx : evalF f x = a) (hy : evalF f y = b) (hne : (op matches .eql | .neq) = false) (hr : ∀ w, (binOp op xt a b).run P w = .ok v w)
    (h : ExL P n ops rest Q (upd f d v) L) : ExL P n ops (⟨some d, .binOp op xt x y yt, ty, pos, af, none⟩ :: rest) Q f L :=
  st_eqv hd hx hy (run_eqGuard hne) hr h
theorem st_add64 {xt yt : TypeId} {x y : Operand} {a b : Int} (hd : Nat.blt d n = true) (hx : evalF f x = .int .i64 a) (hy : evalF f y = .int .i64 b) (h1 : -9223372036854775808 ≤ a + b) (h2 : a + b ≤ 9223372036854775807)
    (h : ExL P n ops rest Q (upd f d (.int .i64 (a + b))) L) : ExL P n ops (⟨some d, .binOp .add xt x y yt, ty, pos, af, none⟩ :: rest) Q f L :=
  st_bin hd hx hy rfl (fun w => by simp [binOp, Op.intArith, wrap_i64 h1 h2]) h
theorem st_sub64 {xt yt : TypeId} {x y : Operand} {a b : Int} (hd : Nat.blt d n = true) (hx : evalF f x = .int .i64 a) (hy : evalF f y = .int .i64 b) (h1 : -9223372036854775808 ≤ a - b) (h2 : a - b ≤ 9223372036854775807)
    (h : ExL P n ops rest Q (upd f d (.int .i64 (a - b))) L) : ExL P n ops (⟨some d, .binOp .sub xt x y yt, ty, pos, af, none⟩ :: rest) Q f L :=
  st_bin hd hx hy rfl (fun w => by simp [binOp, Op.intArith, wrap_i64 h1 h2]) h
theorem st_mul64 {xt yt : TypeId} {x y : Operand} {a b : Int} (hd : Nat.blt d n = true) (hx : evalF f x = .int .i64 a) (hy : evalF f y = .int .i64 b) (h1 : -9223372036854775808 ≤ a * b) (h2 : a * b ≤ 9223372036854775807)
    (h : ExL P n ops rest Q (upd f d (.int .i64 (a * b))) L) : ExL P n ops (⟨some d, .binOp .mul xt x y yt, ty, pos, af, none⟩ :: rest) Q f L :=
  st_bin hd hx hy rfl (fun w => by simp [binOp, Op.intArith, wrap_i64 h1 h2]) h
theorem st_addw {k : IntKind} {xt yt : TypeId} {x y : Operand} {a b : Int} (hd : Nat.blt d n = true) (hx : evalF f x = .int k a) (hy : evalF f y = .int k b)
    (h : ExL P n ops rest Q (upd f d (.int k (k.wrap (a + b)))) L) : ExL P n ops (⟨some d, .binOp .add xt x y yt, ty, pos, af, none⟩ :: rest) Q f L :=
  st_bin hd hx hy rfl (fun w => by simp [binOp, Op.intArith]) h
theorem st_subw {k : IntKind} {xt yt : TypeId} {x y : Operand} {a b : Int} (hd : Nat.blt d n = true) (hx : evalF f x = .int k a) (hy : evalF f y = .int k b)
    (h : ExL P n ops rest Q (upd f d (.int k (k.wrap (a - b)))) L) : ExL P n ops (⟨some d, .binOp .sub xt x y yt, ty, pos, af, none⟩ :: rest) Q f L :=
  st_bin hd hx hy rfl (fun w => by simp [binOp, Op.intArith]) h
theorem st_mulw {k : IntKind} {xt yt : TypeId} {x y : Operand} {a b : Int} (hd : Nat.blt d n = true) (hx : evalF f x = .int k a) (hy : evalF f y = .int k b)
    (h : ExL P n ops rest Q (upd f d (.int k (k.wrap (a * b)))) L) : ExL P n ops (⟨some d, .binOp .mul xt x y yt, ty, pos, af, none⟩ :: rest) Q f L :=
  st_bin hd hx hy rfl (fun w => by simp [binOp, Op.intArith]) h
/-- The remainder of a number that is not negative. -/
theorem st_rem0 {k : IntKind} {xt yt : TypeId} {x y : Operand} {a b : Int} (hd : Nat.blt d n = true) (hx : evalF f x = .int k a) (hy : evalF f y = .int k b) (ha : 0 ≤ a) (hb : 0 < b)
    (h : ExL P n ops rest Q (upd f d (.int k (a % b))) L) : ExL P n ops (⟨some d, .binOp .rem xt x y yt, ty, pos, af, none⟩ :: rest) Q f L :=
  st_bin hd hx hy rfl (fun w => by simp [binOp, Op.intDiv, show b ≠ 0 by omega, Int.tmod_eq_emod_of_nonneg ha]) h
theorem st_remt {k : IntKind} {xt yt : TypeId} {x y : Operand} {a b : Int} (hd : Nat.blt d n = true) (hx : evalF f x = .int k a) (hy : evalF f y = .int k b) (hb : b ≠ 0)
    (h : ExL P n ops rest Q (upd f d (.int k (a.tmod b))) L) : ExL P n ops (⟨some d, .binOp .rem xt x y yt, ty, pos, af, none⟩ :: rest) Q f L :=
  st_bin hd hx hy rfl (fun w => by simp [binOp, Op.intDiv, hb]) h
theorem st_quo0 {xt yt : TypeId} {x y : Operand} {a b : Int} (hd : Nat.blt d n = true) (hx : evalF f x = .int .i64 a) (hy : evalF f y = .int .i64 b) (ha : 0 ≤ a) (hb : 0 < b) (h2 : a / b ≤ 9223372036854775807)
    (h : ExL P n ops rest Q (upd f d (.int .i64 (a / b))) L) : ExL P n ops (⟨some d, .binOp .quo xt x y yt, ty, pos, af, none⟩ :: rest) Q f L := by
  have h0 : 0 ≤ a / b := Int.ediv_nonneg ha (by omega)
  refine st_bin hd hx hy rfl (fun w => ?_) h
  simp [binOp, Op.intDiv, show b ≠ 0 by omega, Int.tdiv_eq_ediv_of_nonneg ha, wrap_i64 (show -9223372036854775808 ≤ a / b by omega) h2]
theorem st_bits {op : BinOp} {k : IntKind} {xt yt : TypeId} {x y : Operand} {a b : Int} (hd : Nat.blt d n = true) (hx : evalF f x = .int k a) (hy : evalF f y = .int k b) (ho : (op matches .and | .or | .xor | .andNot) = true)
    (h : ExL P n ops rest Q (upd f d (.int k (bits op k a b))) L) : ExL P n ops (⟨some d, .binOp op xt x y yt, ty, pos, af, none⟩ :: rest) Q f L := by
  refine st_bin hd hx hy (by cases op <;> simp_all) (fun w => ?_) h
  cases op <;> first | (simp at ho; done) | (simp [binOp, Op.intBits, bits])
theorem st_shl {k k' : IntKind} {xt yt : TypeId} {x y : Operand} {a b : Int} (hd : Nat.blt d n = true) (hx : evalF f x = .int k a) (hy : evalF f y = .int k' b) (hb : 0 ≤ b)
    (h : ExL P n ops rest Q (upd f d (.int k (k.wrap (a * 2 ^ (min b.toNat k.bits))))) L) : ExL P n ops (⟨some d, .binOp .shl xt x y yt, ty, pos, af, none⟩ :: rest) Q f L :=
  st_bin hd hx hy rfl (fun w => by simp [binOp, Op.shift, show ¬ b < 0 by omega]) h
theorem st_shr {k k' : IntKind} {xt yt : TypeId} {x y : Operand} {a b : Int} (hd : Nat.blt d n = true) (hx : evalF f x = .int k a) (hy : evalF f y = .int k' b) (hb : 0 ≤ b)
    (h : ExL P n ops rest Q (upd f d (.int k (a.fdiv (2 ^ (min b.toNat k.bits))))) L) : ExL P n ops (⟨some d, .binOp .shr xt x y yt, ty, pos, af, none⟩ :: rest) Q f L :=
  st_bin hd hx hy rfl (fun w => by simp [binOp, Op.shift, show ¬ b < 0 by omega]) h
theorem st_not_d {t : TypeId} {x : Operand} {p : Prop} [i : Decidable p] (hd : Nat.blt d n = true) (hx : evalF f x = .bool (decide p)) (h : ExL P n ops rest Q (upd f d (.bool (decide (¬p)))) L) : ExL P n ops (⟨some d, .unOp .not t x, ty, pos, af, none⟩ :: rest) Q f L :=
  ExL.val rfl rfl hd (fun F w s => by simp [execOp, hx, Op.unary]) h
theorem st_not {t : TypeId} {x : Operand} {b : Bool} (hd : Nat.blt d n = true) (hx : evalF f x = .bool b) (h : ExL P n ops rest Q (upd f d (.bool (!b))) L) : ExL P n ops (⟨some d, .unOp .not t x, ty, pos, af, none⟩ :: rest) Q f L :=
  ExL.val rfl rfl hd (fun F w s => by simp [execOp, hx, Op.unary]) h
theorem st_not_t {t : TypeId} {x : Operand} (hd : Nat.blt d n = true) (hx : evalF f x = .bool true) (h : ExL P n ops rest Q (upd f d (.bool false)) L) : ExL P n ops (⟨some d, .unOp .not t x, ty, pos, af, none⟩ :: rest) Q f L :=
  st_not hd hx h
theorem st_not_f {t : TypeId} {x : Operand} (hd : Nat.blt d n = true) (hx : evalF f x = .bool false) (h : ExL P n ops rest Q (upd f d (.bool true)) L) : ExL P n ops (⟨some d, .unOp .not t x, ty, pos, af, none⟩ :: rest) Q f L :=
  st_not hd hx h
theorem st_eql_b {xt yt : TypeId} {x y : Operand} {a b : Bool} (hd : Nat.blt d n = true) (hx : evalF f x = .bool a) (hy : evalF f y = .bool b) (hu : P.underlying xt = some .bool)
    (h : ExL P n ops rest Q (upd f d (.bool (decide (a = b)))) L) : ExL P n ops (⟨some d, .binOp .eql xt x y yt, ty, pos, af, none⟩ :: rest) Q f L :=
  st_eqv hd hx hy (fun w => by simp [eqGuard]) (fun w => by
    have h1 : (Op.equal xt (.bool a) (.bool b)).run P w = .ok (decide (a = b)) w := by
      show (Op.equalIn (9999 + 1) xt (.bool a) (.bool b)).run P w = _
      rw [run_equalIn_bool' w 9999 xt a b hu]; cases a <;> cases b <;> rfl
    simp only [binOp, Sem.run_bind, h1, Result.andThen_ok, Sem.run_pure]) h
theorem st_neq_b {xt yt : TypeId} {x y : Operand} {a b : Bool} (hd : Nat.blt d n = true) (hx : evalF f x = .bool a) (hy : evalF f y = .bool b) (hu : P.underlying xt = some .bool)
    (h : ExL P n ops rest Q (upd f d (.bool (decide (a ≠ b)))) L) : ExL P n ops (⟨some d, .binOp .neq xt x y yt, ty, pos, af, none⟩ :: rest) Q f L :=
  st_eqv hd hx hy (fun w => by simp [eqGuard]) (fun w => by
    have h1 : (Op.equal xt (.bool a) (.bool b)).run P w = .ok (decide (a = b)) w := by
      show (Op.equalIn (9999 + 1) xt (.bool a) (.bool b)).run P w = _
      rw [run_equalIn_bool' w 9999 xt a b hu]; cases a <;> cases b <;> rfl
    simp only [binOp, Sem.run_bind, h1, Result.andThen_ok, Sem.run_pure]
    cases a <;> cases b <;> rfl) h
theorem st_eql_s {xt yt : TypeId} {x y : Operand} {a b : List UInt8} (hd : Nat.blt d n = true) (hx : evalF f x = .string (S a)) (hy : evalF f y = .string (S b))
    (h : ExL P n ops rest Q (upd f d (.bool (decide (a = b)))) L) : ExL P n ops (⟨some d, .binOp .eql xt x y yt, ty, pos, af, none⟩ :: rest) Q f L :=
  st_eqv hd hx hy (fun w => by simp [eqGuard]) (fun w => by
    simp only [binOp, Op.stringOp, S_toList]
    rw [show (a == b) = decide (a = b) by by_cases h : a = b <;> simp [h]]
    rfl) h
theorem st_neq_s {xt yt : TypeId} {x y : Operand} {a b : List UInt8} (hd : Nat.blt d n = true) (hx : evalF f x = .string (S a)) (hy : evalF f y = .string (S b))
    (h : ExL P n ops rest Q (upd f d (.bool (decide (a ≠ b)))) L) : ExL P n ops (⟨some d, .binOp .neq xt x y yt, ty, pos, af, none⟩ :: rest) Q f L :=
  st_eqv hd hx hy (fun w => by simp [eqGuard]) (fun w => by
    simp only [binOp, Op.stringOp, S_toList]
    rw [show (!(a == b)) = decide (a ≠ b) by by_cases h : a = b <;> simp [h]]
    rfl) h
theorem st_add_s {xt yt : TypeId} {x y : Operand} {a b : List UInt8} (hd : Nat.blt d n = true) (hx : evalF f x = .string (S a)) (hy : evalF f y = .string (S b)) (hl : (a.length : Int) + b.length ≤ 9223372036854775807)
    (h : ExL P n ops rest Q (upd f d (.string (S (a ++ b)))) L) : ExL P n ops (⟨some d, .binOp .add xt x y yt, ty, pos, af, none⟩ :: rest) Q f L :=
  st_bin hd hx hy rfl (fun w => by
    have : ¬ (((S a).size + (S b).size : Nat) : Int) > IntKind.i64.max := by rw [S_size, S_size]; show ¬ _ > (9223372036854775807 : Int); omega
    simp only [binOp, Op.stringOp, this, if_false, S_append]; rfl) h
theorem st_len_s {x : Operand} {t : TypeId} {a : List UInt8} (hd : Nat.blt d n = true) (hx : evalF f x = .string (S a)) (hu : P.underlying t = some .string) (h : ExL P n ops rest Q (upd f d (.int .i64 a.length)) L) :
    ExL P n ops (⟨some d, .call ⟨.builtin .len, #[x], #[t]⟩, ty, pos, af, none⟩ :: rest) Q f L :=
  ExL.val rfl rfl hd (fun F w s => by simp [execOp, resolve, invoke, builtin, hx, Builtin.len_, run_underlying hu, goInt, S_size]) h
theorem st_len_a {x : Operand} {t e : TypeId} {m : Nat} {v : Value} (hd : Nat.blt d n = true) (hx : evalF f x = v) (hu : P.underlying t = some (.array m e)) (h : ExL P n ops rest Q (upd f d (.int .i64 m)) L) :
    ExL P n ops (⟨some d, .call ⟨.builtin .len, #[x], #[t]⟩, ty, pos, af, none⟩ :: rest) Q f L :=
  ExL.val rfl rfl hd (fun F w s => by simp [execOp, resolve, invoke, builtin, hx, Builtin.len_, run_underlying hu, goInt]) h
theorem st_min {x y : Operand} {ts : Array TypeId} {k k' : IntKind} {a b : Int} (hd : Nat.blt d n = true) (hx : evalF f x = .int k a) (hy : evalF f y = .int k' b) (h : ExL P n ops rest Q (upd f d (.int k (min a b))) L) :
    ExL P n ops (⟨some d, .call ⟨.builtin .min, #[x, y], ts⟩, ty, pos, af, none⟩ :: rest) Q f L :=
  ExL.val rfl rfl hd (fun F w s => by
    simp [execOp, resolve, invoke, builtin, hx, hy, Builtin.min_, Builtin.min2]
    omega) h
theorem st_max {x y : Operand} {ts : Array TypeId} {k k' : IntKind} {a b : Int} (hd : Nat.blt d n = true) (hx : evalF f x = .int k a) (hy : evalF f y = .int k' b) (h : ExL P n ops rest Q (upd f d (.int k (max a b))) L) :
    ExL P n ops (⟨some d, .call ⟨.builtin .max, #[x, y], ts⟩, ty, pos, af, none⟩ :: rest) Q f L :=
  ExL.val rfl rfl hd (fun F w s => by
    simp [execOp, resolve, invoke, builtin, hx, hy, Builtin.max_, Builtin.max2]
    omega) h
theorem st_conv {src dst : TypeId} {x : Operand} {k k' : IntKind} {a r : Int} {ds : TypeDesc} (hd : Nat.blt d n = true) (hx : evalF f x = .int k a) (hs : P.underlying src = some ds) (hu : P.underlying dst = some (.int k')) (hr : k'.wrap a = r)
    (h : ExL P n ops rest Q (upd f d (.int k' r)) L) : ExL P n ops (⟨some d, .convert src dst x, ty, pos, af, none⟩ :: rest) Q f L :=
  ExL.val rfl rfl hd (fun F w s => by simp [execOp, hx, convert, run_underlying hs, run_underlying hu, Conv.intToInt, hr]) h
theorem st_extract {x : Operand} {vs : Array Value} {i : Nat} {v : Value} (hd : Nat.blt d n = true) (hx : evalF f x = .tuple vs) (hv : vs[i]? = some v) (h : ExL P n ops rest Q (upd f d v) L) : ExL P n ops (⟨some d, .extract x i, ty, pos, af, none⟩ :: rest) Q f L :=
  ExL.val rfl rfl hd (fun F w s => by simp [execOp, hx, Instr.extract, hv]) h
theorem st_nil_eq {xt yt e : TypeId} {x y : Operand} {a : Addr} (hd : Nat.blt d n = true) (hx : evalF f x = .pointer (some a)) (hy : evalF f y = .pointer none) (hu : P.underlying xt = some (.pointer e)) (h : ExL P n ops rest Q (upd f d (.bool false)) L) :
    ExL P n ops (⟨some d, .binOp .eql xt x y yt, ty, pos, af, none⟩ :: rest) Q f L :=
  st_eqv hd hx hy (fun w => by simp [eqGuard]) (fun w => by
    have h1 : (Op.equal xt (.pointer (some a)) (.pointer none)).run P w = .ok false w := by
      show (Op.equalIn (9999 + 1) xt (.pointer (some a)) (.pointer none)).run P w = _
      rw [Op.equalIn]
      simp [run_underlying hu]
    simp only [binOp, Sem.run_bind, h1, Result.andThen_ok, Sem.run_pure]) h
end
end Go.Proofs.Ytkcpgdkchglhhaa
