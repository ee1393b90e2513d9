/-
  OWN BASE, PART 14: division, bits, shifts, conversions into unsigned kinds, max.
-/
import Derived.Test.YtcpfehldofmipaaDoorBase13
namespace Go.SL
open Go

def bAnd (k : IntKind) (a b : Int) : Int := k.wrap (BitVec.ofInt k.bits a &&& BitVec.ofInt k.bits b).toNat
def bOr (k : IntKind) (a b : Int) : Int := k.wrap (BitVec.ofInt k.bits a ||| BitVec.ofInt k.bits b).toNat
def bXor (k : IntKind) (a b : Int) : Int := k.wrap (BitVec.ofInt k.bits a ^^^ BitVec.ofInt k.bits b).toNat
def bShr (k : IntKind) (a n : Int) : Int := a.fdiv (2 ^ (min n.toNat k.bits))
def bShl (k : IntKind) (a n : Int) : Int := k.wrap (a * 2 ^ (min n.toNat k.bits))

section
variable {P : Program} {w0 : World} {nt : Nat} {L F : List HP} {env : Env} {ty t t' : TypeId} {x y : Operand} {k k' : IntKind} {a b : Int}

theorem R_quo64 (hx : evO env x = some (.int .i64 a)) (hy : evO env y = some (.int .i64 b)) (h : 0 ≤ a ∧ a ≤ 9223372036854775807 ∧ 0 < b) : OpR P w0 nt L env (.binOp .quo t x y t') ty (.int .i64 (a / b)) := .mk fun o ho _ s hr w _ => by
  have h1 : b ≠ 0 := by omega
  have h2 : a.tdiv b = a / b := Int.tdiv_eq_ediv_of_nonneg h.1
  have h3 : 0 ≤ a / b := Int.ediv_nonneg h.1 (by omega)
  have h4 : a / b ≤ a := Int.ediv_le_self b h.1
  have h5 : IntKind.i64.wrap (a / b) = a / b := wrap_i64_of (by omega)
  simp [execOp, ho, hr.eval hx, hr.eval hy, eqGuard_quo, eqGuard_rem, Go.binOp, Op.intDiv, h1, h2, h5]
theorem R_rem64 (hx : evO env x = some (.int .i64 a)) (hy : evO env y = some (.int .i64 b)) (h : 0 ≤ a ∧ 0 < b) : OpR P w0 nt L env (.binOp .rem t x y t') ty (.int .i64 (a % b)) := .mk fun o ho _ s hr w _ => by
  have h1 : b ≠ 0 := by omega
  have h2 : a.tmod b = a % b := Int.tmod_eq_emod_of_nonneg h.1
  simp [execOp, ho, hr.eval hx, hr.eval hy, eqGuard_quo, eqGuard_rem, Go.binOp, Op.intDiv, h1, h2]
theorem R_rem (hx : evO env x = some (.int k a)) (hy : evO env y = some (.int k b)) (h : 0 ≤ a ∧ 0 < b) : OpR P w0 nt L env (.binOp .rem t x y t') ty (.int k (a % b)) := .mk fun o ho _ s hr w _ => by
  have h1 : b ≠ 0 := by omega
  have h2 : a.tmod b = a % b := Int.tmod_eq_emod_of_nonneg h.1
  simp [execOp, ho, hr.eval hx, hr.eval hy, eqGuard_quo, eqGuard_rem, Go.binOp, Op.intDiv, h1, h2]
theorem R_and (hx : evO env x = some (.int k a)) (hy : evO env y = some (.int k b)) : OpR P w0 nt L env (.binOp .and t x y t') ty (.int k (bAnd k a b)) := .mk fun o ho _ s hr w _ => by
  simp [execOp, ho, hr.eval hx, hr.eval hy, eqGuard_and, eqGuard_or, eqGuard_xor, Go.binOp, Op.intBits, bAnd]
theorem R_or (hx : evO env x = some (.int k a)) (hy : evO env y = some (.int k b)) : OpR P w0 nt L env (.binOp .or t x y t') ty (.int k (bOr k a b)) := .mk fun o ho _ s hr w _ => by
  simp [execOp, ho, hr.eval hx, hr.eval hy, eqGuard_and, eqGuard_or, eqGuard_xor, Go.binOp, Op.intBits, bOr]
theorem R_xor (hx : evO env x = some (.int k a)) (hy : evO env y = some (.int k b)) : OpR P w0 nt L env (.binOp .xor t x y t') ty (.int k (bXor k a b)) := .mk fun o ho _ s hr w _ => by
  simp [execOp, ho, hr.eval hx, hr.eval hy, eqGuard_and, eqGuard_or, eqGuard_xor, Go.binOp, Op.intBits, bXor]
theorem R_shr (hx : evO env x = some (.int k a)) (hy : evO env y = some (.int k' b)) (h : 0 ≤ b) : OpR P w0 nt L env (.binOp .shr t x y t') ty (.int k (bShr k a b)) := .mk fun o ho _ s hr w _ => by
  have : ¬ b < 0 := by omega
  simp [execOp, ho, hr.eval hx, hr.eval hy, eqGuard_shl, eqGuard_shr, Go.binOp, Op.shift, bShr, this]
theorem R_shl (hx : evO env x = some (.int k a)) (hy : evO env y = some (.int k' b)) (h : 0 ≤ b) : OpR P w0 nt L env (.binOp .shl t x y t') ty (.int k (bShl k a b)) := .mk fun o ho _ s hr w _ => by
  have : ¬ b < 0 := by omega
  simp [execOp, ho, hr.eval hx, hr.eval hy, eqGuard_shl, eqGuard_shr, Go.binOp, Op.shift, bShl, this]
theorem R_convk {z : Int} [hs : NotIface P t] [hd : Und P t' (.int k')] (hx : evO env x = some (.int k a)) (h : k'.wrap a = z) : OpR P w0 nt L env (.convert t t' x) ty (.int k' z) := by
  subst h; exact R_conv hx
theorem R_max (hx : evO env x = some (.int k a)) (hy : evO env y = some (.int k b)) : OpR P w0 nt L env (.call ⟨.builtin .max, #[x, y], #[t, t']⟩) ty (.int k (max a b)) := .mk fun o ho _ s hr w _ => by
  simp only [execOp, ho, resolve, invoke, builtin, Builtin.max_, List.map_toArray, List.map_cons, List.map_nil, hr.eval hx, hr.eval hy, List.foldlM_cons, List.foldlM_nil, Builtin.max2, Sem.run_bind, Sem.run_pure, Result.andThen_ok]
  have : (if b > a then b else a) = max a b := by split <;> omega
  rw [this]
end
theorem wrap_u64_of {n : Int} (h : 0 ≤ n ∧ n ≤ 18446744073709551615) : IntKind.u64.wrap n = n := by
  simp [IntKind.wrap, IntKind.bits, IntKind.signed]; omega
theorem wrap_u32_bd (n : Int) : 0 ≤ IntKind.u32.wrap n ∧ IntKind.u32.wrap n ≤ 4294967295 := by
  simp [IntKind.wrap, IntKind.bits, IntKind.signed]; omega
theorem wrap_u8_bd (n : Int) : 0 ≤ IntKind.u8.wrap n ∧ IntKind.u8.wrap n ≤ 255 := by
  simp [IntKind.wrap, IntKind.bits, IntKind.signed]; omega
theorem wrap_u64_bd (n : Int) : 0 ≤ IntKind.u64.wrap n ∧ IntKind.u64.wrap n ≤ 18446744073709551615 := by
  simp [IntKind.wrap, IntKind.bits, IntKind.signed]; omega
end Go.SL
