/-
  OWN BASE, PART 3: one law an operation.
-/
import Derived.Test.YtcpfehldofmipaaDoorBase2
import Derived.Laws.Slices
import Derived.IntWalk
import Derived.Laws.Small
import Derived.Laws.StructEq
import Derived.Laws.Pointers
import Derived.WideLaws
namespace Go.SL
open Go

/-! ### Facts of a program, found by their numbers -/
class Und (P : Program) (t : TypeId) (d : outParam TypeDesc) : Prop where
  h : P.underlying t = some d
class SizeC (P : Program) (t : TypeId) (n : outParam Nat) : Prop where
  h : ∀ w, (sizeOf t).run P w = .ok n w
class AggC (P : Program) (t : TypeId) (b : outParam Bool) : Prop where
  h : ∀ w, (isAgg t).run P w = .ok b w
class ZeroC (P : Program) (t : TypeId) (v : outParam Value) : Prop where
  h : ∀ w, (zeroValue t).run P w = .ok v w
class InfoC (P : Program) (t : TypeId) (i : outParam TypeInfo) : Prop where
  h : ∀ w, (typeInfo t).run P w = .ok i w
/-- field k of struct type s lies at cell off -/
class FieldC (P : Program) (s : TypeId) (k : Nat) (off : outParam Nat) : Prop where
  h : ∃ fs f n, P.underlying s = some (.struct fs) ∧ fs[k]? = some f ∧ f.offset = off ∧ (∀ w, (sizeOf f.type).run P w = .ok n w) ∧ Nat.beq n 0 = false
/-- struct type t: where its fields lie -/
class BuildC (P : Program) (t : TypeId) (pl : outParam (Array (Nat × Nat))) : Prop where
  h : ∃ fs, P.underlying t = some (.struct fs) ∧ ∀ w, ((fs.mapM fun f => do pure (f.offset, ← sizeOf f.type) : Sem (Array (Nat × Nat)))).run P w = .ok pl w
class NotIface (P : Program) (t : TypeId) : Prop where
  h : ∃ d, P.underlying t = some d ∧ (match d with | .interface _ => true | _ => false) = false
class CallC (P : Program) (f : FuncId) : Prop where
  h : ∀ args w, (callFunc f args).run P w = .ok (.enter f args) w

section
variable {P : Program} {w0 : World} {nt : Nat} {L L' : List HP} {env : Env} {ty : TypeId}

theorem addr_add (b off n : Nat) : (⟨b, off, none⟩ : Addr).add n = ⟨b, off + n, none⟩ := by
  unfold Addr.add; split
  · subst_vars; rfl
  · rfl

theorem run_und {t : TypeId} {d : TypeDesc} [h : Und P t d] (w : World) : (underlying t).run P w = .ok d w := run_underlying h.h w

/-! ### copies -/
theorem R_move {x : Operand} {v : Value} (hx : evO env x = some v) : OpR P w0 nt L env (.move x) ty v := .mk fun o ho _ a hr w _ => by
  simp [execOp, ho, hr.eval hx]
theorem R_assign {x : Operand} {v : Value} (hx : evO env x = some v) : OpR P w0 nt L env (.assign x) ty v := .mk fun o ho _ a hr w _ => by
  simp [execOp, ho, hr.eval hx]
theorem R_pick_t {c x y : Operand} {v : Value} (hc : evO env c = some (.bool true)) (hx : evO env x = some v) : OpR P w0 nt L env (.pick c x y) ty v := .mk fun o ho _ a hr w _ => by
  simp [execOp, ho, hr.eval hc, hr.eval hx, asBool]
theorem R_pick_f {c x y : Operand} {v : Value} (hc : evO env c = some (.bool false)) (hy : evO env y = some v) : OpR P w0 nt L env (.pick c x y) ty v := .mk fun o ho _ a hr w _ => by
  simp [execOp, ho, hr.eval hc, hr.eval hy, asBool]
theorem R_pick_b {c x y : Operand} {b p q : Bool} (hc : evO env c = some (.bool b)) (hx : evO env x = some (.bool p)) (hy : evO env y = some (.bool q)) : OpR P w0 nt L env (.pick c x y) ty (.bool (if b then p else q)) := .mk fun o ho _ a hr w _ => by
  cases b <;> simp [execOp, ho, hr.eval hc, hr.eval hx, hr.eval hy, asBool]
theorem R_extract {x : Operand} {i : Nat} {vs : Array Value} {v : Value} (hx : evO env x = some (.tuple vs)) (hv : vs[i]? = some v) : OpR P w0 nt L env (.extract x i) ty v := .mk fun o ho _ a hr w _ => by
  simp [execOp, ho, hr.eval hx, Instr.extract, hv]
theorem R_makeInterface {t : TypeId} {x : Operand} {v : Value} [hu : NotIface P t] (hx : evO env x = some v) : OpR P w0 nt L env (.makeInterface t x) ty (.iface t v) := .mk fun o ho _ a hr w _ => by
  obtain ⟨d, hU, hd⟩ := hu.h
  simp only [execOp, ho, hr.eval hx, Instr.makeInterface, Sem.run_bind, run_underlying hU, Result.andThen_ok]
  cases d <;> simp_all
def evL (env : Env) : List Operand → Option (List Value)
  | [] => some []
  | x :: r => match evO env x, evL env r with
    | some v, some vs => some (v :: vs)
    | _, _ => none
theorem evL_map {a : Act} (hr : Rel nt env a) : ∀ {l : List Operand} {vs : List Value}, evL env l = some vs → l.map a.eval = vs
  | [], vs, h => by simp [evL] at h; simp [h]
  | x :: r, vs, h => by
    simp only [evL] at h
    split at h
    · rename_i v us h1 h2
      obtain rfl := Option.some.inj h
      simp [hr.eval h1, evL_map hr h2]
    · cases h
theorem R_makeFunc {fn : Fn} {f c : List Operand} {fs cs : List Value} (hf : evL env f = some fs) (hc : evL env c = some cs) : OpR P w0 nt L env (.makeFunc fn f.toArray c.toArray) ty (.func fn fs.toArray cs.toArray) := .mk fun o ho _ a hr w _ => by
  simp [execOp, ho, Instr.makeFunc, evL_map hr hf, evL_map hr hc]

theorem R_nilCheck {x : Operand} {p : Addr} (hx : evO env x = some (.pointer (some p))) : OpR P w0 nt L env (.nilCheck x) ty (.pointer (some p)) := .mk fun o ho _ a hr w _ => by
  simp [execOp, ho, hr.eval hx]
theorem R_nilCheck_func {x : Operand} {f : FuncId} {fi c : Array Value} (hx : evO env x = some (.func (.func f) fi c)) : OpR P w0 nt L env (.nilCheck x) ty (.func (.func f) fi c) := .mk fun o ho _ a hr w _ => by
  simp [execOp, ho, hr.eval hx]

/-! ### addresses -/
theorem R_fieldAddr {s : TypeId} {x : Operand} {k b off fo : Nat} [hu : FieldC P s k fo] (hx : evO env x = some (.pointer (some ⟨b, off, none⟩))) :
    OpR P w0 nt L env (.fieldAddr s x k) ty (.pointer (some ⟨b, off + fo, none⟩)) := .mk fun o ho _ a hr w _ => by
  obtain ⟨fs, f, n, hU, hf, rfl, hz, hn⟩ := hu.h
  have : n ≠ 0 := ne_of_nbeq hn
  simp [execOp, ho, hr.eval hx, Instr.fieldAt, run_underlying hU, hf, Instr.sureAddr, fieldPlace, hz, this, addr_add]

theorem R_indexAddr {t e : TypeId} {x i : Operand} {b off len cap n : Nat} {k : IntKind} {j : Int} [hu : Und P t (.slice e)] [hz : SizeC P e n] (hx : evO env x = some (.slice (some ⟨b, off, none⟩) len cap))
    (hi : evO env i = some (.int k j)) (hj : 0 ≤ j ∧ j < len) : OpR P w0 nt L env (.indexAddr t x i) ty (.pointer (some ⟨b, off + j.toNat * n, none⟩)) := .mk fun o ho _ a hr w _ => by
  simp [execOp, ho, hr.eval hx, hr.eval hi, Instr.indexAt, run_underlying hu.h, asIntOf, hj.1, hj.2, hz.h, addr_add]

theorem R_indexAddr_arr {t e : TypeId} {x i : Operand} {b off len n : Nat} {k : IntKind} {j : Int} [hu : Und P t (.array len e)] [hz : SizeC P e n] (hx : evO env x = some (.pointer (some ⟨b, off, none⟩)))
    (hi : evO env i = some (.int k j)) (hj : 0 ≤ j ∧ j < len) : OpR P w0 nt L env (.indexAddr t x i) ty (.pointer (some ⟨b, off + j.toNat * n, none⟩)) := .mk fun o ho _ a hr w _ => by
  simp [execOp, ho, hr.eval hx, hr.eval hi, Instr.indexAt, run_underlying hu.h, Instr.sureAddr, asIntOf, hj.1, hj.2, hz.h, addr_add]

/-! ### reading memory -/
theorem run_load_of {b off : Nat} {c : Array Value} {T : TypeId} {fr : Nat × Nat} {v : Value} {w : World} (hs : Sat w0 w L) (hr : Reads L b (.cells c T fr)) (hv : c[off]? = some v) :
    (load ⟨b, off, none⟩).run P w = .ok v w := by
  simp [run_load, cell?_of (hs.read hr), hv]

theorem R_load {t : TypeId} {x : Operand} {b off : Nat} {c : Array Value} {T : TypeId} {fr : Nat × Nat} {v : Value} [hg : AggC P t false] (hx : evO env x = some (.pointer (some ⟨b, off, none⟩)))
    (hr : Reads L b (.cells c T fr)) (hv : c[off]? = some v) : OpR P w0 nt L env (.load t x) ty v := .mk fun o ho _ a ha w hs => by
  simp [execOp, ho, ha.eval hx, Instr.loadAt, Instr.sureAddr, loadVar, hg.h, cell?_of (hs.read hr), hv]

theorem run_loadCells_of {b off n : Nat} {c : Array Value} {T : TypeId} {fr : Nat × Nat} {w : World} (hb : w.heap[b]? = some (.cells c T fr)) (hle : off + n ≤ c.size) :
    (loadCells ⟨b, off, none⟩ n).run P w = .ok (c.extract off (off + n)) w := by
  have key := run_loadCells_list (P := P) w ⟨b, off, none⟩ (c.extract off (off + n)).toList (fun j v hv => by
    rw [addr_add, cell?_of hb]
    rw [Array.getElem?_toList, Array.getElem?_extract] at hv
    split at hv
    · exact hv
    · cases hv)
  have hlen : (c.extract off (off + n)).toList.length = n := by rw [Array.length_toList, Array.size_extract]; omega
  rw [hlen, Array.toArray_toList] at key
  exact key

theorem R_load_agg {t : TypeId} {x : Operand} {b off n : Nat} {c cs : Array Value} {T : TypeId} {fr : Nat × Nat} [hg : AggC P t true] [hz : SizeC P t n] (hx : evO env x = some (.pointer (some ⟨b, off, none⟩)))
    (hr : Reads L b (.cells c T fr)) (hle : off + n ≤ c.size) (hv : c.extract off (off + n) = cs) : OpR P w0 nt L env (.load t x) ty (.agg cs) := .mk fun o ho _ a ha w hs => by
  simp [execOp, ho, ha.eval hx, Instr.loadAt, Instr.sureAddr, loadVar, hg.h, hz.h, run_loadCells_of (hs.read hr) hle, hv]

/-! ### numbers -/
section
variable {t t' : TypeId} {x y : Operand} {k : IntKind} {a b : Int}
theorem R_add (hx : evO env x = some (.int k a)) (hy : evO env y = some (.int k b)) : OpR P w0 nt L env (.binOp .add t x y t') ty (.int k (k.wrap (a + b))) := .mk fun o ho _ s hr w _ => by
  simp [execOp, ho, hr.eval hx, hr.eval hy, eqGuard_add, binOp_add, Op.intArith]
theorem R_sub (hx : evO env x = some (.int k a)) (hy : evO env y = some (.int k b)) : OpR P w0 nt L env (.binOp .sub t x y t') ty (.int k (k.wrap (a - b))) := .mk fun o ho _ s hr w _ => by
  simp [execOp, ho, hr.eval hx, hr.eval hy, eqGuard_sub, binOp_sub, Op.intArith]
theorem R_mul (hx : evO env x = some (.int k a)) (hy : evO env y = some (.int k b)) : OpR P w0 nt L env (.binOp .mul t x y t') ty (.int k (k.wrap (a * b))) := .mk fun o ho _ s hr w _ => by
  simp [execOp, ho, hr.eval hx, hr.eval hy, eqGuard_mul, binOp_mul, Op.intArith]
theorem R_lss (hx : evO env x = some (.int k a)) (hy : evO env y = some (.int k b)) : OpR P w0 nt L env (.binOp .lss t x y t') ty (.bool (decide (a < b))) := .mk fun o ho _ s hr w _ => by
  simp [execOp, ho, hr.eval hx, hr.eval hy, eqGuard_lss, binOp_lss]
theorem R_leq (hx : evO env x = some (.int k a)) (hy : evO env y = some (.int k b)) : OpR P w0 nt L env (.binOp .leq t x y t') ty (.bool (decide (a ≤ b))) := .mk fun o ho _ s hr w _ => by
  simp [execOp, ho, hr.eval hx, hr.eval hy, eqGuard_leq, binOp_leq]
theorem R_gtr (hx : evO env x = some (.int k a)) (hy : evO env y = some (.int k b)) : OpR P w0 nt L env (.binOp .gtr t x y t') ty (.bool (decide (b < a))) := .mk fun o ho _ s hr w _ => by
  simp [execOp, ho, hr.eval hx, hr.eval hy, eqGuard_gtr, binOp_gtr]
theorem R_geq (hx : evO env x = some (.int k a)) (hy : evO env y = some (.int k b)) : OpR P w0 nt L env (.binOp .geq t x y t') ty (.bool (decide (b ≤ a))) := .mk fun o ho _ s hr w _ => by
  simp [execOp, ho, hr.eval hx, hr.eval hy, eqGuard_geq, binOp_geq]
theorem int_beq (a b : Int) : (a == b) = decide (a = b) := by by_cases h : a = b <;> simp [h]
theorem R_eql (hx : evO env x = some (.int k a)) (hy : evO env y = some (.int k b)) : OpR P w0 nt L env (.binOp .eql t x y t') ty (.bool (decide (a = b))) := .mk fun o ho _ s hr w _ => by
  simp [execOp, ho, hr.eval hx, hr.eval hy, eqGuard_at_int, binOp_eql, int_beq]
theorem R_neq (hx : evO env x = some (.int k a)) (hy : evO env y = some (.int k b)) : OpR P w0 nt L env (.binOp .neq t x y t') ty (.bool (!decide (a = b))) := .mk fun o ho _ s hr w _ => by
  simp [execOp, ho, hr.eval hx, hr.eval hy, eqGuard_at_int, binOp_neq, bne, int_beq]

theorem wrap_i64_of {n : Int} (h : -9223372036854775808 ≤ n ∧ n ≤ 9223372036854775807) : IntKind.i64.wrap n = n := by
  simp [IntKind.wrap, IntKind.bits, IntKind.signed]; omega
theorem wrap_u8_of {n : Int} (h : 0 ≤ n ∧ n ≤ 255) : IntKind.u8.wrap n = n := by
  simp [IntKind.wrap, IntKind.bits, IntKind.signed]; omega
theorem wrap_u32_of {n : Int} (h : 0 ≤ n ∧ n ≤ 4294967295) : IntKind.u32.wrap n = n := by
  simp [IntKind.wrap, IntKind.bits, IntKind.signed]; omega
theorem R_add64 (hx : evO env x = some (.int .i64 a)) (hy : evO env y = some (.int .i64 b)) (h : -9223372036854775808 ≤ a + b ∧ a + b ≤ 9223372036854775807) : OpR P w0 nt L env (.binOp .add t x y t') ty (.int .i64 (a + b)) := by
  have := R_add (P := P) (w0 := w0) (nt := nt) (L := L) (env := env) (ty := ty) (t := t) (t' := t') hx hy
  rwa [wrap_i64_of h] at this
theorem R_sub64 (hx : evO env x = some (.int .i64 a)) (hy : evO env y = some (.int .i64 b)) (h : -9223372036854775808 ≤ a - b ∧ a - b ≤ 9223372036854775807) : OpR P w0 nt L env (.binOp .sub t x y t') ty (.int .i64 (a - b)) := by
  have := R_sub (P := P) (w0 := w0) (nt := nt) (L := L) (env := env) (ty := ty) (t := t) (t' := t') hx hy
  rwa [wrap_i64_of h] at this
theorem R_mul64 (hx : evO env x = some (.int .i64 a)) (hy : evO env y = some (.int .i64 b)) (h : -9223372036854775808 ≤ a * b ∧ a * b ≤ 9223372036854775807) : OpR P w0 nt L env (.binOp .mul t x y t') ty (.int .i64 (a * b)) := by
  have := R_mul (P := P) (w0 := w0) (nt := nt) (L := L) (env := env) (ty := ty) (t := t) (t' := t') hx hy
  rwa [wrap_i64_of h] at this
theorem R_not {p : Bool} (hx : evO env x = some (.bool p)) : OpR P w0 nt L env (.unOp .not t x) ty (.bool (!p)) := .mk fun o ho _ s hr w _ => by
  simp [execOp, ho, hr.eval hx, Op.unary]
theorem R_neg (hx : evO env x = some (.int k a)) : OpR P w0 nt L env (.unOp .neg t x) ty (.int k (k.wrap (-a))) := .mk fun o ho _ s hr w _ => by
  simp [execOp, ho, hr.eval hx, Op.unary, Op.intArith]
theorem R_conv {k' : IntKind} [hs : NotIface P t] [hd : Und P t' (.int k')] (hx : evO env x = some (.int k a)) : OpR P w0 nt L env (.convert t t' x) ty (.int k' (k'.wrap a)) := .mk fun o ho _ s hr w _ => by
  obtain ⟨d, hU, _⟩ := hs.h
  simp [execOp, ho, hr.eval hx, convert, run_underlying hU, run_underlying hd.h, Conv.intToInt]
theorem R_conv64 [hs : NotIface P t] [hd : Und P t' (.int .i64)] (hx : evO env x = some (.int k a)) (h : -9223372036854775808 ≤ a ∧ a ≤ 9223372036854775807) : OpR P w0 nt L env (.convert t t' x) ty (.int .i64 a) := by
  have := R_conv (P := P) (w0 := w0) (nt := nt) (L := L) (env := env) (ty := ty) (t := t) (t' := t') (k' := .i64) hx
  rwa [wrap_i64_of h] at this
end
section
variable {t t' : TypeId} {x y : Operand}
theorem R_eql_bool {p q : Bool} [hu : Und P t .bool] (hx : evO env x = some (.bool p)) (hy : evO env y = some (.bool q)) : OpR P w0 nt L env (.binOp .eql t x y t') ty (.bool (p == q)) := .mk fun o ho _ s hr w _ => by
  simp [execOp, ho, hr.eval hx, hr.eval hy, eqGuard_at_bool, run_eql_bool w t p q hu.h]
theorem R_neq_bool {p q : Bool} [hu : Und P t .bool] (hx : evO env x = some (.bool p)) (hy : evO env y = some (.bool q)) : OpR P w0 nt L env (.binOp .neq t x y t') ty (.bool (!(p == q))) := .mk fun o ho _ s hr w _ => by
  simp [execOp, ho, hr.eval hx, hr.eval hy, eqGuard_at_bool, run_neq_bool w t p q hu.h]
end

/-! ### structs, one against another -/
theorem run_equalIn_st (w : World) (d : Nat) (t : TypeId) (xs ys : Array Value) (fs : Array Field) (ht : P.underlying t = some (.struct fs)) (hp : P.stoodInHeld t = false) :
    (Op.equalIn (d + 1) t (.agg xs) (.agg ys)).run P w = (Op.eqFields d xs ys fs.toList).run P w := by
  have h : P.fieldsOf t = fs := by simp [Program.fieldsOf, ht]
  rw [run_equalIn_struct w d t xs ys (by rw [h]; exact ht) hp, h]
theorem R_eql_st {t t' : TypeId} {x y : Operand} {xs ys : Array Value} {b : Bool} (hx : evO env x = some (.agg xs)) (hy : evO env y = some (.agg ys)) (hm : P.eqGuardType P.depth t = false)
    (he : ∀ w, (Op.equalIn 10000 t (.agg xs) (.agg ys)).run P w = .ok b w) : OpR P w0 nt L env (.binOp .eql t x y t') ty (.bool b) := .mk fun o ho _ s hr w _ => by
  simp [execOp, ho, hr.eval hx, hr.eval hy, run_eqGuard_agg w .eql t x y xs ys hm, run_eql_struct, he]
theorem R_neq_st {t t' : TypeId} {x y : Operand} {xs ys : Array Value} {b : Bool} (hx : evO env x = some (.agg xs)) (hy : evO env y = some (.agg ys)) (hm : P.eqGuardType P.depth t = false)
    (he : ∀ w, (Op.equalIn 10000 t (.agg xs) (.agg ys)).run P w = .ok b w) : OpR P w0 nt L env (.binOp .neq t x y t') ty (.bool (!b)) := .mk fun o ho _ s hr w _ => by
  simp [execOp, ho, hr.eval hx, hr.eval hy, run_eqGuard_agg w .neq t x y xs ys hm, run_neq_struct, he]

/-! ### len, cap -/
theorem R_len {t e : TypeId} {x : Operand} {p : Option Addr} {n c : Nat} [hu : Und P t (.slice e)] (hx : evO env x = some (.slice p n c)) : OpR P w0 nt L env (.call ⟨.builtin .len, #[x], #[t]⟩) ty (.int .i64 n) := .mk fun o ho _ a hr w _ => by
  simp [execOp, ho, resolve, invoke, builtin, hr.eval hx, Builtin.len_, run_underlying hu.h, goInt]
theorem R_len_str {t : TypeId} {x : Operand} {s : ByteArray} [hu : Und P t .string] (hx : evO env x = some (.string s)) : OpR P w0 nt L env (.call ⟨.builtin .len, #[x], #[t]⟩) ty (.int .i64 s.size) := .mk fun o ho _ a hr w _ => by
  simp [execOp, ho, resolve, invoke, builtin, hr.eval hx, Builtin.len_, run_underlying hu.h, goInt]
theorem R_min {t t' : TypeId} {x y : Operand} {k : IntKind} {a b : Int} (hx : evO env x = some (.int k a)) (hy : evO env y = some (.int k b)) :
    OpR P w0 nt L env (.call ⟨.builtin .min, #[x, y], #[t, t']⟩) ty (.int k (min a b)) := .mk fun o ho _ s hr w _ => by
  simp only [execOp, ho, resolve, invoke, builtin, Builtin.min_, List.map_toArray, List.map_cons, List.map_nil, hr.eval hx, hr.eval hy, List.foldlM_cons, List.foldlM_nil, Builtin.min2, Sem.run_bind, Sem.run_pure, Result.andThen_ok]
  have : (if b < a then b else a) = min a b := by split <;> omega
  rw [this]

/-! ### slices of slices -/
theorem elem_of {t e : TypeId} (h : P.underlying t = some (.slice e)) : P.elem t = e := by simp [Program.elem, h]
theorem R_slice_h {t e : TypeId} {x y : Operand} {p : Option Addr} {n c sz : Nat} {k : IntKind} {h : Int} [hu : Und P t (.slice e)] [hz : SizeC P e sz] (hx : evO env x = some (.slice p n c)) (hy : evO env y = some (.int k h))
    (hh : 0 ≤ h ∧ h ≤ c) : OpR P w0 nt L env (.slice t x none (some y) none) ty (.slice p h.toNat c) := .mk fun o ho _ a hr w _ => by
  have he : P.underlying t = some (.slice (P.elem t)) := by rw [elem_of hu.h]; exact hu.h
  have hz' : ∀ w, (sizeOf (P.elem t)).run P w = .ok sz w := by rw [elem_of hu.h]; exact hz.h
  simp only [execOp, ho, Option.map_some, Option.map_none, hr.eval hx, hr.eval hy, Sem.run_bind, run_sliceAt_slice w t _ _ _ _ he, run_slice_h w t p n c he k h hh.1 hh.2, hz', Result.andThen_ok, sliced]
  by_cases h0 : c = 0
  · simp [h0]
  · cases p <;> simp [h0, Addr.add]
theorem R_slice_l {t e : TypeId} {x y : Operand} {b off n c sz : Nat} {k : IntKind} {l : Int} [hu : Und P t (.slice e)] [hz : SizeC P e sz] (hx : evO env x = some (.slice (some ⟨b, off, none⟩) n c)) (hy : evO env y = some (.int k l))
    (hh : 0 ≤ l ∧ l ≤ n ∧ l < c) : OpR P w0 nt L env (.slice t x (some y) none none) ty (.slice (some ⟨b, off + l.toNat * sz, none⟩) (n - l.toNat) (c - l.toNat)) := .mk fun o ho _ a hr w _ => by
  have he : P.underlying t = some (.slice (P.elem t)) := by rw [elem_of hu.h]; exact hu.h
  have hz' : ∀ w, (sizeOf (P.elem t)).run P w = .ok sz w := by rw [elem_of hu.h]; exact hz.h
  simp only [execOp, ho, Option.map_some, Option.map_none, hr.eval hx, hr.eval hy, Sem.run_bind, run_sliceAt_slice w t _ _ _ _ he, run_slice_l w t _ n c he k l hh.1 hh.2.1, hz', Result.andThen_ok, sliced]
  have : ¬ c = l.toNat := by omega
  simp [this, addr_add]
theorem R_slice_lh {t e : TypeId} {x y z : Operand} {b off n c sz : Nat} {k k' : IntKind} {l h : Int} [hu : Und P t (.slice e)] [hz : SizeC P e sz] (hx : evO env x = some (.slice (some ⟨b, off, none⟩) n c)) (hy : evO env y = some (.int k l))
    (hy' : evO env z = some (.int k' h)) (hh : 0 ≤ l ∧ l ≤ h ∧ h ≤ c ∧ l < c) : OpR P w0 nt L env (.slice t x (some y) (some z) none) ty (.slice (some ⟨b, off + l.toNat * sz, none⟩) (h.toNat - l.toNat) (c - l.toNat)) := .mk fun o ho _ a hr w _ => by
  have he : P.underlying t = some (.slice (P.elem t)) := by rw [elem_of hu.h]; exact hu.h
  have hz' : ∀ w, (sizeOf (P.elem t)).run P w = .ok sz w := by rw [elem_of hu.h]; exact hz.h
  simp only [execOp, ho, Option.map_some, Option.map_none, hr.eval hx, hr.eval hy, hr.eval hy', Sem.run_bind, run_sliceAt_slice w t _ _ _ _ he, run_slice_lh w t _ n c he k k' l h hh.1 hh.2.1 hh.2.2.1, hz', Result.andThen_ok, sliced]
  have : ¬ c = l.toNat := by omega
  simp [this, addr_add]

/-! ### new blocks -/
theorem W_alloc {t : TypeId} {v : Value} {cs : Array Value} [hz : ZeroC P t v] (hc : v.cells = cs) : OpW P w0 nt L env (.alloc t) ty (fun u L' => ∃ b, u = .pointer (some ⟨b, 0, none⟩) ∧ L' = pt b (.cells cs t) :: L) := .mk fun o ho _ a hr w hs => by
  refine ⟨_, _, _, .inl ?_, hs.alloc (.cells cs t), w.heap.size, rfl, rfl⟩
  simp [execOp, ho, Instr.alloc, hz.h, newVar, newRow, hc]
theorem W_box {t : TypeId} {x : Operand} {v : Value} {cs : Array Value} (hx : evO env x = some v) (hc : v.cells = cs) : OpW P w0 nt L env (.box t x) ty (fun u L' => ∃ b, u = .pointer (some ⟨b, 0, none⟩) ∧ L' = pt b (.cells cs t) :: L) := .mk fun o ho _ a hr w hs => by
  refine ⟨_, _, _, .inl ?_, hs.alloc (.cells cs t), w.heap.size, rfl, rfl⟩
  simp [execOp, ho, Instr.box, newVar, newRow, hc, hr.eval hx]
theorem oneCell_cells {v : Value} (h1 : v.oneCell' = true) : v.cells = #[v] := by cases v <;> first | rfl | (simp [Value.oneCell'] at h1)
theorem W_alloc1 {t : TypeId} {v : Value} [hz : ZeroC P t v] (h1 : v.oneCell' = true) : OpW P w0 nt L env (.alloc t) ty (fun u L' => ∃ b, u = .pointer (some ⟨b, 0, none⟩) ∧ L' = pt b (.cells #[v] t) :: L) := W_alloc (oneCell_cells h1)
theorem W_allocA {t : TypeId} {cs : Array Value} [hz : ZeroC P t (.agg cs)] : OpW P w0 nt L env (.alloc t) ty (fun u L' => ∃ b, u = .pointer (some ⟨b, 0, none⟩) ∧ L' = pt b (.cells cs t) :: L) := W_alloc rfl
theorem W_box1 {t : TypeId} {x : Operand} {v : Value} (hx : evO env x = some v) (h1 : v.oneCell' = true) : OpW P w0 nt L env (.box t x) ty (fun u L' => ∃ b, u = .pointer (some ⟨b, 0, none⟩) ∧ L' = pt b (.cells #[v] t) :: L) := W_box hx (oneCell_cells h1)
theorem W_boxA {t : TypeId} {x : Operand} {cs : Array Value} (hx : evO env x = some (.agg cs)) : OpW P w0 nt L env (.box t x) ty (fun u L' => ∃ b, u = .pointer (some ⟨b, 0, none⟩) ∧ L' = pt b (.cells cs t) :: L) := W_box hx rfl
theorem W_makeMap {t : TypeId} : OpW P w0 nt L env (.makeMap t none) ty (fun u L' => ∃ b, u = .map (some b) ∧ L' = pt b (.map #[] 0) :: L) := .mk fun o ho _ a _ w hs => by
  refine ⟨_, _, _, .inl ?_, hs.alloc (.map #[] 0), w.heap.size, rfl, rfl⟩
  simp [execOp, ho, Instr.makeMap]

def evP (env : Env) : List (Nat × Operand) → Option (List (Nat × Value))
  | [] => some []
  | (i, x) :: r => match evO env x, evP env r with
    | some v, some vs => some ((i, v) :: vs)
    | _, _ => none
theorem evP_map {a : Act} (hr : Rel nt env a) : ∀ {l : List (Nat × Operand)} {vs : List (Nat × Value)}, evP env l = some vs → l.map (fun x => (x.1, a.eval x.2)) = vs
  | [], vs, h => by simp [evP] at h; simp [h]
  | (i, x) :: r, vs, h => by
    simp only [evP] at h
    split at h
    · rename_i v us h1 h2
      obtain rfl := Option.some.inj h
      simp [hr.eval h1, evP_map hr h2]
    · cases h

theorem W_buildSlice {t e : TypeId} {len n : Nat} {ps : List (Nat × Operand)} {vs : List (Nat × Value)} {z : Value} {cs : Array Value} [hu : Und P t (.slice e)] [hz : SizeC P e n] [hzz : ZeroC P e z] (hv : evP env ps = some vs)
    (hlt : Nat.ble (len * n) 16777216 = true) (hn : Nat.beq (len * n) 0 = false)
    (hc : Instr.fill (fun i => some (i * n, n)) ((Array.range (len * n)).map (z.cells[· % z.cells.size]!)) vs = some cs) :
    OpW P w0 nt L env (.buildSlice t len ps.toArray) ty (fun u L' => ∃ b, u = .slice (some ⟨b, 0, none⟩) len len ∧ L' = pt b (.cells cs e) :: L) := .mk fun o ho _ a hr w hs => by
  refine ⟨_, _, _, .inl ?_, hs.alloc (.cells cs e), w.heap.size, rfl, rfl⟩
  have h0 : len * n ≤ 16777216 := by simpa using hlt
  have h1 : ¬ (16777216 < len * n) := by omega
  have h2 : len * n ≠ 0 := ne_of_nbeq hn
  have h3 : (List.map (fun x => (x.1, a.eval x.2)) ps) = vs := evP_map hr hv
  have h4 : (Array.map (fun (x : Nat × Operand) => match x with | (i, x) => (i, a.eval x)) ps.toArray) = vs.toArray := by rw [← h3]; simp
  simp only [execOp, ho, h4, Instr.buildSlice, Sem.run_bind, run_underlying hu.h, Result.andThen_ok, hz.h, Nat.reducePow, gt_iff_lt, h1, if_false, h2, hzz.h, Sem.run_pure, hc, newRow, run_newObj]
  rfl

theorem R_build {t : TypeId} {ps : List (Nat × Operand)} {vs : List (Nat × Value)} {z : Value} {cs : Array Value} {pl : Array (Nat × Nat)} [hu : BuildC P t pl] [hzz : ZeroC P t z] (hv : evP env ps = some vs)
    (hc : Instr.fill (pl[·]?) z.cells vs = some cs) : OpR P w0 nt L env (.build t ps.toArray) ty (.agg cs) := .mk fun o ho _ a hr w _ => by
  obtain ⟨fs, hU, hp⟩ := hu.h
  have h3 : (List.map (fun x => (x.1, a.eval x.2)) ps) = vs := evP_map hr hv
  have h4 : (Array.map (fun (x : Nat × Operand) => match x with | (i, x) => (i, a.eval x)) ps.toArray) = vs.toArray := by rw [← h3]; simp
  have h5 := hp w
  simp only [execOp, ho, h4, Instr.build, Sem.run_bind, run_underlying hU, Result.andThen_ok, hzz.h, h5]
  simp [hc]

/-! ### calls -/
theorem C_call {f : FuncId} {fo : Operand} {fi ca : Array Value} {xs : List Operand} {vs : List Value} {ts : Array TypeId} {args : List Value} {R : Value → List HP → Prop} (hf : evO env fo = some (.func (.func f) fi ca)) (hc : CallC P f)
    (hx : evL env xs = some vs) (ha : fi.toList ++ vs ++ ca.toList = args) (ht : Tr P f args.toArray L R) : OpC P w0 nt L env (.call ⟨.value fo, xs.toArray, ts⟩) ty R := .mk fun o ho _ a hr w hs => by
  refine ⟨f, args.toArray, ?_, ht.h w0 w hs⟩
  have h1 : (xs.toArray.map a.eval) = vs.toArray := by simp [evL_map hr hx]
  have h2 : fi ++ vs.toArray ++ ca = args.toArray := by rw [← ha]; simp
  simp only [execOp, ho, resolve, h1, hr.eval hf, Deferred.ofValue, Sem.run_pure, Sem.run_bind, Result.andThen_ok, invoke, h2, hc.h]

/-! ### storing -/
theorem run_store_of {b off : Nat} {c : Array Value} {T : TypeId} {fr : Nat × Nat} {v : Value} {w : World} (hs : Sat w0 w L) (hu : Upd L b (.cells c T fr) (.cells (c.setIfInBounds off v) T fr) L') (hlt : off < c.size)
    (hfr : (fr.1 ≤ off && off < fr.2) = false) (h1 : v.oneCell' = true) : (store ⟨b, off, none⟩ v).run P w = .ok () (w.setCell ⟨b, off, none⟩ v) := by
  have hb := hs.read hu.reads
  rw [run_store P w _ v _ h1, cell?_of hb, frozen?_of hb, hfr]
  simp [hlt]

theorem W_store {t : TypeId} {x y : Operand} {b off : Nat} {c : Array Value} {T : TypeId} {fr : Nat × Nat} {v : Value} [hz : SizeC P t 1] (hx : evO env x = some (.pointer (some ⟨b, off, none⟩))) (hy : evO env y = some v)
    (h1 : v.oneCell' = true) (hu : Upd L b (.cells c T fr) (.cells (c.setIfInBounds off v) T fr) L') (hlt : off < c.size) (hfr : (fr.1 ≤ off && off < fr.2) = false) :
    OpW P w0 nt L env (.store t x y) ty (fun u L2 => u = undef ∧ L2 = L') := .mk fun o ho _ a hr w hs => by
  refine ⟨_, _, _, .inr ⟨rfl, ?_⟩, hs.setCell hu, rfl, rfl⟩
  have hcs : v.cells = #[v] := by cases v <;> first | rfl | (simp [Value.oneCell'] at h1)
  have hst := run_store_of (P := P) hs hu hlt hfr h1
  simp only [execOp, ho, Instr.storeAt, Instr.sureAddr, hr.eval hx, hr.eval hy, storeVar, hcs, Sem.run_bind, Sem.run_pure, Result.andThen_ok, hz.h, List.size_toArray, List.length_cons, List.length_nil, ne_eq, not_true_eq_false, if_false, storeCells, addr_add, Nat.add_zero, hst]

/-- cells written one behind the other -/
def wrs (c : Array Value) (off : Nat) : List Value → Array Value
  | [] => c
  | v :: r => wrs (c.setIfInBounds off v) (off + 1) r
theorem size_wrs : ∀ (l : List Value) (c : Array Value) (off : Nat), (wrs c off l).size = c.size
  | [], _, _ => rfl
  | v :: r, c, off => by simp [wrs, size_wrs r]

theorem run_storeCells_of {b : Nat} {T : TypeId} {fr : Nat × Nat} {C : Array Value → List HP} (hU : ∀ c c' : Array Value, Upd (C c) b (.cells c T fr) (.cells c' T fr) (C c')) :
    ∀ (l : List Value) (off i : Nat) (c : Array Value) (w : World), Sat w0 w (C c) → off + i + l.length ≤ c.size → (∀ v ∈ l, v.oneCell' = true) → (fr.2 ≤ off + i ∨ off + i + l.length ≤ fr.1) →
      ∃ w', (storeCells ⟨b, off, none⟩ l i).run P w = .ok () w' ∧ Sat w0 w' (C (wrs c (off + i) l))
  | [], off, i, c, w, hs, _, _, _ => ⟨w, by simp [storeCells], by simpa [wrs] using hs⟩
  | v :: l, off, i, c, w, hs, hle, h1, hfr => by
    simp only [List.length_cons] at hle hfr
    have hst := run_store_of (P := P) (off := off + i) (v := v) hs (hU c (c.setIfInBounds (off + i) v)) (by omega) (by simp; omega) (h1 v (by simp))
    have hs' : Sat w0 (w.setCell ⟨b, off + i, none⟩ v) (C (c.setIfInBounds (off + i) v)) := hs.setCell (hU c _)
    obtain ⟨w', h2, h3⟩ := run_storeCells_of hU l off (i + 1) _ _ hs' (by simp; omega) (fun u hu => h1 u (by simp [hu])) (by omega)
    refine ⟨w', ?_, h3⟩
    simp only [storeCells, Sem.run_bind, addr_add, hst, Result.andThen_ok, h2]

/-- In L block b is cells, and may be turned. -/
class Cell (L : List HP) (b : Nat) (T : outParam TypeId) (fr : outParam (Nat × Nat)) (c : outParam (Array Value)) (C : outParam (Array Value → List HP)) : Prop where
  here : L = C c
  upd : ∀ c c' : Array Value, Upd (C c) b (.cells c T fr) (.cells c' T fr) (C c')
instance Cell.head {b : Nat} {T : TypeId} {fr : Nat × Nat} {c : Array Value} {L : List HP} : Cell (pt b (.cells c T fr) :: L) b T fr c (fun c => pt b (.cells c T fr) :: L) := ⟨rfl, fun _ _ => Upd.here⟩
instance (priority := low) Cell.tail {b : Nat} {T : TypeId} {fr : Nat × Nat} {c : Array Value} {p : HP} {L : List HP} {C : Array Value → List HP} [h : Cell L b T fr c C] : Cell (p :: L) b T fr c (fun c => p :: C c) :=
  ⟨congrArg (p :: ·) h.here, fun c c' => Upd.there (h.upd c c')⟩

theorem Cell.reads {b : Nat} {T : TypeId} {fr : Nat × Nat} {c : Array Value} {L : List HP} {C : Array Value → List HP} (h : Cell L b T fr c C) : Reads L b (.cells c T fr) := by
  have := (h.upd c c).reads
  rwa [← h.here] at this

theorem W_store1 {t : TypeId} {x y : Operand} {b off : Nat} {c : Array Value} {T : TypeId} {fr : Nat × Nat} {v : Value} {C : Array Value → List HP} [hz : SizeC P t 1] (hx : evO env x = some (.pointer (some ⟨b, off, none⟩)))
    (hy : evO env y = some v) (hc : Cell L b T fr c C) (h1 : v.oneCell' = true) (hlt : off < c.size) (hfr : (fr.1 ≤ off && off < fr.2) = false) :
    OpW P w0 nt L env (.store t x y) ty (fun u L2 => u = undef ∧ L2 = C (c.setIfInBounds off v)) := by
  obtain rfl := hc.here
  exact W_store hx hy h1 (hc.upd _ _) hlt hfr

theorem W_storeA {t : TypeId} {x y : Operand} {b off n : Nat} {c vs : Array Value} {T : TypeId} {fr : Nat × Nat} {C : Array Value → List HP} [hz : SizeC P t n] (hx : evO env x = some (.pointer (some ⟨b, off, none⟩)))
    (hy : evO env y = some (.agg vs)) (hc : Cell L b T fr c C) (hn : vs.size = n) (h1 : ∀ v ∈ vs.toList, v.oneCell' = true) (hlt : off + n ≤ c.size) (hfr : fr.2 ≤ off ∨ off + n ≤ fr.1) :
    OpW P w0 nt L env (.store t x y) ty (fun u L2 => u = undef ∧ L2 = C (wrs c off vs.toList)) := .mk fun o ho _ a hr w hs => by
  rw [hc.here] at hs
  obtain ⟨w', h2, h3⟩ := run_storeCells_of (P := P) hc.upd vs.toList off 0 c w hs (by simpa [hn] using hlt) h1 (by simpa [hn] using hfr)
  refine ⟨_, w', _, .inr ⟨rfl, ?_⟩, h3, rfl, rfl⟩
  simp only [execOp, ho, Instr.storeAt, Instr.sureAddr, hr.eval hx, hr.eval hy, storeVar, Value.cells, Sem.run_bind, Sem.run_pure, Result.andThen_ok, hz.h, hn, ne_eq, not_true_eq_false, if_false, h2]

end
end Go.SL
