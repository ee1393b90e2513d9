/-
  OWN BASE, PART 19: pointers against nil; texts against one another.
-/
import Derived.Test.YtcpfehldofmipaaDoorBase18
import Derived.Laws.Pointers
namespace Go.SL
open Go
/-- taking a part out, by instance: it fails cleanly -/
class RemC (p : HP) (L : List HP) (L' : outParam (List HP)) : Prop where
  h : Rem p L L'
instance RemC.here {p : HP} {L : List HP} : RemC p (p :: L) L := ⟨Rem.here⟩
instance (priority := low) RemC.there {p q : HP} {L L' : List HP} [h : RemC p L L'] : RemC p (q :: L) (q :: L') := ⟨Rem.there h.h⟩
theorem Ent.pickC {p : HP} {L L1 L' : List HP} (h : RemC p L L1) (k : Ent L1 L') : Ent L (p :: L') := Ent.pick h.h k
section
variable {P : Program} {w0 : World} {nt : Nat} {L F : List HP} {env : Env} {ty : TypeId}
theorem R_eql_nil {t t' e : TypeId} {x y : Operand} {p : Option Addr} [hu : Und P t (.pointer e)] (hx : evO env x = some (.pointer p)) (hy : evO env y = some (.pointer none)) : OpR P w0 nt L env (.binOp .eql t x y t') ty (.bool p.isNone) := .mk fun o ho _ s hr w _ => by
  have h : P.underlying t = some (.pointer (P.pointee t)) := by simp [Program.pointee, hu.h]
  simp [execOp, ho, hr.eval hx, hr.eval hy, eqGuard_at_pointer, run_eql_pointer_nil w t p h]
theorem R_neq_nil {t t' e : TypeId} {x y : Operand} {p : Option Addr} [hu : Und P t (.pointer e)] (hx : evO env x = some (.pointer p)) (hy : evO env y = some (.pointer none)) : OpR P w0 nt L env (.binOp .neq t x y t') ty (.bool !p.isNone) := .mk fun o ho _ s hr w _ => by
  have h : P.underlying t = some (.pointer (P.pointee t)) := by simp [Program.pointee, hu.h]
  simp [execOp, ho, hr.eval hx, hr.eval hy, eqGuard_at_pointer, run_neq_pointer_nil w t p h]
theorem R_eql_str {t t' : TypeId} {x y : Operand} {a b : ByteArray} (hx : evO env x = some (.string a)) (hy : evO env y = some (.string b)) : OpR P w0 nt L env (.binOp .eql t x y t') ty (.bool (a.toList == b.toList)) := .mk fun o ho _ s hr w _ => by
  simp [execOp, ho, hr.eval hx, hr.eval hy, eqGuard_at_string, Go.binOp, Op.stringOp]
theorem R_neq_str {t t' : TypeId} {x y : Operand} {a b : ByteArray} (hx : evO env x = some (.string a)) (hy : evO env y = some (.string b)) : OpR P w0 nt L env (.binOp .neq t x y t') ty (.bool (!(a.toList == b.toList))) := .mk fun o ho _ s hr w _ => by
  simp [execOp, ho, hr.eval hx, hr.eval hy, eqGuard_at_string, Go.binOp, Op.stringOp, bne]
theorem R_eql_str1 {t t' : TypeId} {x y : Operand} {a b : ByteArray} (hx : evO env x = some (.string a)) (hy : evO env y = some (.string b)) (h : a = b) : OpR P w0 nt L env (.binOp .eql t x y t') ty (.bool true) := by
  have := R_eql_str (P := P) (w0 := w0) (nt := nt) (L := L) (ty := ty) (t := t) (t' := t') hx hy
  subst h; simpa using this
theorem R_neq_str1 {t t' : TypeId} {x y : Operand} {a b : ByteArray} (hx : evO env x = some (.string a)) (hy : evO env y = some (.string b)) (h : a = b) : OpR P w0 nt L env (.binOp .neq t x y t') ty (.bool false) := by
  have := R_neq_str (P := P) (w0 := w0) (nt := nt) (L := L) (ty := ty) (t := t) (t' := t') hx hy
  subst h; simpa using this
theorem res4 {fn : Func} {r1 r2 r3 r4 : ResultVar} {v1 v2 v3 v4 : Value} (hf : fn.results = #[r1, r2, r3, r4]) (h1 : ResOne P w0 nt L env r1 v1) (h2 : ResOne P w0 nt L env r2 v2) (h3 : ResOne P w0 nt L env r3 v3) (h4 : ResOne P w0 nt L env r4 v4) (a : Act) (w : World) (hr : Rel nt env a) (hs : Sat w0 w L) :
    (results fn a.tmps).run P w = .ok (.tuple #[v1, v2, v3, v4]) w := by
  simp [results_eq, hf, h1.h a w hr hs, h2.h a w hr hs, h3.h a w hr hs, h4.h a w hr hs]
theorem res5 {fn : Func} {r1 r2 r3 r4 r5 : ResultVar} {v1 v2 v3 v4 v5 : Value} (hf : fn.results = #[r1, r2, r3, r4, r5]) (h1 : ResOne P w0 nt L env r1 v1) (h2 : ResOne P w0 nt L env r2 v2) (h3 : ResOne P w0 nt L env r3 v3) (h4 : ResOne P w0 nt L env r4 v4) (h5 : ResOne P w0 nt L env r5 v5) (a : Act) (w : World) (hr : Rel nt env a) (hs : Sat w0 w L) :
    (results fn a.tmps).run P w = .ok (.tuple #[v1, v2, v3, v4, v5]) w := by
  simp [results_eq, hf, h1.h a w hr hs, h2.h a w hr hs, h3.h a w hr hs, h4.h a w hr hs, h5.h a w hr hs]
end
end Go.SL
