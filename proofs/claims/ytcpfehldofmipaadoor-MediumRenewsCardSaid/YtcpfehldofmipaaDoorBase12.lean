/-
  OWN BASE, PART 12: a map asked for one answer alone; the sign turned.
-/
import Derived.Test.YtcpfehldofmipaaDoorBase11
namespace Go.SL
open Go Go.MapKept
section
variable {P : Program} {w0 : World} {nt : Nat} {L F : List HP} {env : Env} {ty : TypeId}
theorem R_lookup1_yes {t kt et : TypeId} {d d' : TypeDesc} {x i : Operand} {r : Nat} {k v : Value} {f : Value → Option Value} [hm : Und P t (.map kt et)] [hd : Und P kt d] (hx : evO env x = some (.map (some r))) (hi : evO env i = some k)
    (hc : MpC L r d' f) (he : d' = d) (hk : IsKey d k) (hv : f k = some v) : OpR P w0 nt L env (.lookup t x i false) ty v := .mk fun o ho _ a hr w hs => by
  subst he
  obtain ⟨es, clock, h1, h2, h4⟩ := hc.h _ hs.own
  obtain ⟨j, h5, _⟩ := (find_of hk h2 h4).2 v hv
  simp [execOp, ho, Instr.lookup, hr.eval hx, hr.eval hi, run_underlying hm.h, MapKept.run_getObj_map h1, MapKept.run_checkKey hd.h hk, MapKept.run_findKey hd.h h5]
theorem R_lookup1_no {t kt et : TypeId} {d d' : TypeDesc} {x i : Operand} {r : Nat} {k z : Value} {f : Value → Option Value} [hm : Und P t (.map kt et)] [hd : Und P kt d] [hz : ZeroC P et z] (hx : evO env x = some (.map (some r))) (hi : evO env i = some k)
    (hc : MpC L r d' f) (he : d' = d) (hk : IsKey d k) (hv : f k = none) : OpR P w0 nt L env (.lookup t x i false) ty z := .mk fun o ho _ a hr w hs => by
  subst he
  obtain ⟨es, clock, h1, h2, h4⟩ := hc.h _ hs.own
  have h5 := (find_of hk h2 h4).1 hv
  simp [execOp, ho, Instr.lookup, hr.eval hx, hr.eval hi, run_underlying hm.h, MapKept.run_getObj_map h1, MapKept.run_checkKey hd.h hk, MapKept.run_findKey hd.h h5, hz.h]
theorem R_pred64 {t t' : TypeId} {x y : Operand} {k : Nat} (hx : evO env x = some (.int .i64 ((k + 1 : Nat) : Int))) (hy : evO env y = some (.int .i64 1)) (h : k ≤ 9223372036854775806) : OpR P w0 nt L env (.binOp .sub t x y t') ty (.int .i64 (k : Int)) := by
  have := R_sub64 (P := P) (w0 := w0) (nt := nt) (L := L) (env := env) (ty := ty) (t := t) (t' := t') hx hy (by omega)
  rwa [show ((k + 1 : Nat) : Int) - 1 = (k : Int) by omega] at this
end
end Go.SL
