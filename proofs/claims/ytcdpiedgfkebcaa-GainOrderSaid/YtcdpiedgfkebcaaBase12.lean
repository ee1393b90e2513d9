/-
  OWN BASE, PART 12: a map asked for one answer alone; the sign turned.
-/
import Derived.Test.YtcdpiedgfkebcaaBase11
namespace Go.SL
open Go Go.MapKept
section
variable {P : Program} {w0 : World} {nt : Nat} {L F : List HP} {env : Env} {ty : TypeId}
theorem R_lookup1_yes {t kt et : TypeId} {d d' : TypeDesc} {x i : Operand} {r : Nat} {k v : Value} {f : Value → Option Value} [hm : Und P t (.map kt et)] [hd : Und P kt d] (hx : evO env x = some (.map (some r))) (hi : evO env i = some k)
    (hc : MpC L r d' f) (he : d' = d) (hk : IsKey d k) (hv : f k = some v) : OpR P w0 nt L env (.lookup t x i false) ty v := .mk fun o ho _ a hr w hs => by
  subst he
  obtain ⟨es, clock, h1, h2, h4⟩ := hc.h _ hs.own
  obtain ⟨j, h5, _⟩ := (find_of hk h2 h4).2 v hv
  simp [execOp, ho, Instr.lookup, hr.eval hx, hr.eval hi, run_underlying hm.h, MapKept.run_getObj_map h1, MapKept.run_checkKey hd.h hk, MapKept.run_findKey hd.h h5]
theorem R_lookup1_no {t kt et : TypeId} {d d' : TypeDesc} {x i : Operand} {r : Nat} {k z : Value} {f : Value → Option Value} [hm : Und P t (.map kt et)] [hd : Und P kt d] [hz : ZeroC P et z] (hx : evO env x = some (.map (some r))) (hi : evO env i = some k)
    (hc : MpC L r d' f) (he : d' = d) (hk : IsKey d k) (hv : f k = none) : OpR P w0 nt L env (.lookup t x i false) ty z := .mk fun o ho _ a hr w hs => by
  subst he
  obtain ⟨es, clock, h1, h2, h4⟩ := hc.h _ hs.own
  have h5 := (find_of hk h2 h4).1 hv
  simp [execOp, ho, Instr.lookup, hr.eval hx, hr.eval hi, run_underlying hm.h, MapKept.run_getObj_map h1, MapKept.run_checkKey hd.h hk, MapKept.run_findKey hd.h h5, hz.h]
end
end Go.SL
