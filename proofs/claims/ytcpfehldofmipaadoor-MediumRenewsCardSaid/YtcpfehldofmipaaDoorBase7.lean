/-
  OWN BASE, PART 7: type assertions; a call that is deferred and finds nothing to recover.
-/
import Derived.Test.YtcpfehldofmipaaDoorBase6
import Derived.Defers
import Derived.Recover
namespace Go.SL
open Go

section
variable {P : Program} {w0 : World} {nt : Nat} {L F : List HP} {env : Env} {ty : TypeId} {Q : Exit → Act → World → Prop}

theorem R_assert_ok {xt t : TypeId} {x : Operand} {v : Value} [hn : NotIface P t] (hx : evO env x = some (.iface t v)) : OpR P w0 nt L env (.typeAssert x xt t true) ty (.tuple #[v, .bool true]) := .mk fun o ho _ a hr w _ => by
  obtain ⟨d, h1, h2⟩ := hn.h
  have hu : (underlying t).run P w = .ok d w := run_underlying h1 w
  cases d <;> simp_all [execOp, Instr.typeAssert, hr.eval hx]
theorem R_assert_no {xt t t' : TypeId} {x : Operand} {v z : Value} [hn : NotIface P t] [hz : ZeroC P t z] (hx : evO env x = some (.iface t' v)) (hne : Nat.beq t' t = false) :
    OpR P w0 nt L env (.typeAssert x xt t true) ty (.tuple #[z, .bool false]) := .mk fun o ho _ a hr w _ => by
  obtain ⟨d, h1, h2⟩ := hn.h
  have hu : (underlying t).run P w = .ok d w := run_underlying h1 w
  have h3 : t' ≠ t := ne_of_nbeq hne
  have h4 := hz.h w
  cases d <;> simp_all [execOp, Instr.typeAssert, hr.eval hx]
theorem R_assert {xt t : TypeId} {x : Operand} {v : Value} [hn : NotIface P t] (hx : evO env x = some (.iface t v)) : OpR P w0 nt L env (.typeAssert x xt t false) ty v := .mk fun o ho _ a hr w _ => by
  obtain ⟨d, h1, h2⟩ := hn.h
  have hu : (underlying t).run P w = .ok d w := run_underlying h1 w
  cases d <;> simp_all [execOp, Instr.typeAssert, hr.eval hx]

/-! ### deferred calls -/
theorem put_defers (a : Act) (ds : List Deferred) (d : Option Tmp) (v : Value) : Act.put { a with defers := a.defers ++ ds } d v = { a.put d v with defers := (a.put d v).defers ++ ds } := by cases d <;> rfl
theorem put_defers' (a : Act) (ds : List Deferred) (e : Deferred) (d : Option Tmp) (v : Value) : Act.put { a with defers := e :: (a.defers ++ ds) } d v = { Act.put { a with defers := e :: a.defers } d v with defers := (Act.put { a with defers := e :: a.defers } d v).defers ++ ds } := by cases d <;> rfl
theorem wpList_defers {ops : Array Oper} {Q' : Exit → Act → World → Prop} (ds : List Deferred) (hq : ∀ e a w, Q' e a w → Q e { a with defers := a.defers ++ ds } w) : ∀ (l : List Oper) (a : Act) (w : World), wpList P ops Q' l a w → wpList P ops Q l { a with defers := a.defers ++ ds } w
  | [], _, _, h => hq _ _ _ h
  | o :: l, a, w, h => by
    unfold wpList at h ⊢
    by_cases hw : Region.wanted o (yielded ops a.tmps) = true
    · rw [if_pos hw] at h
      rw [if_pos (show Region.wanted o (yielded ops a.tmps) = true from hw)]
      rcases h with h | ⟨h1, a', w', h2⟩
      · refine .inl ?_
        have ea : Act.eval { a with defers := a.defers ++ ds } = a.eval := rfl
        unfold Oper.wp at h ⊢
        rw [ea]
        generalize (execOp a.eval o).run P w = r at h
        cases r with
        | ok n w1 =>
          cases n <;> simp only [Oper.upon] at h ⊢
          case value v => rw [put_defers]; exact wpList_defers ds hq l _ w1 h
          case skip => rw [put_defers]; exact wpList_defers ds hq l _ w1 h
          case defer d => rw [put_defers']; exact wpList_defers ds hq l ({ a with defers := d :: a.defers }.put o.dst undef) w1 h
          case enter f args =>
            refine Calls.mono h fun e w2 he => ?_
            cases e with
            | returned v => simp only; rw [put_defers]; exact wpList_defers ds hq l _ w2 he
            | panicked c => exact hq _ _ _ he
            | outgrown => obtain ⟨a', w', h2⟩ := he; exact ⟨_, _, hq _ _ _ h2⟩
          case row row args => exact Rows.mono h fun v w2 he => by rw [put_defers]; exact wpList_defers ds hq l _ w2 he
        | halt x w1 => cases x <;> simp only [Oper.upon] at h ⊢ <;> first | exact hq _ _ _ h | exact h
      · exact .inr ⟨h1, _, _, hq _ _ _ h2⟩
    · rw [if_neg hw] at h
      rw [if_neg (show ¬ Region.wanted o (yielded ops a.tmps) = true from hw), put_defers]
      exact wpList_defers ds hq l _ w h

/-- What stands behind a function's body that deferred. -/
def FD (P : Program) (w0 : World) (fn : Func) (R : Value → List HP → Prop) : Exit → Act → World → Prop :=
  bodyPostD P fn fun e w' => ∃ v L', e = .returned v ∧ Sat w0 w' L' ∧ R v L'
/-- .. with the calls that were deferred ahead of the last piece -/
def QD (Q : Exit → Act → World → Prop) (ds : List Deferred) : Exit → Act → World → Prop
  | .normal, a, w => Q .ret { a with defers := a.defers ++ ds } w
  | e, a, w => Q e { a with defers := a.defers ++ ds } w

theorem tr_enter_d {f : FuncId} {fn : Func} {c : Code} {args : List Value} {R : Value → List HP → Prop} (hf : P.funcs[f]? = some fn) (hb : fn.body = some c) (hn : fn.ntmps = nt) (hle : Nat.ble args.length nt = true)
    (h : ∀ w0, SW P w0 nt L (argsE 0 args) c (FD P w0 fn R)) : Tr P f args.toArray L R := .mk fun w0 w hs => by
  have hle' : args.length ≤ nt := by simpa using hle
  refine calls_of_wp_defers hf hb ((h w0).h w _ hs ⟨rfl, by simp [hn]; omega, fun t v hv => ?_⟩)
  obtain ⟨_, h2⟩ := argsE_get args 0 t v hv
  have hlt : t < args.length := by
    rcases Nat.lt_or_ge t args.length with h' | h'
    · exact h'
    · simp [List.getElem?_eq_none h'] at h2
  rw [Array.getElem?_append_left (by simpa using hlt)]
  simpa using h2

/-- 'defer func() { .. }()', one variable captured, and one more piece behind it -/
theorem sw_defer1 {i j : Nat} {t : Tmp} {g : FuncId} {x : Operand} {u : Value} {t1 t2 : TypeId} {p1 p2 : String} {a1 a2 : Array Edge} {l : List Oper} (hx : evO env x = some u) (ht : dstOk nt (some t) = true)
    (h : SWL P w0 nt L (putE env (some t) (.func (.func g) #[] #[u])) l.toArray l (QD Q [{ target := .fn (.func g) #[u], args := #[] }])) :
    SW P w0 nt L env ((Code.region i #[⟨some t, .makeFunc (.func g) #[] #[x], t1, p1, a1, none⟩, ⟨none, .defer ⟨.value (.tmp t), #[], #[]⟩, t2, p2, a2, none⟩] false).seq ((Code.region j l.toArray false).seq .ret)) Q := .mk fun w a hs hr => by
  refine wp_seq (wp_region_lit (l := [_, _]) ?_)
  have hr1 : Rel nt (putE env (some t) (.func (.func g) #[] #[u])) (a.put (some t) (.func (.func g) #[] #[u])) := hr.put ht _
  have hev : (a.put (some t) (.func (.func g) #[] #[u])).eval (.tmp t) = .func (.func g) #[] #[u] := hr1.eval (x := .tmp t) (by simp [evO, putE, Env.get])
  unfold wpList
  rw [if_pos (by simp [Region.wanted])]
  refine .inl ?_
  simp only [Oper.wp, execOp, Instr.makeFunc, List.map_toArray, List.map_cons, List.map_nil, hr.eval hx, Sem.run_bind, Sem.run_pure, Result.andThen_ok, Oper.upon]
  unfold wpList
  rw [if_pos (by simp [Region.wanted])]
  refine .inl ?_
  simp only [Oper.wp, execOp, resolve, hev, Deferred.ofValue, List.map_toArray, List.map_nil, Sem.run_bind, Sem.run_pure, Result.andThen_ok, Oper.upon]
  have hd : (a.put (some t) (.func (.func g) #[] #[u])).defers = [] := hr1.defers
  refine wp_seq (wp_region_lit ?_)
  have h2 := wpList_defers (P := P) (ops := l.toArray) (Q := Exit.then (Code.ret.wp P Q) Q) [{ target := .fn (.func g) #[u], args := #[] }] (fun e a w hq => by cases e <;> first | exact wp_ret hq | exact hq) l (a.put (some t) (.func (.func g) #[] #[u])) w (h.h w _ hs hr1)
  rw [hd] at h2
  rw [hd]
  exact h2

/-- The way out, where the deferred call finds nothing to recover. -/
theorem sx_leave1 {fn : Func} {R : Value → List HP → Prop} {v u : Value} {g : FuncId} [hc : CallC P g] (hg : ∀ w, CallsD P g #[u] .returning w fun e u' w' => e = .returned (.tuple #[]) ∧ u' = .returning ∧ w' = w)
    (hres : ∀ a w, Rel nt env a → Sat w0 w L → (results fn a.tmps).run P w = .ok v w) (L' : List HP) (hR : R v L') (he : Ent L L') :
    SX w0 nt L env .normal (QD (FD P w0 fn R) [{ target := .fn (.func g) #[u], args := #[] }]) := .mk fun w a hs hr => by
  have hd : a.defers = [] := hr.defers
  show Leaves P fn a.tmps _ (a.defers ++ _) .returning w
  rw [hd, List.nil_append]
  refine leaves_cons (f := g) (args := #[u]) (by simp) (by simp [invoke, hc.h]) ?_
  refine (hg w).mono ?_
  rintro e u' w'' ⟨rfl, rfl, rfl⟩
  exact ⟨v, hres a w'' hr hs, v, L', rfl, hs.ent he, hR⟩

/-! ### results that lie in cells -/
theorem ResOne.cell1 {r b : Nat} {t : TypeId} {off : Nat} {c : Array Value} {T : TypeId} {fr : Nat × Nat} {v : Value} [hg : AggC P t false] (hx : env.get r = some (.pointer (some ⟨b, off, none⟩))) (hb : ReadC L b (.cells c T fr)) (hv : lget c.toList off = some v) :
    ResOne P w0 nt L env (.cell r t) v := .mk fun a w hr hs => by
  have e2 := hs.read hb.h
  have e5 : c[off]? = some v := by rw [lget_eq] at hv; simpa using hv
  simp only [resSem, Array.getD_eq_getD_getElem?, hr.get r _ hx, Option.getD_some, asAddr, loadVar, Sem.run_bind, Sem.run_pure, hg.h, Result.andThen_ok, Bool.false_eq_true, if_false, run_load, cell?_of e2, e5]
theorem ResOne.cellA {r b n : Nat} {t : TypeId} {c : Array Value} {T : TypeId} {fr : Nat × Nat} [hg : AggC P t true] [hz : SizeC P t n] (hx : env.get r = some (.pointer (some ⟨b, 0, none⟩))) (hb : ReadC L b (.cells c T fr)) (hn : Nat.beq c.toList.length n = true) :
    ResOne P w0 nt L env (.cell r t) (.agg c) := .mk fun a w hr hs => by
  have e2 := hs.read hb.h
  have h : c.size = n := by simpa using hn
  have e4 : c.extract 0 (0 + n) = c := by simp [← h]
  simp only [resSem, Array.getD_eq_getD_getElem?, hr.get r _ hx, Option.getD_some, asAddr, loadVar, Sem.run_bind, Sem.run_pure, hg.h, hz.h, Result.andThen_ok, if_true, run_loadCells_of e2 (show 0 + n ≤ c.size by omega), e4]
end
end Go.SL
