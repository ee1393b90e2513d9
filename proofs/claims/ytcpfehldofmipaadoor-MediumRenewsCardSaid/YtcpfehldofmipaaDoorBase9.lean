/-
  OWN BASE, PART 9: append of whatever slice that is read.
-/
import Derived.Test.YtcpfehldofmipaaDoorBase8
namespace Go.SL
open Go

section
variable {P : Program} {w0 : World} {nt : Nat} {L F : List HP} {env : Env} {ty : TypeId}

theorem run_append_none {t e k bytes : Nat} {p q : Option Addr} {n cap c : Nat} {w : World} [hu : Und P t (.slice e)] [he : ElemC P e k bytes] (hn : n ≤ cap) :
    (Builtin.append_ #[t, t] ty #[.slice q n cap, .slice p 0 c]).run P w = .ok (.slice q n cap) w := by
  obtain ⟨i, z, hi, rfl, rfl, hz, hzs, hk⟩ := he.h
  cases p <;> cases q <;> simp [Builtin.append_, run_underlying hu.h, sizeOf, typeInfo, hi, Builtin.lenOf, Builtin.firstCells, loadCells, loadCellsFrom, storeCells, hn]

/-- append to a row of the call's own, of whatever slice that is read -/
theorem W_appendA {t e k bytes c m : Nat} {x y : Operand} {els news : List (Array Value)} {v : Value} {p : Option Addr} [Und P t (.slice e)] [ElemC P e k bytes]
    (hx : evO env x = some v) (hy : evO env y = some (.slice p m c)) (hr : Rem (vec e k els v) L F) (hb : SlC F p k m c news)
    (hk : ∀ x ∈ news, x.size = k) (h1 : ∀ x ∈ news, ∀ u ∈ x.toList, u.oneCell' = true) (hbytes : (els.length + m) * bytes ≤ 140737488355328 ∧ els.length + m ≤ 140737488355328) :
    OpW P w0 nt L env (.call ⟨.builtin .append, #[x, y], #[t, t]⟩) ty (fun v' L' => L' = vec e k (els ++ news) v' :: F) := by
  rcases Nat.eq_zero_or_pos m with rfl | hm
  · refine .mk fun o ho hty a ha w hs => ?_
    obtain rfl : news = [] := List.eq_nil_of_length_eq_zero hb.len
    have hs' := hs.ent hr.ent
    obtain ⟨q, cap, rfl, hq⟩ := vec_fact hs'.own
    refine ⟨_, w, _, .inl ?_, hs', by rw [List.append_nil]⟩
    simp only [execOp, ho, resolve, invoke, builtin, Sem.run_bind, Sem.run_pure, Result.andThen_ok, List.map_toArray, List.map_cons, List.map_nil, ha.eval hx, ha.eval hy, run_append_none (P := P) (t := t) (e := e) (k := k) (bytes := bytes) hq.le]
  · obtain ⟨b, off, rfl⟩ := hb.ptr hm
    exact W_appendS hx hy hr hb hk h1 hbytes
end
end Go.SL
