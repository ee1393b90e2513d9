/-
  OWN BASE, PART 18: one element whose size is told, built and appended.
-/
import Derived.Test.YtcpfehldofmipaaDoorBase17
namespace Go.SL
open Go
section
variable {P : Program} {w0 : World} {nt : Nat} {L F : List HP} {env : Env} {ty : TypeId}
theorem W_buildSlice1S {t e : TypeId} {n : Nat} {x : Operand} {cs : Array Value} {z : Value} [hu : Und P t (.slice e)] [hz : SizeC P e n] [hzz : ZeroC P e z] (hx : evO env x = some (.agg cs)) (h1 : cs.size = n)
    (h0 : Nat.beq n 0 = false) (hlt : Nat.ble n 16777216 = true) :
    OpW P w0 nt L env (.buildSlice t 1 #[(0, x)]) ty (fun u L' => ∃ b, u = .slice (some ⟨b, 0, none⟩) 1 1 ∧ L' = pt b (.cells cs e) :: L) := by
  refine W_buildSlice (ps := [(0, x)]) (vs := [(0, .agg cs)]) (by simp [evP, hx]) (by simpa using hlt) (by rw [Nat.one_mul]; exact h0) ?_
  rw [Nat.one_mul]
  exact fill_one (by simp) h1
theorem W_append1S {t e k bytes c : Nat} {x y : Operand} {els : List (Array Value)} {v : Value} {b : Nat} [Und P t (.slice e)] [ElemC P e k bytes] {ca : Array Value} {T : TypeId} {fr : Nat × Nat}
    (hx : evO env x = some v) (hy : evO env y = some (.slice (some ⟨b, 0, none⟩) 1 c)) (hr : Rem (vec e k els v) L F) (hb : ReadC F b (.cells ca T fr)) (hsz : ca.size = k)
    (h1 : ∀ u ∈ ca.toList, u.oneCell' = true) (hbytes : (els.length + 1) * bytes ≤ 140737488355328 ∧ els.length + 1 ≤ 140737488355328) :
    OpW P w0 nt L env (.call ⟨.builtin .append, #[x, y], #[t, t]⟩) ty (fun v' L' => L' = vec e k (els ++ [ca]) v' :: F) := .mk fun o ho hty a ha w hs => by
  have hs' := hs.ent hr.ent
  obtain ⟨v', w', h2, h3⟩ := run_append_vec (P := P) (ty := o.type) (c := c) (t := t) (b := b) (off := 0) (news := [ca]) (m := 1) hs' rfl (fun j u hj => by
    rw [addr_add, cell?_of (hs'.read (Reads.there hb.h)), Nat.zero_add]
    simpa [flat] using hj) (by simpa using hsz) (fun u hu => h1 u (by simpa [flat] using hu)) hbytes.1 hbytes.2
  refine ⟨v', w', _, .inl ?_, h3, rfl⟩
  simp only [execOp, ho, resolve, invoke, builtin, Sem.run_bind, Sem.run_pure, Result.andThen_ok, List.map_toArray, List.map_cons, List.map_nil, ha.eval hx, ha.eval hy, h2]
theorem sw_openL {id : Nat} {l : List Oper} {Q : Exit → Act → World → Prop} (Lr : List HP) (hm : P.follows .mixedOrders = true) (hns : Region.noSelect l.toArray = true) (he : Ent L Lr)
    (h : SWG P w0 nt Lr L env l.toArray (Array.replicate l.toArray.size false) l.length Q) : SW P w0 nt L env (.region id l.toArray true) Q := .mk fun w a hs hr => by
  refine wp_region_held (S := fun w => Sat w0 w Lr) hm ?_
  have := h.h hns he w.drew a hs.drew hr
  simpa using this
theorem swh_know {Lr : List HP} {Q : Exit → Act → World → Prop} {ops : Array Oper} {listed : Array Bool} {order : List (Nat × Bool)} {φ : Prop} (hφ : ∀ h, Own L h → φ) (h : φ → SWH P w0 nt Lr L env ops listed order Q) : SWH P w0 nt Lr L env ops listed order Q := .mk fun hok hs he w a hw hr =>
  (h (hφ _ hw.own)).h hok hs he w a hw hr
end
end Go.SL
