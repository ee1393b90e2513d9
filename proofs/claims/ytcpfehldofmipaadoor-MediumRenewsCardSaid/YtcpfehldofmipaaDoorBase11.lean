/-
  OWN BASE, PART 11: maps of the call's own, by what they answer.
-/
import Derived.Test.YtcpfehldofmipaaDoorBase10
import Derived.MapKept
namespace Go.SL
open Go Go.MapKept

/-- Block r is a map whose keys are of type d; asked for a key it answers f. -/
def mp (d : TypeDesc) (r : Nat) (f : Value → Option Value) : HP := fun h => ∃ es clock, h r = some (.map es clock) ∧ (∀ x ∈ es.toList, IsKey d x.key) ∧ (es.toList.map (·.key)).Nodup ∧
  ∀ k v, (∃ x ∈ es.toList, x.key = k ∧ x.val = v) ↔ f k = some v

theorem mp_open {d : TypeDesc} {r : Nat} {f : Value → Option Value} {F : List HP} {h : Hp} (H : Own (mp d r f :: F) h) : ∃ es clock, Own (pt r (.map es clock) :: F) h ∧ (∀ x ∈ es.toList, IsKey d x.key) ∧ (es.toList.map (·.key)).Nodup ∧
    ∀ k v, (∃ x ∈ es.toList, x.key = k ∧ x.val = v) ↔ f k = some v := by
  obtain ⟨p, q, hs, ⟨es, clock, h1, h2, h3, h4⟩, hF⟩ := own_cons.1 H
  exact ⟨es, clock, own_cons.2 ⟨p, q, hs, pt_iff.2 h1, hF⟩, h2, h3, h4⟩
theorem Ent.mp_close {d : TypeDesc} {r clock : Nat} {f : Value → Option Value} {F : List HP} {es : Array MapEntry} (h2 : ∀ x ∈ es.toList, IsKey d x.key) (h3 : (es.toList.map (·.key)).Nodup)
    (h4 : ∀ k v, (∃ x ∈ es.toList, x.key = k ∧ x.val = v) ↔ f k = some v) : Ent (pt r (.map es clock) :: F) (mp d r f :: F) := Ent.mk fun _ H => by
  obtain ⟨p, q, hs, hp, hF⟩ := own_cons.1 H
  exact own_cons.2 ⟨p, q, hs, ⟨es, clock, pt_iff.1 hp, h2, h3, h4⟩, hF⟩
theorem Ent.mp_empty {d : TypeDesc} {r : Nat} {F : List HP} : Ent (pt r (.map #[] 0) :: F) (mp d r (fun _ => none) :: F) := Ent.mp_close (by simp) (by simp) (by simp)

/-- the map r, found by instance -/
class MpC (L : List HP) (r : Nat) (d : outParam TypeDesc) (f : outParam (Value → Option Value)) : Prop where
  h : ∀ h, Own L h → ∃ es clock, h r = some (.map es clock) ∧ (∀ x ∈ es.toList, IsKey d x.key) ∧ ∀ k v, (∃ x ∈ es.toList, x.key = k ∧ x.val = v) ↔ f k = some v
instance MpC.head {d : TypeDesc} {r : Nat} {f : Value → Option Value} {L : List HP} : MpC (mp d r f :: L) r d f := ⟨fun h H => by
  obtain ⟨es, clock, h1, h2, _, h4⟩ := mp_open H
  exact ⟨es, clock, Reads.own Reads.here h1, h2, h4⟩⟩
instance (priority := low) MpC.tail {d : TypeDesc} {r : Nat} {f : Value → Option Value} {p : HP} {L : List HP} [h : MpC L r d f] : MpC (p :: L) r d f := ⟨fun g H => by
  obtain ⟨a, b, hs, _, hL⟩ := own_cons.1 H
  obtain ⟨es, clock, h1, h2⟩ := h.h b hL
  have h3 := hs r
  rcases hL' : a r with _ | o
  · exact ⟨es, clock, by simp_all, h2⟩
  · exact ⟨es, clock, by simp_all, h2⟩⟩

section
variable {P : Program} {w0 : World} {nt : Nat} {L F : List HP} {env : Env} {ty : TypeId}

theorem find_of {d : TypeDesc} {es : List MapEntry} {f : Value → Option Value} {k : Value} (hk : IsKey d k) (h2 : ∀ x ∈ es, IsKey d x.key) (h4 : ∀ k v, (∃ x ∈ es, x.key = k ∧ x.val = v) ↔ f k = some v) :
    (f k = none → Instr.findNow d k es 0 = some none) ∧ ∀ v, f k = some v → ∃ j, Instr.findNow d k es 0 = some (some (j, v)) ∧ ∃ e, es[j]? = some e ∧ e.key = k := by
  rcases findNow_spec hk es 0 h2 with ⟨h1, hn⟩ | ⟨j, e, h1, he, hek⟩
  · refine ⟨fun _ => h1, fun v hv => ?_⟩
    obtain ⟨x, hx, hxk, _⟩ := (h4 k v).2 hv
    exact absurd hxk (hn x hx)
  · have hf : f k = some e.val := (h4 k e.val).1 ⟨e, List.mem_of_getElem? he, hek, rfl⟩
    refine ⟨fun h => absurd (hf.symm.trans h) (by simp), fun v hv => ?_⟩
    rw [hf] at hv
    obtain rfl := Option.some.inj hv
    exact ⟨j, by rw [h1, Nat.zero_add], e, he, hek⟩

theorem R_lookup_yes {t kt et : TypeId} {d d' : TypeDesc} {x i : Operand} {r : Nat} {k v : Value} {f : Value → Option Value} [hm : Und P t (.map kt et)] [hd : Und P kt d] (hx : evO env x = some (.map (some r))) (hi : evO env i = some k)
    (hc : MpC L r d' f) (he : d' = d) (hk : IsKey d k) (hv : f k = some v) : OpR P w0 nt L env (.lookup t x i true) ty (.tuple #[v, .bool true]) := .mk fun o ho _ a hr w hs => by
  subst he
  obtain ⟨es, clock, h1, h2, h4⟩ := hc.h _ hs.own
  obtain ⟨j, h5, _⟩ := (find_of hk h2 h4).2 v hv
  simp [execOp, ho, Instr.lookup, hr.eval hx, hr.eval hi, run_underlying hm.h, MapKept.run_getObj_map h1, MapKept.run_checkKey hd.h hk, MapKept.run_findKey hd.h h5]
theorem R_lookup_no {t kt et : TypeId} {d d' : TypeDesc} {x i : Operand} {r : Nat} {k z : Value} {f : Value → Option Value} [hm : Und P t (.map kt et)] [hd : Und P kt d] [hz : ZeroC P et z] (hx : evO env x = some (.map (some r))) (hi : evO env i = some k)
    (hc : MpC L r d' f) (he : d' = d) (hk : IsKey d k) (hv : f k = none) : OpR P w0 nt L env (.lookup t x i true) ty (.tuple #[z, .bool false]) := .mk fun o ho _ a hr w hs => by
  subst he
  obtain ⟨es, clock, h1, h2, h4⟩ := hc.h _ hs.own
  have h5 := (find_of hk h2 h4).1 hv
  simp [execOp, ho, Instr.lookup, hr.eval hx, hr.eval hi, run_underlying hm.h, MapKept.run_getObj_map h1, MapKept.run_checkKey hd.h hk, MapKept.run_findKey hd.h h5, hz.h]

theorem W_mapUpdate {t kt et : TypeId} {d d' : TypeDesc} {x i y : Operand} {r : Nat} {k v : Value} {f : Value → Option Value} (f' : Value → Option Value) [hm : Und P t (.map kt et)] [hd : Und P kt d] (hx : evO env x = some (.map (some r))) (hi : evO env i = some k) (hy : evO env y = some v)
    (hr : Rem (mp d' r f) L F) (he : d' = d) (hk : IsKey d k) (h1 : f' k = some v) (h2 : ∀ u, u ≠ k → f' u = f u) : OpW P w0 nt L env (.mapUpdate t x i y) ty (fun u L' => u = undef ∧ L' = mp d r f' :: F) := .mk fun o ho _ a hra w hs => by
  subst he
  have hs' := hs.ent (Ent.pick hr (Ent.refl F))
  obtain ⟨es, clock, hown, hks, hnd, hsp⟩ := mp_open hs'.own
  have hs2 : Sat w0 w (pt r (.map es clock) :: F) := ⟨hs'.os, hs'.tape, hs'.output, hs'.size, hs'.drawn, hown⟩
  have hb := hs2.read Reads.here
  have setS : ∀ o', Sat w0 { w with heap := w.heap.setIfInBounds r o' } (pt r o' :: F) := fun o' => hs2.set Upd.here rfl rfl rfl rfl rfl
  rcases findNow_spec hk es.toList 0 hks with ⟨g1, g2⟩ | ⟨j, e, g1, g2, g3⟩
  · refine ⟨undef, _, _, .inr ⟨rfl, ?_⟩, (setS (.map (es.push { key := k, val := v, born := clock }) (clock + 1))).ent (Ent.mp_close ?_ ?_ ?_), rfl, rfl⟩
    · simp [execOp, ho, Instr.mapUpdate, hra.eval hx, hra.eval hi, hra.eval hy, run_underlying hm.h, MapKept.run_getObj_map hb, MapKept.run_checkKey hd.h hk, MapKept.run_findKey hd.h g1, MapKept.run_setObj_map _ hb]
    · intro z hz
      simp only [Array.toList_push, List.mem_append, List.mem_singleton] at hz
      rcases hz with hz | rfl
      · exact hks z hz
      · exact hk
    · simp only [Array.toList_push, List.map_append, List.map_cons, List.map_nil]
      refine List.nodup_append.2 ⟨hnd, by simp, ?_⟩
      intro p hp q hq
      simp only [List.mem_singleton] at hq
      subst hq
      obtain ⟨z, hz, rfl⟩ := List.mem_map.1 hp
      exact g2 z hz
    · intro u c
      simp only [Array.toList_push, List.mem_append, List.mem_singleton]
      by_cases hu : u = k
      · subst hu
        rw [h1]
        constructor
        · rintro ⟨z, hz | rfl, hzk, rfl⟩
          · exact absurd hzk (g2 z hz)
          · rfl
        · intro h; exact ⟨_, .inr rfl, rfl, Option.some.inj h⟩
      · rw [h2 u hu, ← hsp]
        constructor
        · rintro ⟨z, hz | rfl, hzk, hzv⟩
          · exact ⟨z, hz, hzk, hzv⟩
          · exact absurd hzk.symm hu
        · rintro ⟨z, hz, h⟩; exact ⟨z, .inl hz, h⟩
  · have hj : es[j]? = some e := by simpa using g2
    refine ⟨undef, _, _, .inr ⟨rfl, ?_⟩, (setS (.map (es.modify j fun e => { e with key := k, val := v }) clock)).ent (Ent.mp_close ?_ ?_ ?_), rfl, rfl⟩
    · simp [execOp, ho, Instr.mapUpdate, hra.eval hx, hra.eval hi, hra.eval hy, run_underlying hm.h, MapKept.run_getObj_map hb, MapKept.run_checkKey hd.h hk, MapKept.run_findKey hd.h g1, hj, g3, MapKept.run_keyThatStays hk, MapKept.run_setObj_map _ hb]
    · exact isKey_modify hks _ _ fun e' he' => by rw [hj] at he'; cases he'; exact g3.symm
    · rw [modify_keys _ _ fun e' he' => by rw [hj] at he'; cases he'; exact g3.symm]; exact hnd
    · intro u c
      have hmod : ∀ z, z ∈ (es.modify j fun e => { e with key := k, val := v }).toList ↔ ∃ i, (es.modify j fun e => { e with key := k, val := v })[i]? = some z := fun z => by
        rw [List.mem_iff_getElem?]; simp only [Array.getElem?_toList]; exact Iff.rfl
      have hmem : ∀ z, z ∈ es.toList ↔ ∃ i, es[i]? = some z := fun z => by
        rw [List.mem_iff_getElem?]; simp only [Array.getElem?_toList]; exact Iff.rfl
      simp only [hmod, Array.getElem?_modify]
      by_cases hu : u = k
      · subst hu
        rw [h1]
        constructor
        · rintro ⟨z, ⟨i, hi2⟩, hzk, rfl⟩
          by_cases hij : j = i
          · subst hij
            rw [if_pos rfl, hj] at hi2
            simp only [Option.map_some, Option.some.injEq] at hi2
            rw [← hi2]
          · rw [if_neg hij] at hi2
            exfalso
            have e1 : (es.toList.map (·.key))[j]? = some u := by simp [hj, g3]
            have e2 : (es.toList.map (·.key))[i]? = some u := by simp [hi2, hzk]
            have hji : j < (es.toList.map (·.key)).length := (List.getElem?_eq_some_iff.1 e1).1
            exact hij ((List.getElem?_inj hji hnd).1 (e1.trans e2.symm))
        · intro h
          obtain rfl := Option.some.inj h
          exact ⟨_, ⟨j, by rw [if_pos rfl, hj]; rfl⟩, rfl, rfl⟩
      · rw [h2 u hu, ← hsp]
        simp only [hmem]
        constructor
        · rintro ⟨z, ⟨i, hi2⟩, hzk, hzv⟩
          by_cases hij : j = i
          · subst hij
            rw [if_pos rfl, hj] at hi2
            simp only [Option.map_some, Option.some.injEq] at hi2
            subst hi2
            exact absurd hzk.symm hu
          · rw [if_neg hij] at hi2
            exact ⟨z, ⟨i, hi2⟩, hzk, hzv⟩
        · rintro ⟨z, ⟨i, hi2⟩, hzk, hzv⟩
          refine ⟨z, ⟨i, ?_⟩, hzk, hzv⟩
          have hij : ¬ j = i := by
            intro h; subst h
            rw [hj] at hi2
            obtain rfl := Option.some.inj hi2
            exact hu (hzk.symm.trans g3)
          rw [if_neg hij]; exact hi2
end
end Go.SL
