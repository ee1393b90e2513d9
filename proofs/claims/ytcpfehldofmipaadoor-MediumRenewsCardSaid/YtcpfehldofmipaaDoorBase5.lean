/-
  OWN BASE, PART 5: slices of the call's own, which are appended to.
-/
import Derived.Test.YtcpfehldofmipaaDoorBase4
import Derived.Laws.AppendOwn
import Derived.Laws.OwnMore
namespace Go.SL
open Go

/-- What is known of an element's type. -/
class ElemC (P : Program) (e : TypeId) (size : outParam Nat) (bytes : outParam Nat) : Prop where
  h : ∃ i z, P.info? e = some i ∧ i.size = size ∧ i.bytes = bytes ∧ i.zero = some z ∧ z.cells.size = size ∧ 0 < size

theorem info_of {P : Program} {t : TypeId} {i : TypeInfo} (h : ∀ w, (typeInfo t).run P w = .ok i w) : P.info? t = some i := by
  have h := h default
  unfold typeInfo at h
  cases hi : P.info? t with
  | none => simp [hi] at h
  | some j => simp [hi] at h; rw [h]

/-- a fact found by instance -/
class Fact' (p : Prop) : Prop where
  h : p

/-- what is known of a slice's own numbers -/
class SlOK (p : Option Addr) (n cap : Nat) : Prop where
  le : n ≤ cap
  bd : n ≤ 140737488355328
  ptr : 0 < n → ∃ b off, p = some ⟨b, off, none⟩
instance lenOK_map {α : Type} {f : α → Array Value} {l : List α} : Fact' ((l.map f).length = l.length) := ⟨List.length_map ..⟩
instance lenOK_self {els : List (Array Value)} : Fact' (els.length = els.length) := ⟨rfl⟩

/-- the cells of elements -/
def flat (els : List (Array Value)) : List Value := els.flatMap Array.toList
theorem flat_append (a b : List (Array Value)) : flat (a ++ b) = flat a ++ flat b := by simp [flat]
theorem flat_length {k : Nat} : ∀ {els : List (Array Value)}, (∀ e ∈ els, e.size = k) → (flat els).length = els.length * k
  | [], _ => by simp [flat]
  | e :: r, h => by
    have h1 := h e (by simp)
    have h2 := flat_length (els := r) (fun x hx => h x (by simp [hx]))
    simp only [flat, List.flatMap_cons, List.length_append, List.length_cons] at h2 ⊢
    rw [h2, Array.length_toList, h1, Nat.add_mul]; omega
theorem flat_el {k : Nat} : ∀ {els : List (Array Value)}, (∀ e ∈ els, e.size = k) → ∀ i, i < els.length → ((flat els).drop (i * k)).take k = (els.getD i #[]).toList
  | [], _, _, h => by simp at h
  | e :: r, h, 0, _ => by
    have h1 := h e (by simp)
    simp [flat, ← h1]
  | e :: r, h, i + 1, hi => by
    have h1 := h e (by simp)
    have h2 := flat_el (els := r) (fun x hx => h x (by simp [hx])) i (by simpa using hi)
    have h3 : (flat (e :: r)).drop ((i + 1) * k) = (flat r).drop (i * k) := by
      simp only [flat, List.flatMap_cons]
      rw [show (i + 1) * k = e.toList.length + i * k by rw [Array.length_toList, h1, Nat.add_mul]; omega, ← List.drop_drop, List.drop_left]
    rw [h3, h2]; simp

/-- The slice v, of elements of type e (k cells each), in a row of its own. -/
def vec (e k : Nat) (els : List (Array Value)) (v : Value) : HP := fun h => (∀ x ∈ els, x.size = k) ∧ els.length ≤ 140737488355328 ∧
  ((v = .slice none 0 0 ∧ els = []) ∨ ∃ g cap cur, v = .slice (some ⟨g, 0, none⟩) els.length cap ∧ h g = some (.cells cur e (0, 0)) ∧ els.length ≤ cap ∧ cap ≤ maxLen ∧ cur.size = cap * k ∧ cur.toList.take (els.length * k) = flat els)

theorem vec_open {e k : Nat} {els : List (Array Value)} {v : Value} {F : List HP} {h : Hp} (H : Own (vec e k els v :: F) h) : (∀ x ∈ els, x.size = k) ∧ els.length ≤ 140737488355328 ∧
    ((v = .slice none 0 0 ∧ els = []) ∨ ∃ g cap cur, v = .slice (some ⟨g, 0, none⟩) els.length cap ∧ els.length ≤ cap ∧ cap ≤ maxLen ∧ cur.size = cap * k ∧ cur.toList.take (els.length * k) = flat els ∧ Own (pt g (.cells cur e) :: F) h) := by
  obtain ⟨p, q, hs, ⟨hl, hb, hp⟩, hF⟩ := own_cons.1 H
  refine ⟨hl, hb, ?_⟩
  rcases hp with ⟨rfl, rfl⟩ | ⟨g, cap, cur, rfl, hg, h1, h2, h3, h4⟩
  · exact .inl ⟨rfl, rfl⟩
  · exact .inr ⟨g, cap, cur, rfl, h1, h2, h3, h4, own_cons.2 ⟨p, q, hs, pt_iff.2 hg, hF⟩⟩
theorem Ent.vec_nil {e k : Nat} {F : List HP} : Ent F (vec e k [] (.slice none 0 0) :: F) := Ent.mk fun h H =>
  own_cons.2 ⟨fun _ => none, h, fun _ => .inr ⟨rfl, rfl⟩, ⟨by simp, by simp, .inl ⟨rfl, rfl⟩⟩, H⟩
theorem Ent.vec_close {e k n g cap : Nat} {cur : Array Value} {els : List (Array Value)} {F : List HP} (hk : ∀ x ∈ els, x.size = k) (hb : els.length ≤ 140737488355328) (hn : els.length = n) (h1 : n ≤ cap) (h2 : cap ≤ maxLen) (h3 : cur.size = cap * k) (h4 : cur.toList.take (n * k) = flat els) :
    Ent (pt g (.cells cur e) :: F) (vec e k els (.slice (some ⟨g, 0, none⟩) n cap) :: F) := Ent.mk fun _ H => by
  subst hn
  obtain ⟨p, q, hs, hp, hF⟩ := own_cons.1 H
  exact own_cons.2 ⟨p, q, hs, ⟨hk, hb, .inr ⟨g, cap, cur, rfl, pt_iff.1 hp, h1, h2, h3, h4⟩⟩, hF⟩
/-- Of what make the value is. -/
theorem vec_shape {e k : Nat} {els : List (Array Value)} {v : Value} {F : List HP} {h : Hp} (H : Own (vec e k els v :: F) h) : ∃ p cap, v = .slice p els.length cap := by
  obtain ⟨_, _, hp⟩ := vec_open H
  rcases hp with ⟨rfl, rfl⟩ | ⟨g, cap, cur, rfl, _⟩
  · exact ⟨none, 0, rfl⟩
  · exact ⟨_, cap, rfl⟩

theorem el_of_flat {k cap : Nat} {els : List (Array Value)} {cur : Array Value} (hk : ∀ x ∈ els, x.size = k) (hc : els.length ≤ cap) (hs : cur.size = cap * k) (ht : cur.toList.take (els.length * k) = flat els) {i : Nat} (hi : i < els.length) :
    0 + i * k + k ≤ cur.size ∧ cur.extract (0 + i * k) (0 + i * k + k) = els.getD i #[] := by
  have h1 : (i + 1) * k ≤ cap * k := Nat.mul_le_mul_right _ (by omega)
  have h2 : (i + 1) * k ≤ els.length * k := Nat.mul_le_mul_right _ (by omega)
  have h3 : (i + 1) * k = i * k + k := by rw [Nat.add_mul]; omega
  refine ⟨by omega, ?_⟩
  apply Array.ext'
  rw [← flat_el hk i hi, ← ht]
  simp only [Nat.zero_add, Array.toList_extract, List.extract_eq_take_drop, List.drop_take, List.take_take]
  congr 1; omega

section
variable {P : Program} {w0 : World} {nt : Nat} {L F : List HP} {env : Env} {ty : TypeId}

theorem setRow_sat {w : World} {g : Nat} {cur cs : Array Value} {e : TypeId} (hs : Sat w0 w (pt g (.cells cur e) :: F)) : Sat w0 (w.setRow g cs) (pt g (.cells cs e) :: F) := by
  have hg := hs.read Reads.here
  refine hs.set Upd.here rfl rfl rfl rfl ?_
  apply Array.ext_getElem?
  intro i
  by_cases hi : i = g
  · subst hi
    have hlt : i < w.heap.size := (Array.getElem?_eq_some_iff.1 hg).1
    rw [setRow_heap w i cur cs e (0, 0) hg]
    simp [hlt]
  · rw [setRow_other w g i cs hi, Array.getElem?_setIfInBounds]
    simp [Ne.symm hi]

/-- The source's cells, read where it lies. -/
theorem run_append_vec {t e k bytes m c : Nat} {els news : List (Array Value)} {v : Value} {b off : Nat} {w : World} [hu : Und P t (.slice e)] [he : ElemC P e k bytes]
    (hs : Sat w0 w (vec e k els v :: F)) (hm : news.length = m) (hcell : ∀ j u, (flat news)[j]? = some u → w.cell? ((⟨b, off, none⟩ : Addr).add j) = some u) (hkn : ∀ x ∈ news, x.size = k) (h1 : ∀ u ∈ flat news, u.oneCell' = true)
    (hbytes : (els.length + m) * bytes ≤ 140737488355328) (h63 : els.length + m ≤ 140737488355328) :
    ∃ v' w', (Builtin.append_ #[t, t] ty #[v, .slice (some ⟨b, off, none⟩) m c]).run P w = .ok v' w' ∧ Sat w0 w' (vec e k (els ++ news) v' :: F) := by
  obtain ⟨i, z, hi, rfl, rfl, hz, hzs, hk⟩ := he.h
  obtain ⟨hke, hbe, hv⟩ := vec_open hs.own
  have hl : (flat news).length = m * i.size := by rw [flat_length hkn, hm]
  have hxl : (flat els).length = els.length * i.size := flat_length hke
  have hlen : (flat els ++ flat news).length = (els.length + m) * i.size := by rw [List.length_append, hxl, hl, Nat.add_mul]
  have hka : ∀ x ∈ els ++ news, x.size = i.size := fun x hx => by rcases List.mem_append.1 hx with h | h; exact hke x h; exact hkn x h
  have hla : (els ++ news).length = els.length + m := by simp [hm]
  have grown : ∀ (A : List Value) (cp : Nat), A = flat els ++ flat news → els.length + m ≤ cp → cp ≤ maxLen → Ent (pt w.heap.size (.cells (A.toArray ++ Builtin.zeroCells z.cells (cp - (els.length + m))) e) :: F) (vec e i.size (els ++ news) (.slice (some ⟨w.heap.size, 0, none⟩) (els.length + m) cp) :: F) := by
    rintro A cp rfl h1 h2
    refine Ent.vec_close hka (by omega) hla h1 h2 ?_ ?_
    · have : (flat els ++ flat news).toArray.size = (els.length + m) * i.size := by simpa using hlen
      rw [Array.size_append, this, size_zeroCells, hzs, ← Nat.add_mul]; congr 1; omega
    · rw [Array.toList_append, ← hlen, flat_append]; exact List.take_left
  have hcm : ∀ w old, grownCap w (els.length + m) old e ≤ maxLen := fun w old => grownCap_le_maxLen w (els.length + m) old e (by unfold maxLen; omega)
  rcases hv with ⟨rfl, rfl⟩ | ⟨g, cap, cur, rfl, hnc, hcap, hcs, htake, hown⟩
  · by_cases hm0 : m = 0
    · subst hm0
      obtain rfl := List.eq_nil_of_length_eq_zero hm
      refine ⟨.slice none 0 0, w, ?_, hs⟩
      simp [Builtin.append_, run_underlying hu.h, sizeOf, typeInfo, hi, Builtin.lenOf, Builtin.firstCells, loadCells, loadCellsFrom]
    · have hr := run_append_nil (P := P) w t ty e i z hu.h hi hz ⟨b, off, none⟩ m c (flat news) hl hcell (by omega) (by omega) (by simp only [List.length_nil, Nat.zero_add] at hbytes; omega)
      refine ⟨_, _, hr, ?_⟩
      have h2 := (hs.drew.alloc (.cells ((flat news).toArray ++ Builtin.zeroCells z.cells (grownCap w m 0 e - m)) e)).ent (Ent.cons (Ent.drop (Ent.refl F)))
      have h3 := grown (flat news) (grownCap w m 0 e) (by simp [flat]) (by simpa using grownCap_ge w m 0 e) (by simpa using hcm w 0)
      simp only [List.length_nil, Nat.zero_add, List.nil_append] at h3 ⊢
      exact h2.ent h3
  · have hs' : Sat w0 w (pt g (.cells cur e) :: F) := ⟨hs.os, hs.tape, hs.output, hs.size, hs.drawn, hown⟩
    have hg := hs'.read Reads.here
    by_cases hroom : els.length + m ≤ cap
    · have hfit : els.length * i.size + (flat news).length ≤ cur.size := by rw [hl, hcs, ← Nat.add_mul]; exact Nat.mul_le_mul_right _ hroom
      have hr := run_append_room (P := P) w t ty e i hu.h hi g els.length cap cur hg ⟨b, off, none⟩ m c (flat news) hl hcell h1 hroom hfit
      refine ⟨_, _, hr, (setRow_sat hs').ent (Ent.vec_close hka (by omega) hla hroom hcap ?_ ?_)⟩
      · simp only [List.size_toArray, List.length_append, List.length_take, List.length_drop, Array.length_toList]
        omega
      · rw [htake, ← hlen, flat_append]; exact List.take_left
    · have holds : ∀ j u, (flat els)[j]? = some u → w.cell? ((⟨g, 0, none⟩ : Addr).add j) = some u := fun j u hj => by
        rw [addr_add, cell?_of hg, Nat.zero_add, ← Array.getElem?_toList]
        rw [← htake, List.getElem?_take] at hj
        split at hj
        · exact hj
        · cases hj
      have hr := run_append_grow (P := P) w t ty e i z hu.h hi hz ⟨g, 0, none⟩ els.length cap (flat els) hxl holds ⟨b, off, none⟩ m c (flat news) hl hcell (by omega) (by omega) (growslice_fits (by omega) hbytes)
      refine ⟨_, _, hr, ?_⟩
      have h2 := (hs'.drew.alloc (.cells ((flat els).toArray ++ (flat news).toArray ++ Builtin.zeroCells z.cells (grownCap w (els.length + m) cap e - (els.length + m))) e)).ent (Ent.cons (Ent.drop (Ent.refl F)))
      have h3 := grown (flat els ++ flat news) (grownCap w (els.length + m) cap e) rfl (grownCap_ge w (els.length + m) cap e) (hcm w cap)
      rw [show (flat els ++ flat news).toArray = (flat els).toArray ++ (flat news).toArray by simp] at h3
      exact h2.ent h3

/-- append to a row of the call's own, of a small row that is written out: one element -/
theorem W_append1 {t e k bytes c : Nat} {x y : Operand} {els : List (Array Value)} {v : Value} {b : Nat} [Und P t (.slice e)] [ElemC P e k bytes] {ca : Array Value} {T : TypeId} {fr : Nat × Nat}
    (hx : evO env x = some v) (hy : evO env y = some (.slice (some ⟨b, 0, none⟩) 1 c)) (hr : Rem (vec e k els v) L F) (hb : ReadC F b (.cells ca T fr)) (hle : Nat.beq ca.toList.length k = true)
    (h1 : ca.toList.all Value.oneCell' = true) (hbytes : (els.length + 1) * bytes ≤ 140737488355328 ∧ els.length + 1 ≤ 140737488355328) :
    OpW P w0 nt L env (.call ⟨.builtin .append, #[x, y], #[t, t]⟩) ty (fun v' L' => L' = vec e k (els ++ [ca]) v' :: F) := .mk fun o ho hty a ha w hs => by
  have hsz : ca.size = k := by simpa using hle
  have hs' := hs.ent hr.ent
  obtain ⟨v', w', h2, h3⟩ := run_append_vec (P := P) (ty := o.type) (c := c) (t := t) (b := b) (off := 0) (news := [ca]) (m := 1) hs' rfl (fun j u hj => by
    rw [addr_add, cell?_of (hs'.read (Reads.there hb.h)), Nat.zero_add]
    simpa [flat] using hj) (by simpa using hsz) (fun u hu => List.all_eq_true.1 h1 u (by simpa [flat] using hu)) hbytes.1 hbytes.2
  refine ⟨v', w', _, .inl ?_, h3, rfl⟩
  simp only [execOp, ho, resolve, invoke, builtin, Sem.run_bind, Sem.run_pure, Result.andThen_ok, List.map_toArray, List.map_cons, List.map_nil, ha.eval hx, ha.eval hy, h2]

/-- append of a slice that is read -/
theorem W_appendS {t e k bytes c m : Nat} {x y : Operand} {els news : List (Array Value)} {v : Value} {b off : Nat} [Und P t (.slice e)] [ElemC P e k bytes]
    (hx : evO env x = some v) (hy : evO env y = some (.slice (some ⟨b, off, none⟩) m c)) (hr : Rem (vec e k els v) L F) (hb : SlC F (some ⟨b, off, none⟩) k m c news)
    (hk : ∀ x ∈ news, x.size = k) (h1 : ∀ x ∈ news, ∀ u ∈ x.toList, u.oneCell' = true) (hbytes : (els.length + m) * bytes ≤ 140737488355328 ∧ els.length + m ≤ 140737488355328) :
    OpW P w0 nt L env (.call ⟨.builtin .append, #[x, y], #[t, t]⟩) ty (fun v' L' => L' = vec e k (els ++ news) v' :: F) := .mk fun o ho hty a ha w hs => by
  have hs' := hs.ent hr.ent
  obtain ⟨p, q, hsp, _, hF⟩ := own_cons.1 hs'.own
  have hlen := hb.len
  obtain ⟨i0, z0, _, hi0, _, _, _, hkpos⟩ := (inferInstance : ElemC P e k bytes).h
  obtain ⟨v', w', h2, h3⟩ := run_append_vec (P := P) (ty := o.type) (c := c) (t := t) (b := b) (off := off) (news := news) hs' hlen (fun j u hj => by
    have hj' : j < news.length * k := by
      rw [← flat_length hk]
      exact (List.getElem?_eq_some_iff.1 hj).1
    have hi : j / k < news.length := by rwa [Nat.div_lt_iff_lt_mul hkpos]
    obtain ⟨b', off', ca, T, fr, e1, e2, e3, e4⟩ := hb.at_ q hF (j / k) (by omega)
    simp only [Option.some.injEq, Addr.mk.injEq, and_true] at e1
    obtain ⟨rfl, rfl⟩ := e1
    have e5 : w.heap[b]? = some (.cells ca T fr) := by
      have := hsp b; simp_all
    rw [addr_add, cell?_of e5]
    have hmod : j % k < k := Nat.mod_lt _ hkpos
    have h6 := flat_el hk (j / k) hi
    rw [← e4] at h6
    have h7 : ((flat news).drop (j / k * k)).take k = (ca.extract (off + j / k * k) (off + j / k * k + k)).toList := h6
    have h8 := congrArg (·[j % k]?) h7
    simp only [List.getElem?_take, hmod, if_true, List.getElem?_drop, Array.getElem?_toList, Array.getElem?_extract] at h8
    have h9 : j / k * k + j % k = j := by rw [Nat.mul_comm]; exact Nat.div_add_mod j k
    rw [h9, hj, if_pos (by omega)] at h8
    rw [h8]; congr 1; omega) hk (fun u hu => by
      obtain ⟨x, hx, hux⟩ := List.mem_flatMap.1 hu
      exact h1 x hx u hux) hbytes.1 hbytes.2
  refine ⟨v', w', _, .inl ?_, h3, rfl⟩
  simp only [execOp, ho, resolve, invoke, builtin, Sem.run_bind, Sem.run_pure, Result.andThen_ok, List.map_toArray, List.map_cons, List.map_nil, ha.eval hx, ha.eval hy, h2]

/-- A row of the call's own is a slice that is read. -/
instance SlC.ofVec {e k n cap : Nat} {els : List (Array Value)} {p : Option Addr} {L : List HP} [hn : SlOK p n cap] [hl : Fact' (els.length = n)] :
    SlC (vec e k els (.slice p n cap) :: L) p k n cap els where
  len := hl.h
  le := hn.le
  bd := hn.bd
  ptr := hn.ptr
  at_ := fun h H i hi => by
    obtain ⟨hk, _, hv⟩ := vec_open H
    have hl := hl.h
    rcases hv with ⟨h1, rfl⟩ | ⟨g, cap', cur, h1, h2, h3, h4, h5, h6⟩
    · simp at hl; omega
    · simp only [Value.slice.injEq] at h1
      obtain ⟨rfl, _, rfl⟩ := h1
      obtain ⟨e1, e2⟩ := el_of_flat hk h2 h4 h5 (i := i) (by omega)
      exact ⟨g, 0, cur, e, (0, 0), rfl, Reads.own Reads.here h6, e1, e2⟩

/-- What the world says of such a row's value. -/
theorem vec_fact {e k : Nat} {els : List (Array Value)} {v : Value} {h : Hp} (H : Own (vec e k els v :: F) h) : ∃ p cap, v = .slice p els.length cap ∧ SlOK p els.length cap := by
  obtain ⟨_, hb, hp⟩ := vec_open H
  rcases hp with ⟨rfl, rfl⟩ | ⟨g, cap, cur, rfl, h1, _⟩
  · exact ⟨none, 0, rfl, ⟨by simp, by simp, by simp⟩⟩
  · exact ⟨_, cap, rfl, ⟨h1, hb, fun _ => ⟨g, 0, rfl⟩⟩⟩
end
end Go.SL
