/-
  OWN BASE, PART 4: reading by instances; the walk's own forms of the laws.
-/
import Derived.Test.YtcpfehldofmipaaDoorBase3
namespace Go.SL
open Go

/-- In L block b is o (found by instance). -/
class ReadC (L : List HP) (b : Nat) (o : outParam Obj) : Prop where
  h : Reads L b o
/-- The world W held o in block b. -/
class InW (W : World) (b : Nat) (o : outParam Obj) : Prop where
  h : W.heap[b]? = some o
instance ReadC.head {b : Nat} {o : Obj} {L : List HP} : ReadC (pt b o :: L) b o := ⟨Reads.here⟩
instance (priority := low) ReadC.tail {b : Nat} {o : Obj} {p : HP} {L : List HP} [h : ReadC L b o] : ReadC (p :: L) b o := ⟨Reads.there h.h⟩
instance ReadC.whole {b : Nat} {o : Obj} {W : World} {L : List HP} [h : InW W b o] : ReadC (whole W :: L) b o := ⟨Reads.whole h.h⟩

def lget : List Value → Nat → Option Value
  | [], _ => none
  | v :: _, 0 => some v
  | _ :: r, n + 1 => lget r n
theorem lget_eq : ∀ (l : List Value) (n : Nat), lget l n = l[n]?
  | [], _ => by simp [lget]
  | v :: _, 0 => by simp [lget]
  | _ :: r, n + 1 => by simp [lget, lget_eq r n]

section
variable {P : Program} {w0 : World} {nt : Nat} {L : List HP} {env : Env} {ty : TypeId} {Q : Exit → Act → World → Prop}

theorem L_load {t : TypeId} {x : Operand} {b off : Nat} {c : Array Value} {T : TypeId} {fr : Nat × Nat} {v : Value} [AggC P t false] (hx : evO env x = some (.pointer (some ⟨b, off, none⟩)))
    (hr : ReadC L b (.cells c T fr)) (hv : c[off]? = some v) : OpR P w0 nt L env (.load t x) ty v := R_load hx hr.h hv
/-- of a block that is written out -/
theorem L_load' {t : TypeId} {x : Operand} {b off : Nat} {c : Array Value} {T : TypeId} {fr : Nat × Nat} {v : Value} [AggC P t false] (hx : evO env x = some (.pointer (some ⟨b, off, none⟩)))
    (hr : ReadC L b (.cells c T fr)) (hv : lget c.toList off = some v) : OpR P w0 nt L env (.load t x) ty v := R_load hx hr.h (by rw [lget_eq] at hv; simpa using hv)
theorem L_load_all {t : TypeId} {x : Operand} {b n : Nat} {c : Array Value} {T : TypeId} {fr : Nat × Nat} [AggC P t true] [SizeC P t n] (hx : evO env x = some (.pointer (some ⟨b, 0, none⟩)))
    (hr : ReadC L b (.cells c T fr)) (hn : Nat.beq c.toList.length n = true) : OpR P w0 nt L env (.load t x) ty (.agg c) := by
  have h : c.size = n := by simpa using hn
  exact R_load_agg hx hr.h (by omega) (by simp [← h])
theorem L_load_agg {t : TypeId} {x : Operand} {b off n : Nat} {c cs : Array Value} {T : TypeId} {fr : Nat × Nat} [AggC P t true] [SizeC P t n] (hx : evO env x = some (.pointer (some ⟨b, off, none⟩)))
    (hr : ReadC L b (.cells c T fr)) (hle : off + n ≤ c.size) (hv : c.extract off (off + n) = cs) : OpR P w0 nt L env (.load t x) ty (.agg cs) := R_load_agg hx hr.h hle hv

/-- a store into a block that is written out -/
def lset : List Value → Nat → Value → List Value
  | [], _, _ => []
  | _ :: r, 0, u => u :: r
  | v :: r, n + 1, u => v :: lset r n u
theorem lset_eq : ∀ (l : List Value) (n : Nat) (u : Value), lset l n u = l.set n u
  | [], _, _ => by simp [lset]
  | _ :: _, 0, _ => by simp [lset]
  | _ :: r, n + 1, u => by simp [lset, lset_eq r n u]

theorem W_storeL {t : TypeId} {x y : Operand} {b off : Nat} {c : Array Value} {T : TypeId} {v : Value} {C : Array Value → List HP} [SizeC P t 1] (hx : evO env x = some (.pointer (some ⟨b, off, none⟩)))
    (hy : evO env y = some v) (hc : Cell L b T (0, 0) c C) (h1 : v.oneCell' = true) (hlt : Nat.blt off c.toList.length = true) {l' : List Value} (hl : lset c.toList off v = l') :
    OpW P w0 nt L env (.store t x y) ty (fun u L2 => u = undef ∧ L2 = C l'.toArray) := by
  have h2 : off < c.size := by simpa using hlt
  have h3 : c.setIfInBounds off v = l'.toArray := by rw [← hl, lset_eq]; apply Array.ext'; simp
  rw [← h3]
  exact W_store1 hx hy hc h1 h2 (by simp)
/-- a store of a whole block -/
theorem wrs_all {l : List Value} : ∀ (a d : List Value), a.length = l.length → wrs (d ++ a).toArray d.length l = (d ++ l).toArray := by
  induction l with
  | nil => intro a d h; obtain rfl := List.eq_nil_of_length_eq_zero h; simp [wrs]
  | cons v r ih =>
    intro a d h
    match a, h with
    | u :: a', h =>
      simp only [wrs]
      have h1 : (d ++ u :: a').toArray.setIfInBounds d.length v = ((d ++ [v]) ++ a').toArray := by apply Array.ext'; simp
      rw [h1, show d.length + 1 = (d ++ [v]).length by simp, ih a' (d ++ [v]) (by simpa using h)]
      simp
theorem W_storeAll {t : TypeId} {x y : Operand} {b n : Nat} {c vs : Array Value} {T : TypeId} {C : Array Value → List HP} [SizeC P t n] (hx : evO env x = some (.pointer (some ⟨b, 0, none⟩)))
    (hy : evO env y = some (.agg vs)) (hc : Cell L b T (0, 0) c C) (hn : Nat.beq vs.toList.length n = true) (hm : Nat.beq c.toList.length n = true) (h1 : vs.toList.all Value.oneCell' = true) :
    OpW P w0 nt L env (.store t x y) ty (fun u L2 => u = undef ∧ L2 = C vs) := by
  have hn' : vs.size = n := by simpa using hn
  have hm' : c.size = n := by simpa using hm
  have h2 : wrs c 0 vs.toList = vs := by have := wrs_all (l := vs.toList) c.toList [] (by simp [hn', hm']); simpa using this
  have := W_storeA (P := P) (w0 := w0) (nt := nt) (env := env) (ty := ty) (t := t) hx hy hc hn' (fun v hv => List.all_eq_true.1 h1 v hv) (by omega) (.inl (Nat.zero_le _))
  rwa [h2] at this

theorem fold_set {n : Nat} (cs : Array Value) (hc : cs.size = n) : ∀ (l : List Value) (d : Nat) (a : Array Value), a.size = n → l = cs.toList.drop d → (∀ i, i < d → a[i]? = cs[i]?) → d ≤ n →
    (l.zipIdx d).foldl (fun cs (x : Value × Nat) => cs.setIfInBounds (0 + x.2) x.1) a = cs
  | [], d, a, ha, hl, hp, hd => by
    have hd' : n ≤ d := by
      have := congrArg List.length hl
      simp at this; omega
    apply Array.ext_getElem?
    intro i
    by_cases hi : i < d
    · exact hp i hi
    · simp only [List.zipIdx_nil, List.foldl_nil]; rw [Array.getElem?_eq_none (by omega), Array.getElem?_eq_none (by omega)]
  | v :: r, d, a, ha, hl, hp, hd => by
    have hlt : d < n := by
      have := congrArg List.length hl
      simp at this; omega
    have hv : cs[d]? = some v := by
      have := congrArg (·[0]?) hl
      simp at this
      exact this.symm
    have hr : r = cs.toList.drop (d + 1) := by
      have := congrArg List.tail hl
      simpa using this
    simp only [List.zipIdx_cons, List.foldl_cons]
    exact fold_set cs hc r (d + 1) _ (by simpa using ha) hr (fun i hi => by
      rw [Nat.zero_add, Array.getElem?_setIfInBounds]
      by_cases h : d = i
      · subst h; simp [ha, hlt, hv]
      · simp [h]; exact hp i (by omega)) (by omega)

theorem fill_one {n : Nat} {z cs : Array Value} (hz : z.size = n) (hc : cs.size = n) : Instr.fill (fun i => some (i * n, n)) z [(0, .agg cs)] = some cs := by
  simp only [Instr.fill, Value.cells, Nat.zero_mul, hc, hz, Nat.zero_add, ne_eq, not_true_eq_false, gt_iff_lt, Nat.lt_irrefl, decide_false, Bool.or_self, Bool.false_eq_true, if_false]
  rw [← Array.foldl_toList, Array.toList_zipIdx]
  have := fold_set cs hc cs.toList 0 z hz rfl (fun i hi => by omega) (by omega)
  simpa using this

theorem W_buildSlice1 {t e : TypeId} {n : Nat} {x : Operand} {cs : Array Value} {z : Value} [hu : Und P t (.slice e)] [hz : SizeC P e n] [hzz : ZeroC P e z] (hx : evO env x = some (.agg cs)) (hn : Nat.beq cs.toList.length n = true)
    (hzn : Nat.beq z.cells.toList.length n = true) (h0 : Nat.beq n 0 = false) (hlt : Nat.ble n 16777216 = true) :
    OpW P w0 nt L env (.buildSlice t 1 #[(0, x)]) ty (fun u L' => ∃ b, u = .slice (some ⟨b, 0, none⟩) 1 1 ∧ L' = pt b (.cells cs e) :: L) := by
  have h1 : cs.size = n := by simpa using hn
  have h2 : z.cells.size = n := by simpa using hzn
  have h3 : n ≠ 0 := ne_of_nbeq h0
  refine W_buildSlice (ps := [(0, x)]) (vs := [(0, .agg cs)]) (by simp [evP, hx]) (by simpa using hlt) (by rw [Nat.one_mul]; exact h0) ?_
  rw [Nat.one_mul]
  exact fill_one (by simp) h1
theorem W_buildSlice1s {t e : TypeId} {x : Operand} {v : Value} {z : Value} [hu : Und P t (.slice e)] [hz : SizeC P e 1] [hzz : ZeroC P e z] (hx : evO env x = some v) (h1 : v.oneCell' = true) :
    OpW P w0 nt L env (.buildSlice t 1 #[(0, x)]) ty (fun u L' => ∃ b, u = .slice (some ⟨b, 0, none⟩) 1 1 ∧ L' = pt b (.cells #[v] e) :: L) := by
  refine W_buildSlice (ps := [(0, x)]) (vs := [(0, v)]) (by simp [evP, hx]) rfl rfl ?_
  have hc := oneCell_cells h1
  simp [Instr.fill, hc, Array.range_succ, Array.range_zero']

theorem sw_cond_pos {c : Operand} {x y : Code} {p : Prop} [Decidable p] (hc : evO env c = some (.bool (decide p))) (hp : p) (h : SW P w0 nt L env x Q) : SW P w0 nt L env (.cond c x y) Q :=
  sw_cond_dec hc (fun _ => h) (fun hn => absurd hp hn)
theorem sw_cond_neg {c : Operand} {x y : Code} {p : Prop} [Decidable p] (hc : evO env c = some (.bool (decide p))) (hp : ¬ p) (h : SW P w0 nt L env y Q) : SW P w0 nt L env (.cond c x y) Q :=
  sw_cond_dec hc (fun hn => absurd hn hp) (fun _ => h)
theorem sw_cond_npos {c : Operand} {x y : Code} {p : Prop} [Decidable p] (hc : evO env c = some (.bool (!decide p))) (hp : p) (h : SW P w0 nt L env y Q) : SW P w0 nt L env (.cond c x y) Q :=
  sw_cond_not hc (fun hn => absurd hp hn) (fun _ => h)
theorem sw_cond_nneg {c : Operand} {x y : Code} {p : Prop} [Decidable p] (hc : evO env c = some (.bool (!decide p))) (hp : ¬ p) (h : SW P w0 nt L env x Q) : SW P w0 nt L env (.cond c x y) Q :=
  sw_cond_not hc (fun _ => h) (fun hn => absurd hn hp)
variable {ops : Array Oper} {rest : List Oper} {dst : Option Tmp} {op : Op} {pos : String} {after : Array Edge}
theorem swl_g_pos {j d : Nat} {want : Bool} {p : Prop} [Decidable p] (hj : (ops[j]?).bind (·.dst) = some d) (hb : env.get d = some (.bool (decide p))) (hp : p)
    (h : SWL P w0 nt L ((d, .bool true) :: env) ops (⟨dst, op, ty, pos, after, some (j, want)⟩ :: rest) Q) : SWL P w0 nt L env ops (⟨dst, op, ty, pos, after, some (j, want)⟩ :: rest) Q :=
  swl_g_dec hj hb (fun _ => h) (fun hn => absurd hp hn)
theorem swl_g_neg {j d : Nat} {want : Bool} {p : Prop} [Decidable p] (hj : (ops[j]?).bind (·.dst) = some d) (hb : env.get d = some (.bool (decide p))) (hp : ¬ p)
    (h : SWL P w0 nt L ((d, .bool false) :: env) ops (⟨dst, op, ty, pos, after, some (j, want)⟩ :: rest) Q) : SWL P w0 nt L env ops (⟨dst, op, ty, pos, after, some (j, want)⟩ :: rest) Q :=
  swl_g_dec hj hb (fun hn => absurd hn hp) (fun _ => h)
theorem swl_g_npos {j d : Nat} {want : Bool} {p : Prop} [Decidable p] (hj : (ops[j]?).bind (·.dst) = some d) (hb : env.get d = some (.bool (!decide p))) (hp : p)
    (h : SWL P w0 nt L ((d, .bool false) :: env) ops (⟨dst, op, ty, pos, after, some (j, want)⟩ :: rest) Q) : SWL P w0 nt L env ops (⟨dst, op, ty, pos, after, some (j, want)⟩ :: rest) Q :=
  swl_g_ndec hj hb (fun hn => absurd hp hn) (fun _ => h)
theorem swl_g_nneg {j d : Nat} {want : Bool} {p : Prop} [Decidable p] (hj : (ops[j]?).bind (·.dst) = some d) (hb : env.get d = some (.bool (!decide p))) (hp : ¬ p)
    (h : SWL P w0 nt L ((d, .bool true) :: env) ops (⟨dst, op, ty, pos, after, some (j, want)⟩ :: rest) Q) : SWL P w0 nt L env ops (⟨dst, op, ty, pos, after, some (j, want)⟩ :: rest) Q :=
  swl_g_ndec hj hb (fun _ => h) (fun hn => absurd hn hp)

/-! guards in a region that draws -/
variable {Lr : List HP} {listed : Array Bool} {order : List (Nat × Bool)} {i : Nat} {lt : Bool}
theorem swh_g_dec {j d : Nat} {want : Bool} {p : Prop} [Decidable p] (_hi : ops[i]? = some ⟨dst, op, ty, pos, after, some (j, want)⟩) (_hj : (ops[j]?).bind (·.dst) = some d) (hb : env.get d = some (.bool (decide p)))
    (ht : p → SWH P w0 nt Lr L ((d, .bool true) :: env) ops listed ((i, lt) :: order) Q) (hf : ¬ p → SWH P w0 nt Lr L ((d, .bool false) :: env) ops listed ((i, lt) :: order) Q) :
    SWH P w0 nt Lr L env ops listed ((i, lt) :: order) Q := swh_split hb ht hf
theorem swh_g_ndec {j d : Nat} {want : Bool} {p : Prop} [Decidable p] (_hi : ops[i]? = some ⟨dst, op, ty, pos, after, some (j, want)⟩) (_hj : (ops[j]?).bind (·.dst) = some d) (hb : env.get d = some (.bool (!decide p)))
    (ht : ¬ p → SWH P w0 nt Lr L ((d, .bool true) :: env) ops listed ((i, lt) :: order) Q) (hf : p → SWH P w0 nt Lr L ((d, .bool false) :: env) ops listed ((i, lt) :: order) Q) :
    SWH P w0 nt Lr L env ops listed ((i, lt) :: order) Q := swh_splitn hb ht hf
theorem swh_g_bool {j d : Nat} {want t : Bool} (_hi : ops[i]? = some ⟨dst, op, ty, pos, after, some (j, want)⟩) (_hj : (ops[j]?).bind (·.dst) = some d) (hb : env.get d = some (.bool t))
    (ht : t = true → SWH P w0 nt Lr L ((d, .bool true) :: env) ops listed ((i, lt) :: order) Q) (hf : t = false → SWH P w0 nt Lr L ((d, .bool false) :: env) ops listed ((i, lt) :: order) Q) :
    SWH P w0 nt Lr L env ops listed ((i, lt) :: order) Q := swh_splitb hb ht hf
theorem swh_g_pos {j d : Nat} {want : Bool} {p : Prop} [Decidable p] (hi : ops[i]? = some ⟨dst, op, ty, pos, after, some (j, want)⟩) (hj : (ops[j]?).bind (·.dst) = some d) (hb : env.get d = some (.bool (decide p))) (hp : p)
    (h : SWH P w0 nt Lr L ((d, .bool true) :: env) ops listed ((i, lt) :: order) Q) : SWH P w0 nt Lr L env ops listed ((i, lt) :: order) Q := swh_g_dec hi hj hb (fun _ => h) (fun hn => absurd hp hn)
theorem swh_g_neg {j d : Nat} {want : Bool} {p : Prop} [Decidable p] (hi : ops[i]? = some ⟨dst, op, ty, pos, after, some (j, want)⟩) (hj : (ops[j]?).bind (·.dst) = some d) (hb : env.get d = some (.bool (decide p))) (hp : ¬ p)
    (h : SWH P w0 nt Lr L ((d, .bool false) :: env) ops listed ((i, lt) :: order) Q) : SWH P w0 nt Lr L env ops listed ((i, lt) :: order) Q := swh_g_dec hi hj hb (fun hn => absurd hn hp) (fun _ => h)
theorem swh_g_npos {j d : Nat} {want : Bool} {p : Prop} [Decidable p] (hi : ops[i]? = some ⟨dst, op, ty, pos, after, some (j, want)⟩) (hj : (ops[j]?).bind (·.dst) = some d) (hb : env.get d = some (.bool (!decide p))) (hp : p)
    (h : SWH P w0 nt Lr L ((d, .bool false) :: env) ops listed ((i, lt) :: order) Q) : SWH P w0 nt Lr L env ops listed ((i, lt) :: order) Q := swh_g_ndec hi hj hb (fun hn => absurd hp hn) (fun _ => h)
theorem swh_g_nneg {j d : Nat} {want : Bool} {p : Prop} [Decidable p] (hi : ops[i]? = some ⟨dst, op, ty, pos, after, some (j, want)⟩) (hj : (ops[j]?).bind (·.dst) = some d) (hb : env.get d = some (.bool (!decide p))) (hp : ¬ p)
    (h : SWH P w0 nt Lr L ((d, .bool true) :: env) ops listed ((i, lt) :: order) Q) : SWH P w0 nt Lr L env ops listed ((i, lt) :: order) Q := swh_g_ndec hi hj hb (fun _ => h) (fun hn => absurd hn hp)

/-! ### A slice that is read -/
/-- In L the slice at p has these elements, each of k cells. -/
class SlC (L : List HP) (p : Option Addr) (k n cap : outParam Nat) (els : outParam (List (Array Value))) : Prop where
  len : els.length = n
  le : n ≤ cap
  bd : n ≤ 140737488355328
  ptr : 0 < n → ∃ b off, p = some ⟨b, off, none⟩
  at_ : ∀ h, Own L h → ∀ i, i < n → ∃ b off c T fr, p = some ⟨b, off, none⟩ ∧ h b = some (.cells c T fr) ∧ off + i * k + k ≤ c.size ∧ c.extract (off + i * k) (off + i * k + k) = els.getD i #[]

instance (priority := low) SlC.tail {L : List HP} {p : Option Addr} {k n cap : Nat} {els : List (Array Value)} {q : HP} [h : SlC L p k n cap els] : SlC (q :: L) p k n cap els :=
  ⟨h.len, h.le, h.bd, h.ptr, fun g hg i hi => by
    obtain ⟨a, r, hs, _, hL⟩ := own_cons.1 hg
    obtain ⟨b, off, c, T, fr, h1, h2, h3⟩ := h.at_ r hL i hi
    refine ⟨b, off, c, T, fr, h1, ?_, h3⟩
    have := hs b
    simp_all⟩

theorem SlC.take {L : List HP} {p : Option Addr} {k n cap : Nat} {els : List (Array Value)} (h : SlC L p k n cap els) (m : Nat) (hm : m ≤ n) : SlC L p k m cap (els.take m) := by
  have h1 := h.len; have h2 := h.le; have h3 := h.bd
  refine ⟨by simp; omega, by omega, by omega, fun h0 => h.ptr (by omega), fun g hg i hi => ?_⟩
  obtain ⟨b, off, c, T, fr, e1, e2, e3, e4⟩ := h.at_ g hg i (by omega)
  refine ⟨b, off, c, T, fr, e1, e2, e3, ?_⟩
  rw [e4]; simp [List.getD_eq_getElem?_getD, hi]

theorem SlC.ent {L L' : List HP} {p : Option Addr} {k n cap : Nat} {els : List (Array Value)} (h : SlC L' p k n cap els) (e : Ent L L') : SlC L p k n cap els :=
  ⟨h.len, h.le, h.bd, h.ptr, fun g hg => h.at_ g (e.own hg)⟩

theorem L_load_el {t : TypeId} {x : Operand} {b off i k n cap : Nat} {els : List (Array Value)} {cs : Array Value} [hg : AggC P t true] (hx : evO env x = some (.pointer (some ⟨b, off + i * k, none⟩)))
    (hs : SlC L (some ⟨b, off, none⟩) k n cap els) (hz : SizeC P t k) (hi : i < n) (hv : els.getD i #[] = cs) : OpR P w0 nt L env (.load t x) ty (.agg cs) := .mk fun o ho _ a ha w hw => by
  obtain ⟨b', off', c, T, fr, e1, e2, e3, e4⟩ := hs.at_ _ hw.own i hi
  simp only [Option.some.injEq, Addr.mk.injEq, and_true] at e1
  obtain ⟨rfl, rfl⟩ := e1
  rw [hv] at e4
  simp [execOp, ho, ha.eval hx, Instr.loadAt, Instr.sureAddr, loadVar, hg.h, hz.h, run_loadCells_of e2 e3, e4]

theorem L_load_el1 {t : TypeId} {x : Operand} {b off i n cap : Nat} {els : List (Array Value)} {v : Value} [hg : AggC P t false] (hx : evO env x = some (.pointer (some ⟨b, off + i * 1, none⟩)))
    (hs : SlC L (some ⟨b, off, none⟩) 1 n cap els) (hi : i < n) (hv : els.getD i #[] = #[v]) : OpR P w0 nt L env (.load t x) ty v := .mk fun o ho _ a ha w hw => by
  obtain ⟨b', off', c, T, fr, e1, e2, e3, e4⟩ := hs.at_ _ hw.own i hi
  simp only [Option.some.injEq, Addr.mk.injEq, and_true] at e1
  obtain ⟨rfl, rfl⟩ := e1
  rw [hv] at e4
  have e5 : c[off + i * 1]? = some v := by
    have := congrArg (·[0]?) e4
    rw [Array.getElem?_extract] at this
    split at this
    · simpa using this
    · simp at this
  simp only [execOp, ho, ha.eval hx, Instr.loadAt, Instr.sureAddr, loadVar, Sem.run_bind, Sem.run_pure, hg.h, Result.andThen_ok, Bool.false_eq_true, if_false, run_load, cell?_of e2, e5]

/-- one field of an element -/
theorem L_load_elf {t : TypeId} {x : Operand} {b off i f k n cap : Nat} {els : List (Array Value)} {cs : Array Value} {v : Value} [hg : AggC P t false] (hx : evO env x = some (.pointer (some ⟨b, off + i * k + f, none⟩)))
    (hs : SlC L (some ⟨b, off, none⟩) k n cap els) (hi : i < n) (hv : els.getD i #[] = cs) (hf : lget cs.toList f = some v) (hk : Nat.blt f k = true) : OpR P w0 nt L env (.load t x) ty v := .mk fun o ho _ a ha w hw => by
  obtain ⟨b', off', c, T, fr, e1, e2, e3, e4⟩ := hs.at_ _ hw.own i hi
  simp only [Option.some.injEq, Addr.mk.injEq, and_true] at e1
  obtain ⟨rfl, rfl⟩ := e1
  rw [hv] at e4
  have hk' : f < k := by simpa using hk
  have e5 : c[off + i * k + f]? = some v := by
    rw [lget_eq] at hf
    have hf' : cs[f]? = some v := by simpa using hf
    rw [← e4, Array.getElem?_extract] at hf'
    split at hf'
    · exact hf'
    · cases hf'
  simp only [execOp, ho, ha.eval hx, Instr.loadAt, Instr.sureAddr, loadVar, Sem.run_bind, Sem.run_pure, hg.h, Result.andThen_ok, Bool.false_eq_true, if_false, run_load, cell?_of e2, e5]
end
end Go.SL
