/-
  Media by what they have: the methods; what was written where.
-/
import Derived.Test.YtcpfehldofmipaaDoorView2
import Derived.Test.YtcpfehldofmipaaDoorAwake21b
namespace Go.Proofs.YtcpfehldofmipaaDoor
open Go Go.SL Go.Proofs

section
variable {g : Geo} {gens : List Int} {s : DevS} {vl : List (Nat × DevS)} {val : Int → List Int} {F : List HP} {vs : List Nat}
theorem mv_Write (hM : MV g gens s vl val) (hvs : vl.map Prod.fst = vs) (m d : Nat) {a : Int} (ha : 1 ≤ a ∧ a ≤ blocksG g) {b : List Int} (hb : b.length = 128) {q : Nat} (hP : PB q s vl) (hq : q ≤ 1000000000) {p : Option Addr} {n c : Nat} (hl : SlC F p 1 n c (b.map u8c)) :
    Tr Tryd.prog 16 [.pointer (some ⟨m, 0, none⟩), .int .i64 a, .slice p n c].toArray (medP m d vs g gens :: devP d s :: devsP vl :: F)
      (fun v L' => v = .int .i64 0 ∧ L' = medP m d vs g gens :: devP d (wrMD g s a b) :: devsP (wrMV g vl a b) :: F) := by
  subst hvs
  have h := medium_Write m d g gens s vl a b (by have := hP.1; omega) (fun x hx => by have := hP.2 x hx; omega) hl
  rw [hb, hM.wrME ha] at h
  exact h
theorem MV.writeD (hM : MV g gens s vl val) {a : Int} (ha : 1 ≤ a ∧ a ≤ g.disk * 16) {b : List Int} (hb : b.length = 128) : wrMV g vl a b = vl ∧ { wrMD g s a b with pend := [] } = { s with pend := [] } := by
  have hbl := blocksG_is hM.may
  have hg := mayG_is hM.may
  have : 0 ≤ g.vols * (g.segs * 16) := Int.mul_nonneg (by omega) (by omega)
  obtain ⟨h0, ⟨h1, h2, h3⟩ | ⟨k, h1, h2, h3, h4, h5⟩⟩ := where_in hM.may (a := a) (by omega)
  · have ht : thereB s (a + 15) = true := by have := hM.n; simp [thereB]; omega
    refine ⟨by unfold wrMV; rw [if_neg (by omega)], ?_⟩
    unfold wrMD
    rw [if_pos ⟨h0, by omega⟩, h2, hM.w.wrS ht hb]
  · have := volBase_ge hM.may k; omega
theorem mv_Read (hM : MV g gens s vl val) (hvs : vl.map Prod.fst = vs) (m d : Nat) {a : Int} (ha : 1 ≤ a ∧ a ≤ blocksG g) :
    Tr Tryd.prog 21 [.pointer (some ⟨m, 0, none⟩), .int .i64 a].toArray (medP m d vs g gens :: devP d s :: devsP vl :: F)
      (fun v L' => ∃ sl, v = .tuple #[sl, .int .i64 0] ∧ L' = vec 141 1 ((val a).map u8c) sl :: medP m d vs g gens :: devP d s :: devsP vl :: F) := by
  subst hvs
  have h := medium_Read m d g gens s vl a (F := F)
  obtain ⟨h1, h2, _⟩ := hM.read ha
  rw [h1, h2] at h
  exact h
theorem mv_Flush (hvs : vl.map Prod.fst = vs) (m d : Nat) (v : Int) (he : flME s vl v = 0) :
    Tr Tryd.prog 18 [.pointer (some ⟨m, 0, none⟩), .int .i64 v].toArray (medP m d vs g gens :: devP d s :: devsP vl :: F)
      (fun r L' => r = .int .i64 0 ∧ L' = medP m d vs g gens :: devP d (flMD s v) :: devsP (flMV vl v) :: F) := by
  subst hvs
  have h := medium_Flush m d g gens s vl v (F := F)
  rw [he] at h
  exact h
theorem mv_Open (hM : MV g gens s vl val) (hvs : vl.map Prod.fst = vs) (d : Nat) {pv : Option Addr} {nv cv : Nat} [HalvesC F] (hv : SlC F pv 1 nv cv (vs.map ptrc)) :
    Tr Tryd.prog 12 [.pointer (some ⟨d, 0, none⟩), .slice pv nv cv].toArray (devP d s :: devsP vl :: F)
      (fun v L' => ∃ m, v = .tuple #[.pointer (some ⟨m, 0, none⟩), .int .i64 0] ∧ L' = medP m d vs g (openG vl vl.length) :: devP d s :: devsP vl :: F) := by
  subst hvs
  obtain ⟨h1, h2, _⟩ := hM.open
  have h := medium_Open d s vl h1 hv
  rw [h2] at h
  exact h
theorem mv_Format (hm : mayG g = true) {N M : Nat} (hN : (N : Int) = 16 + 16 * g.disk) (hMl : (M : Int) = 1 + 16 * g.segs) (hvl : vl.map Prod.snd = List.replicate g.vols.toNat (newDev M)) (d : Nat) {pv : Option Addr} {nv cv : Nat} [HalvesC F] (hv : SlC F pv 1 nv cv ((vl.map Prod.fst).map ptrc)) :
    Tr Tryd.prog 11 [.agg g.cells, .pointer (some ⟨d, 0, none⟩), .slice pv nv cv].toArray (devP d (newDev N) :: devsP vl :: F)
      (fun v L' => ∃ m, v = .tuple #[.pointer (some ⟨m, 0, none⟩), .int .i64 0] ∧ L' = medP m d (vl.map Prod.fst) g (List.replicate vl.length 0 ++ List.replicate (8 - vl.length) (-1)) :: devP d (ewfS (newDev N) (superF g)) :: devsP (fmV vl vl.length) :: F) := by
  obtain ⟨h1, h2, h3, _⟩ := MV.format hm hN hMl hvl
  exact medium_Format g d (newDev N) vl hm h1 h2 h3 hv
theorem devs_Crash (vl : List (Nat × DevS)) (i : Nat) (h : i < vl.length) (far : List Int) {p : Option Addr} {n c : Nat} (hl : SlC F p 1 n c (far.map fun z => #[Value.int .i64 z])) :
    Tr Tryd.prog 19 [.pointer (some ⟨vl[i].1, 0, none⟩), .slice p n c].toArray (devsP vl :: F) (fun v L' => v = .tuple #[] ∧ L' = devsP (vl.set i (vl[i].1, crashS vl[i].2 far)) :: F) := by
  have hl2 : SlC (devsP (vl.take i) :: devsP (vl.drop (i + 1)) :: F) p 1 n c (far.map fun z => #[Value.int .i64 z]) := SlC.tail (h := SlC.tail (h := hl))
  exact (Tr.ent (devs_cut vl i h) (dev_Crash vl[i].1 vl[i].2 far hl2)).weaken fun v L' ⟨h1, h2⟩ => ⟨_, by rw [h2]; exact devs_put vl i h _, h1, rfl⟩
theorem devs_On (vl : List (Nat × DevS)) (i : Nat) (h : i < vl.length) : Tr Tryd.prog 20 [.pointer (some ⟨vl[i].1, 0, none⟩)].toArray (devsP vl :: F) (fun v L' => v = .tuple #[] ∧ L' = devsP (vl.set i (vl[i].1, onS vl[i].2)) :: F) :=
  (Tr.ent (devs_cut vl i h) (dev_On vl[i].1 vl[i].2)).weaken fun v L' ⟨h1, h2⟩ => ⟨_, by rw [h2]; exact devs_put vl i h _, h1, rfl⟩
/-- a volume on which nothing waits, behind a crash -/
theorem devs_OnC (vl : List (Nat × DevS)) (i : Nat) (h : i < vl.length) (hw : Well vl[i].2) (hp : vl[i].2.pend = []) (far : List Int) : Tr Tryd.prog 20 [.pointer (some ⟨vl[i].1, 0, none⟩)].toArray (devsP (vl.set i (vl[i].1, crashS vl[i].2 far)) :: F) (fun v L' => v = .tuple #[] ∧ L' = devsP vl :: F) := by
  have hi : i < (vl.set i (vl[i].1, crashS vl[i].2 far)).length := by simpa using h
  have k := devs_On (F := F) (vl.set i (vl[i].1, crashS vl[i].2 far)) i hi
  simp only [List.getElem_set_self, List.set_set, crash_clean hw hp far, List.set_getElem_self] at k
  rw [show (vl[i].1, vl[i].2) = vl[i] from rfl, List.set_getElem_self] at k
  exact k
end

/-- what the last write of a list to z wrote: 1, 2, 3, .. -/
def valAt (l : List Int) (z : Int) : Int := l.zipIdx.foldl (fun acc x => if x.1 = z then 1 + (x.2 : Int) else acc) 0
theorem valAt_snoc (l : List Int) (x z : Int) : valAt (l ++ [x]) z = if x = z then 1 + (l.length : Int) else valAt l z := by
  unfold valAt
  rw [List.zipIdx_append, List.foldl_append]
  simp
theorem valAt_bd (l : List Int) (z : Int) : 0 ≤ valAt l z ∧ valAt l z ≤ l.length := by
  suffices H : ∀ q : List Int, 0 ≤ valAt q.reverse z ∧ valAt q.reverse z ≤ q.reverse.length by
    have := H l.reverse; rwa [List.reverse_reverse] at this
  intro q
  induction q with
  | nil => simp [valAt]
  | cons x r ih =>
    rw [List.reverse_cons, valAt_snoc, List.length_append]
    simp only [List.length_singleton]
    split <;> omega
def wroteF (l : List Int) : Value → Option Value := fun k => match k with | .int .i64 z => if valAt l z = 0 then none else some (.int .u8 (valAt l z)) | _ => none
theorem wroteF_nil : wroteF [] = fun _ => none := by
  funext k; unfold wroteF; split <;> simp [valAt]
theorem wroteF_snoc (l : List Int) (x : Int) : wroteF (l ++ [x]) (.int .i64 x) = some (.int .u8 (1 + (l.length : Int))) := by
  unfold wroteF
  dsimp only
  rw [valAt_snoc, if_pos rfl, if_neg (by omega)]
theorem wroteF_other (l : List Int) (x : Int) {u : Value} (h : u ≠ .int .i64 x) : wroteF (l ++ [x]) u = wroteF l u := by
  unfold wroteF
  split
  · rename_i z
    have hz : ¬ x = z := fun e => h (by rw [e])
    rw [valAt_snoc, if_neg hz]
  · rfl
theorem upd_valAt (l : List Int) (x : Int) : updA (fun a => allB (valAt l a)) x (allB (1 + (l.length : Int))) = fun a => allB (valAt (l ++ [x]) a) := by
  funext a
  unfold updA
  rw [valAt_snoc]
  by_cases h : a = x
  · rw [if_pos h, if_pos h.symm]
  · rw [if_neg h, if_neg (fun e => h e.symm)]

section
variable {P : Program} {w0 : World} {nt : Nat} {L : List HP} {env : Env} {ty : TypeId}
theorem R_wrote {t kt et : TypeId} {x i : Operand} {r : Nat} {z : Int} {l : List Int} [hm : Und P t (.map kt et)] [hd : Und P kt (.int .i64)] [hz : ZeroC P et (.int .u8 0)] (hx : evO env x = some (.map (some r))) (hi : evO env i = some (.int .i64 z))
    (hc : MpC L r (.int .i64) (wroteF l)) : OpR P w0 nt L env (.lookup t x i false) ty (.int .u8 (valAt l z)) := by
  by_cases h0 : valAt l z = 0
  · rw [h0]
    exact R_lookup1_no hx hi hc rfl (by rfl) (by simp [wroteF, h0])
  · exact R_lookup1_yes hx hi hc rfl (by rfl) (by simp [wroteF, h0])
end
end Go.Proofs.YtcpfehldofmipaaDoor
