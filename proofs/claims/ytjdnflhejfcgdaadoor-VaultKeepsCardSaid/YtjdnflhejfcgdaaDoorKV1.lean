import Derived.Test.YtjdnflhejfcgdaaDoorK5
import Derived.SizedLaws
import Derived.Test.YtjdnflhejfcgdaaDoorCards
import Derived.Test.YtjdnflhejfcgdaaDoorTie

/-
  The statement: what was put is had behind any crash.
-/
namespace Go.SL
open Go
section
variable {P : Program} {w0 : World} {nt : Cx} {L : List HP} {env : Env} {Q : Exit → Act → World → Prop}
/-- a place to which several ways lead, each by the exit k -/
def MidX {γ : Type} (k : Nat) (w0 : World) (nt : Cx) (E : γ → Env) (H : γ → List HP) (C : γ → Prop) : Exit → Act → World → Prop
  | .exit j, a, w => j = k ∧ ∃ g, C g ∧ Sat w0 w (H g) ∧ Rel nt (E g) a
  | _, _, _ => False
instance PanicOK.midx {γ : Type} {k : Nat} {E : γ → Env} {H : γ → List HP} {C : γ → Prop} : PanicOK (MidX k w0 nt E H C) := ⟨fun _ _ _ _ _ h => h, fun _ _ h => h⟩
theorem sw_midx {γ : Type} {c : Code} (k : Nat) (E : γ → Env) (H : γ → List HP) (C : γ → Prop) (h1 : SW P w0 nt L env c (MidX k w0 nt E H C)) (h2 : ∀ g, C g → SX w0 nt (H g) (E g) (.exit k) Q) : SW P w0 nt L env c Q :=
  sw_cut h1 fun e a w h => by
    cases e with
    | exit j => obtain ⟨rfl, g, hc, hs, hr⟩ := h; exact (h2 g hc).h w a hs hr
    | _ => exact h.elim
theorem sx_midx {γ : Type} {k : Nat} {E : γ → Env} {H : γ → List HP} {C : γ → Prop} (g : γ) (hC : C g) (hE : subE (E g) env) (hH : Ent L (H g)) : SX w0 nt L env (.exit k) (MidX k w0 nt E H C) := .mk fun _ _ hs hr => ⟨rfl, g, hC, hs.ent hH, hr.sub hE⟩
end
end Go.SL
namespace Go.Proofs.YtjdnflhejfcgdaaDoor
open Go Go.SL Go.Proofs

section
variable {w0 : World} {nt : Cx} {L : List HP} {env : Env} {e : Exit} {Q : Exit → Act → World → Prop}
theorem sx_open_vp {m d a b : Nat} {val : Int → List Int} (h : ∀ s1 s2 s3, VOK a b val (s1, [(a, s2), (b, s3)]) → SX w0 nt (medP m d [a, b] g22 gens22 :: devP d s1 :: devsP [(a, s2), (b, s3)] :: L) env e Q) : SX w0 nt (vp m d a b val :: L) env e Q := .mk fun w c hs hr => by
  obtain ⟨⟨s1, vl⟩, h2, H⟩ := vp_own hs.own
  have hvs := h2.vs
  match vl, hvs with
  | [(x, s2), (y, s3)], hvs =>
    simp only [List.map_cons, List.map_nil, List.cons.injEq, and_true] at hvs
    obtain ⟨rfl, rfl⟩ := hvs
    exact (h s1 s2 s3 h2).h w c ⟨hs.os, hs.tape, hs.output, hs.size, hs.drawn, H⟩ hr
end

section
variable {P : Program} {L : List HP}
theorem Tr.post {f : FuncId} {args : Array Value} {R R' : Value → List HP → Prop} (h : Tr P f args L R) (k : ∀ v L' hp, R v L' → Own L' hp → R' v L') : Tr P f args L R' := .mk fun w0 w hs =>
  (h.h w0 w hs).mono fun _ _ ⟨v, L', he, h1, h2⟩ => ⟨v, L', he, h1, k v L' _ h2 h1.own⟩
end
theorem law22_part' (seq : Int) (l : List Int) (hby : ∀ z ∈ l, 0 ≤ z ∧ z ≤ 255) {pl : Option Addr} {n cl : Nat} {L : List HP} (hl : SlC L pl 1 n cl (l.map u8c)) :
    Tr Tryd.prog 8 [.int .i64 seq, .slice pl n cl].toArray L (fun v L' => ∃ pP cP pB cB sS bs, v = .tuple #[.agg #[.int .i64 (part22 seq l).seq, .int .i64 (part22 seq l).next, .bool (part22 seq l).fin, .slice pP ((part22 seq l).l.map EntS.cells).length cP], .slice pB (bs.map BS.cell).length cB, sS] ∧
      SlOK pP ((part22 seq l).l.map EntS.cells).length cP ∧ SlOK pB (bs.map BS.cell).length cB ∧ (∀ x ∈ bs, BSok x) ∧ bs.map BS.l = blks22 (l.take 13) ∧
      L' = vec 72 4 ((part22 seq l).l.map EntS.cells) (.slice pP ((part22 seq l).l.map EntS.cells).length cP) :: vec 22 1 (bs.map BS.cell) (.slice pB (bs.map BS.cell).length cB) :: blksP 5 bs :: vec 9 1 ((blks22 (l.take 13)).map strC) sS :: L) := by
  refine Tr.post (law22_part seq l hby hl) ?_
  rintro v L' hp ⟨sP, sB, sS, bs, rfl, hok, hbs, rfl⟩ H
  obtain ⟨pP, cP, rfl, h1⟩ := vec_fact (Ent.own (show Ent _ [vec 72 4 ((part22 seq l).l.map EntS.cells) sP] from by (repeat (first | exact Ent.refl _ | exact Ent.nil | (apply Ent.pick; focus ((repeat (first | exact Rem.here | apply Rem.there)); done)) | apply Ent.drop))) H)
  obtain ⟨pB, cB, rfl, h2⟩ := vec_fact (Ent.own (show Ent _ [vec 22 1 (bs.map BS.cell) sB] from by (repeat (first | exact Ent.refl _ | exact Ent.nil | (apply Ent.pick; focus ((repeat (first | exact Rem.here | apply Rem.there)); done)) | apply Ent.drop))) H)
  exact ⟨pP, cP, pB, cB, sS, bs, rfl, h1, h2, hok, hbs, rfl⟩
theorem blk_l {xs ys : List BS} (h : xs.map BS.l = ys.map BS.l) {i : Nat} (h1 : i < xs.length) (h2 : i < ys.length) : xs[i].l = ys[i].l := by
  have := congrArg (·[i]?) h
  simpa [h1, h2] using this
def dfl : BS := ⟨none, 0, 0, []⟩
def segP (bss : List BS) (i : Nat) : PartS × List (List Int) := (part22 (1 + (i : Int)) (bss.getD i dfl).l, blks22 ((bss.getD i dfl).l.take 13))
def i64n (i : Nat) : Array Value := #[.int .i64 i]
theorem nxt_lt {t : Nat} (h : t < 6) : nxt22 t = (8 + (t : Int), 0) := if_pos h
theorem nxt_6 : nxt22 6 = (0, 8) := rfl
theorem arr8_told (t : Nat) : arr8 (told22 t) = #[.int .i64 ((min t 3 : Nat) : Int), .int .i64 ((t - min t 3 : Nat) : Int), .int .i64 0, .int .i64 0, .int .i64 0, .int .i64 0, .int .i64 0, .int .i64 0] := by
  unfold told22 arr8
  have h1 : (t : Int) - ((min t 3 : Nat) : Int) = ((t - min t 3 : Nat) : Int) := by omega
  have h2 : min (t : Int) 3 = ((min t 3 : Nat) : Int) := by omega
  simp only [List.map_cons, List.map_nil, h2, h1]
set_option maxHeartbeats 8000000 in
theorem law_VaultKeeps (bss : List BS) (far : List Int) {pl pf : Option Addr} {nl cl nf cf : Nat} {L : List HP} [HalvesC L] (hll : SlC L pl 1 nl cl (bss.map BS.cell)) (hx : ∀ x ∈ bss, SlC L x.p 1 x.n x.c (x.l.map u8c)) (hby : ∀ x ∈ bss, ∀ z ∈ x.l, 0 ≤ z ∧ z ≤ 255)
    (hlf : SlC L pf 1 nf cf (far.map fun z => #[Value.int .i64 z])) :
    Tr Tryd.prog 5 [.slice pl nl cl, .slice pf nf cf].toArray L (fun v L' => v = .bool true ∧ L = L') := by
  have hnl : bss.length = nl := by simpa using hll.len
  have hbd := hll.bd
  have cK := fun (L : List HP) (h : HalvesC L) => law22_awake (L := L)
  refine tr_enter Tryd.func5 rfl Tryd.ntmps5 rfl fun w0 => ?_
  repeat' (first
    | refine swl_op ?_
    | (refine s1_move ?_; refine sc_r (R_move (by rfl)) (by rfl) ?_)
    | (refine s1_assign ?_; refine sc_r (R_assign (by rfl)) (by rfl) ?_)
    | (refine s1_bin ?_; refine sc_r (R_eql_nil (by rfl) (by rfl)) (by rfl) ?_)
    | (refine s1_call ?_; (refine sc_c (by rfl) (C_call (by rfl) (by infer_instance) (by rfl) (by rfl) (vp_made)) (by rfl) ?_; rintro _ _ ⟨m, d, a, b, p, r, q, rfl, rfl⟩))
    | (refine s1_store ?_; (refine sc_w (by rfl) (W_storeAll (by rfl) (by rfl) (by infer_instance) (by rfl) (by rfl) (by rfl)) (by rfl) ?_; rintro _ _ ⟨rfl, rfl⟩))
    | (refine s1_alloc ?_; (refine sc_w (by rfl) W_allocA (by rfl) ?_; rintro _ _ ⟨_, rfl, rfl⟩))
    | (refine s1_any ?_; first | refine sc_r (R_extract (by rfl) (by rfl)) (by rfl) ?_ | refine sc_r R_build0 (by rfl) ?_)
    | refine swl_nil ?_
    | refine sx_next ?_
    | refine sw_seq ?_
    | refine sw_region ?_
    | refine sw_block ?_
    | refine sw_cond_false (by rfl) ?_
    | refine sw_skip ?_
    | fail)
  rename_i b9
  refine sw_ent (Ent.vec_nil (e := 3) (k := 1)) ?_
  refine sw_midx (γ := Value × List Nat × (Int → List Int)) 0 (fun q => [(0, .slice pl nl cl), (1, .slice pf nf cf), (5, .pointer (some ⟨m, 0, none⟩)), (7, .slice p 2 2), (10, q.1)])
    (fun q => vp m d a b q.2.2 :: vec 3 1 (q.2.1.map i64n) q.1 :: vec 58 1 ([a, b].map ptrc) (.slice p 2 2) :: L) (fun q => Held q.2.2 (q.2.1.map (segP bss)) ∧ ∀ k ∈ q.2.1, k < nl ∧ k < 8 ∧ 0 < (bss.getD k dfl).l.length) ?_ ?_
  · refine sw_loop (γ := Nat × Value × List Nat × (Int → List Int)) (fun q => nl - q.1) (fun q => [(0, .slice pl nl cl), (1, .slice pf nf cf), (5, .pointer (some ⟨m, 0, none⟩)), (7, .slice p 2 2), (9, .pointer (some ⟨b9, 0, none⟩)), (10, q.2.1), (11, .int .i64 q.1)])
      (fun q => vp m d a b q.2.2.2 :: vec 3 1 (q.2.2.1.map i64n) q.2.1 :: pt b9 (.cells #[.int .i64 ((min q.2.2.1.length 3 : Nat) : Int), .int .i64 ((q.2.2.1.length - min q.2.2.1.length 3 : Nat) : Int), .int .i64 0, .int .i64 0, .int .i64 0, .int .i64 0, .int .i64 0, .int .i64 0] 54) :: vec 58 1 ([a, b].map ptrc) (.slice p 2 2) :: L)
      (fun q => q.1 ≤ nl ∧ Held q.2.2.2 (q.2.2.1.map (segP bss)) ∧ ∀ k ∈ q.2.2.1, k < q.1 ∧ k < 8 ∧ 0 < (bss.getD k dfl).l.length) (0, .slice none 0 0, [], fun _ => zeros128) ⟨by simp, held_none, by simp⟩
      (subE.cons rfl (subE.cons rfl (subE.cons rfl (subE.cons rfl (subE.cons rfl (subE.cons rfl (subE.cons rfl subE.nil))))))) (by (repeat (first | exact Ent.refl _ | exact Ent.nil | (apply Ent.pick; focus ((repeat (first | exact Rem.here | apply Rem.there)); done)) | apply Ent.drop))) ?_
    rintro ⟨i, sg, sl, val⟩ ⟨hi, hh, hsl⟩
    dsimp only at hi hh hsl ⊢
    by_cases hgo : i < nl ∧ i < 8
    · obtain ⟨hlt, hlt8⟩ := hgo
      obtain ⟨b1, o1, rfl⟩ := hll.ptr (by omega)
      have hib : i < bss.length := by omega
      have he1 := bs_get hib
      have hgd : bss.getD i dfl = bss[i] := by simp [hib]
      have hxi := hx _ (List.getElem_mem hib)
      have hbyi := hby _ (List.getElem_mem hib)
      have hxl : bss[i].l.length = bss[i].n := by simpa using hxi.len
      by_cases hz : bss[i].n = 0
      · generalize bss[i] = X at *
        repeat' (first
    | refine swl_op ?_
    | (refine s1_move ?_; refine sc_r (R_move (by rfl)) (by rfl) ?_)
    | (refine s1_load ?_; refine sc_r (L_load_el1 (by rfl) (by infer_instance) (by omega) (by first | assumption | rfl)) (by rfl) ?_)
    | (refine s1_assign ?_; refine sc_r (R_assign (by rfl)) (by rfl) ?_)
    | (refine s1_pick ?_; refine sc_r (R_pick_t (by rfl) (by rfl)) (by rfl) ?_)
    | (refine s1_bin ?_; first | refine sc_r (R_lss (by rfl) (by rfl)) (by rfl) ?_ | refine sc_r (R_add64 (by rfl) (by rfl) (by omega)) (by rfl) ?_ | refine sc_r (R_eql (by rfl) (by rfl)) (by rfl) ?_)
    | (refine s1_call ?_; refine sc_r (R_len (by rfl)) (by rfl) ?_)
    | (refine s1_indexAddr ?_; refine sc_r (R_indexAddr (by rfl) (by rfl) (by omega)) (by rfl) ?_)
    | refine swl_nil ?_
    | refine sx_next ?_
    | refine sw_seq ?_
    | refine sw_region ?_
    | refine sw_block ?_
    | refine swl_g_on (by rfl) (by rfl) ?_
    | refine swl_g_pos (by rfl) (by rfl) (by first | assumption | omega) ?_
    | refine sx_past_exit ?_
    | refine sx_block_here ?_
    | refine sw_cond_pos (by rfl) (by first | assumption | omega) ?_
    | refine sw_exit ?_
    | refine sw_skip ?_
    | fail)
        exact sx_back (i + 1, sg, sl, val) (by simp only; omega) ⟨by simp only; omega, hh, fun k hk => by have := hsl k hk; simp only; omega⟩ (subE.cons rfl (subE.cons rfl (subE.cons rfl (subE.cons rfl (subE.cons rfl (subE.cons rfl (subE.cons rfl subE.nil))))))) (by (repeat (first | exact Ent.refl _ | exact Ent.nil | (apply Ent.pick; focus ((repeat (first | exact Rem.here | apply Rem.there)); done)) | apply Ent.drop)))
      · have hle := hh.le
        rw [List.length_map] at hle
        have hpt := fun (L : List HP) (hl : SlC L bss[i].p 1 bss[i].n bss[i].c (bss[i].l.map u8c)) => law22_part (1 + (i : Int)) bss[i].l hbyi (L := L) hl
        have hw := (part22_may (seq := 1 + (i : Int)) (l := bss[i].l) (by omega) (by omega) hbyi).1
        have hseg : segP bss i = (part22 (1 + (i : Int)) bss[i].l, blks22 (bss[i].l.take 13)) := by unfold segP; rw [hgd]
        have hbl : (blks22 (bss[i].l.take 13)).length ≤ 13 := by simp [blks22]; omega
        have hgl : 0 < (bss.getD i dfl).l.length := by rw [hgd, hxl]; omega
        clear hgd hbyi
        simp only [PartS.cells] at hpt
        generalize part22 (1 + (i : Int)) bss[i].l = P at *
        generalize blks22 (bss[i].l.take 13) = bl at *
        generalize bss[i] = X at *
        have hnext := fun (F : List HP) => vp_Next m d a b val sl.length hle (F := F)
        rw [arr8_told] at hnext
        by_cases ht : sl.length = 6
        · have hn6 : nxt22 sl.length = (0, 8) := by rw [ht]; rfl
          rw [hn6] at hnext
          have hml : (sl.map i64n).length = 6 := by rw [List.length_map, ht]
          refine sw_know (fun h H => vec_fact (Ent.own (show Ent _ [vec 3 1 (sl.map i64n) sg] from by (repeat (first | exact Ent.refl _ | exact Ent.nil | (apply Ent.pick; focus ((repeat (first | exact Rem.here | apply Rem.there)); done)) | apply Ent.drop))) H)) ?_
          rintro ⟨pG, cG, rfl, hvG⟩
          repeat' (first
    | refine swl_op ?_
    | (refine s1_move ?_; refine sc_r (R_move (by rfl)) (by rfl) ?_)
    | (refine s1_load ?_; first | refine sc_r (L_load_all (by rfl) (by infer_instance) (by rfl)) (by rfl) ?_ | refine sc_r (L_load_el1 (by rfl) (by infer_instance) (by omega) (by first | assumption | rfl)) (by rfl) ?_)
    | (refine s1_assign ?_; refine sc_r (R_assign (by rfl)) (by rfl) ?_)
    | (refine s1_pick ?_; refine sc_r (R_pick_t (by rfl) (by rfl)) (by rfl) ?_)
    | (refine s1_bin ?_; first | refine sc_r (R_lss (by rfl) (by rfl)) (by rfl) ?_ | refine sc_r (R_add64 (by rfl) (by rfl) (by omega)) (by rfl) ?_ | refine sc_r (R_eql (by rfl) (by rfl)) (by rfl) ?_ | refine sc_r (R_neq (by rfl) (by rfl)) (by rfl) ?_)
    | (refine s1_call ?_; first | (refine sc_c (by rfl) (C_call (by rfl) (by infer_instance) (by rfl) (by rfl) (hpt _ (by infer_instance))) (by rfl) ?_; rintro _ _ ⟨sP, sB, sS, xs, rfl, hok1, hbs1, rfl⟩; refine swl_know (fun h H => vec_fact H) ?_; rintro ⟨pP, cP, rfl, hvP⟩; refine swl_know (fun h H => vec_fact (Ent.own (show Ent _ [vec 22 1 (xs.map BS.cell) sB] from by (repeat (first | exact Ent.refl _ | exact Ent.nil | (apply Ent.pick; focus ((repeat (first | exact Rem.here | apply Rem.there)); done)) | apply Ent.drop))) H)) ?_; rintro ⟨pB, cB, rfl, hvB⟩) | (refine sc_c (by rfl) (C_call (by rfl) (by infer_instance) (by rfl) (by rfl) (Tr.ent (Ent.pick (by focus ((repeat (first | exact Rem.here | apply Rem.there)); done)) (Ent.refl _)) (hnext _))) (by rfl) ?_; rintro _ _ ⟨rfl, rfl⟩) | refine sc_r (R_len (by rfl)) (by rfl) ?_)
    | (refine s1_indexAddr ?_; refine sc_r (R_indexAddr (by rfl) (by rfl) (by omega)) (by rfl) ?_)
    | (refine s1_store ?_; (refine sc_w (by rfl) (W_storeAll (by rfl) (by rfl) (by infer_instance) (by rfl) (by rfl) (by rfl)) (by rfl) ?_; rintro _ _ ⟨rfl, rfl⟩))
    | (refine s1_alloc ?_; (refine sc_w (by rfl) W_allocA (by rfl) ?_; rintro _ _ ⟨_, rfl, rfl⟩))
    | (refine s1_any ?_; refine sc_r (R_extract (by rfl) (by rfl)) (by rfl) ?_)
    | refine swl_nil ?_
    | refine sx_next ?_
    | refine sw_seq ?_
    | refine sw_region ?_
    | refine sw_block ?_
    | refine swl_g_on (by rfl) (by rfl) ?_
    | refine swl_g_pos (by rfl) (by rfl) (by first | assumption | omega) ?_
    | refine sx_past_exit ?_
    | refine sx_block_past (by rfl) ?_
    | refine sw_cond_true (by rfl) ?_
    | refine sw_cond_pos (by rfl) (by first | assumption | omega) ?_
    | refine sw_cond_neg (by rfl) (by first | assumption | omega) ?_
    | refine sw_cond_npos (by rfl) (by first | assumption | omega) ?_
    | refine sw_exit ?_
    | refine sw_skip ?_
    | fail)
          exact sx_midx (.slice pG (sl.map i64n).length cG, sl, val) ⟨hh, fun k hk => by have := hsl k hk; omega⟩ (subE.cons rfl (subE.cons rfl (subE.cons rfl (subE.cons rfl (subE.cons rfl subE.nil))))) (by (repeat (first | exact Ent.refl _ | exact Ent.nil | (apply Ent.pick; focus ((repeat (first | exact Rem.here | apply Rem.there)); done)) | apply Ent.drop)))
        · have hn6 : nxt22 sl.length = (8 + (sl.length : Int), 0) := nxt_lt (by omega)
          rw [hn6] at hnext
          have hml : (sl.map i64n).length = sl.length := List.length_map _
          have hh2 := held_put hh (by rw [List.length_map]; omega) hw
          rw [List.length_map, ← hseg, ← List.map_singleton, ← List.map_append] at hh2
          have hused := fun (F : List HP) => vp_Used m d a b (putV val (8 + (sl.length : Int)) P bl) hh2 (told22 sl.length) rfl (F := F)
          rw [arr8_told, show ((sl ++ [i]).map (segP bss)).length = sl.length + 1 by simp, arr8_told] at hused
          have hput := fun (F : List HP) (xs : List BS) (pp bp : Option Addr) (n c nb cb : Nat) (hbs : xs.map BS.l = bl) (hg : HalvesC F) (hl : SlC F pp 4 n c (P.l.map EntS.cells)) (hb : SlC F bp 1 nb cb (xs.map BS.cell)) (hx : ∀ y ∈ xs, SlC F y.p 1 y.n y.c (y.l.map u8c)) =>
            (hbs ▸ vp_Put m d a b val (seg := 8 + (sl.length : Int)) (by omega) P xs (by rw [hbs]; exact hw) (F := F) hl hb hx : Tr Tryd.prog 9 [.pointer (some ⟨m, 0, none⟩), .int .i64 (8 + (sl.length : Int)), .agg (P.cells (.slice pp n c)), .slice bp nb cb].toArray (vp m d a b val :: F)
              (fun v L' => v = .int .i64 0 ∧ L' = vp m d a b (putV val (8 + (sl.length : Int)) P bl) :: F))
          simp only [PartS.cells] at hput
          generalize putV val (8 + (sl.length : Int)) P bl = val2 at *
          refine sw_know (fun h H => vec_fact (Ent.own (show Ent _ [vec 3 1 (sl.map i64n) sg] from by (repeat (first | exact Ent.refl _ | exact Ent.nil | (apply Ent.pick; focus ((repeat (first | exact Rem.here | apply Rem.there)); done)) | apply Ent.drop))) H)) ?_
          rintro ⟨pG, cG, rfl, hvG⟩
          repeat' (first
    | refine swl_op ?_
    | (refine s1_move ?_; refine sc_r (R_move (by rfl)) (by rfl) ?_)
    | (refine s1_load ?_; first | refine sc_r (L_load' (by rfl) (by infer_instance) (by rfl)) (by rfl) ?_ | refine sc_r (L_load_all (by rfl) (by infer_instance) (by rfl)) (by rfl) ?_ | refine sc_r (L_load_el1 (by rfl) (by infer_instance) (by omega) (by first | assumption | rfl)) (by rfl) ?_)
    | (refine s1_assign ?_; refine sc_r (R_assign (by rfl)) (by rfl) ?_)
    | (refine s1_pick ?_; first | refine sc_r (R_pick_t (by rfl) (by rfl)) (by rfl) ?_ | refine sc_r (R_pick_f (by rfl) (by rfl)) (by rfl) ?_)
    | (refine s1_bin ?_; first | refine sc_r (R_lss (by rfl) (by rfl)) (by rfl) ?_ | refine sc_r (R_add64 (by rfl) (by rfl) (by omega)) (by rfl) ?_ | refine sc_r (R_eql (by rfl) (by rfl)) (by rfl) ?_ | refine sc_r (R_neq (by rfl) (by rfl)) (by rfl) ?_)
    | (refine s1_call ?_; first | (refine sc_c (by rfl) (C_call (by rfl) (by infer_instance) (by rfl) (by rfl) (hpt _ (by infer_instance))) (by rfl) ?_; rintro _ _ ⟨sP, sB, sS, xs, rfl, hok1, hbs1, rfl⟩; refine swl_know (fun h H => vec_fact H) ?_; rintro ⟨pP, cP, rfl, hvP⟩; refine swl_know (fun h H => vec_fact (Ent.own (show Ent _ [vec 22 1 (xs.map BS.cell) sB] from by (repeat (first | exact Ent.refl _ | exact Ent.nil | (apply Ent.pick; focus ((repeat (first | exact Rem.here | apply Rem.there)); done)) | apply Ent.drop))) H)) ?_; rintro ⟨pB, cB, rfl, hvB⟩) | (refine sc_c (by rfl) (C_call (by rfl) (by infer_instance) (by rfl) (by rfl) (Tr.ent (Ent.pick (by focus ((repeat (first | exact Rem.here | apply Rem.there)); done)) (Ent.refl _)) (hnext _))) (by rfl) ?_; rintro _ _ ⟨rfl, rfl⟩) | (refine sc_c (by rfl) (C_call (by rfl) (by infer_instance) (by rfl) (by rfl) (Tr.ent (Ent.pick (by focus ((repeat (first | exact Rem.here | apply Rem.there)); done)) (Ent.refl _)) (hput _ xs _ _ _ _ _ _ hbs1 (by infer_instance) (by infer_instance) (by infer_instance) (blks_read (e := 5) (by infer_instance) hok1)))) (by rfl) ?_; rintro _ _ ⟨rfl, rfl⟩) | (refine sc_w (by rfl) (W_appendA (by rfl) (by rfl) (by focus ((repeat (first | exact Rem.here | apply Rem.there)); done)) (by infer_instance) (sizesL_mem (by rfl)) (onesL_mem (by rfl)) (by omega)) (by rfl) ?_; rintro vv _ rfl; refine swl_know (fun h H => vec_fact H) ?_; rintro ⟨pv, cv, rfl, hv3⟩; have hlv : (sl.map i64n ++ cellsL [(0, Value.int .i64 (i : Int))]).length = sl.length + 1 := (by rw [List.length_append, List.length_map]; rfl)) | (refine sc_c (by rfl) (C_call (by rfl) (by infer_instance) (by rfl) (by rfl) (Tr.ent (Ent.pick (by focus ((repeat (first | exact Rem.here | apply Rem.there)); done)) (Ent.refl _)) (hused _))) (by rfl) ?_; rintro _ _ ⟨rfl, rfl⟩) | refine sc_r (R_len (by rfl)) (by rfl) ?_)
    | (refine s1_indexAddr ?_; first | refine sc_r (R_indexAddr (by rfl) (by rfl) (by omega)) (by rfl) ?_ | refine sc_r (R_indexAddr_arr (by rfl) (by rfl) (by omega)) (by rfl) ?_)
    | (refine s1_store ?_; (refine sc_w (by rfl) (W_storeAll (by rfl) (by rfl) (by infer_instance) (by rfl) (by rfl) (by rfl)) (by rfl) ?_; rintro _ _ ⟨rfl, rfl⟩))
    | (refine s1_alloc ?_; (refine sc_w (by rfl) W_allocA (by rfl) ?_; rintro _ _ ⟨_, rfl, rfl⟩))
    | (refine s1_any ?_; first | (refine sc_w (by rfl) (W_buildSliceV (by rfl) (by rfl) (by rfl) (by rfl) (by rfl) (by rfl) (by rfl)) (by rfl) ?_; rintro _ _ ⟨_, rfl, rfl, _, _⟩) | refine sc_r (R_extract (by rfl) (by rfl)) (by rfl) ?_)
    | refine swl_nil ?_
    | refine sx_next ?_
    | refine sw_seq ?_
    | refine sw_region ?_
    | refine sw_block ?_
    | refine swl_g_on (by rfl) (by rfl) ?_
    | refine swl_g_pos (by rfl) (by rfl) (by first | assumption | omega) ?_
    | refine sx_block_normal ?_
    | refine sw_cond_false (by rfl) ?_
    | refine sw_cond_pos (by rfl) (by first | assumption | omega) ?_
    | refine sw_cond_neg (by rfl) (by first | assumption | omega) ?_
    | refine sw_cond_npos (by rfl) (by first | assumption | omega) ?_
    | refine sw_skip ?_
    | fail)
          refine sx_back (i + 1, .slice pv (sl.map i64n ++ [i64n i]).length cv, sl ++ [i], val2) (by simp only; omega) ⟨by simp only; omega, hh2, fun k hk => ?_⟩ (subE.cons rfl (subE.cons rfl (subE.cons rfl (subE.cons rfl (subE.cons rfl (subE.cons rfl (subE.cons rfl subE.nil))))))) ?_
          · rcases List.mem_append.1 hk with hk | hk
            · have := hsl k hk; simp only; omega
            · rw [List.mem_singleton.1 hk]; exact ⟨by simp only; omega, by omega, hgl⟩
          · dsimp only
            rw [List.map_append, show (sl ++ [i]).length = sl.length + 1 by simp]
            (repeat (first | exact Ent.refl _ | exact Ent.nil | (apply Ent.pick; focus ((repeat (first | exact Rem.here | apply Rem.there)); done)) | apply Ent.drop))
    · have hex : ∀ k ∈ sl, k < nl ∧ k < 8 ∧ 0 < (bss.getD k dfl).l.length := fun k hk => by have := hsl k hk; omega
      by_cases h1 : i < nl
      · repeat' (first
    | refine swl_op ?_
    | (refine s1_move ?_; refine sc_r (R_move (by rfl)) (by rfl) ?_)
    | (refine s1_pick ?_; refine sc_r (R_pick_t (by rfl) (by rfl)) (by rfl) ?_)
    | (refine s1_bin ?_; refine sc_r (R_lss (by rfl) (by rfl)) (by rfl) ?_)
    | (refine s1_call ?_; refine sc_r (R_len (by rfl)) (by rfl) ?_)
    | refine swl_nil ?_
    | refine sx_next ?_
    | refine sw_seq ?_
    | refine sw_region ?_
    | refine swl_g_on (by rfl) (by rfl) ?_
    | refine swl_g_pos (by rfl) (by rfl) (by first | assumption | omega) ?_
    | refine sx_past_exit ?_
    | refine sw_cond_neg (by rfl) (by first | assumption | omega) ?_
    | refine sw_exit ?_
    | fail)
        exact sx_midx (sg, sl, val) ⟨hh, hex⟩ (subE.cons rfl (subE.cons rfl (subE.cons rfl (subE.cons rfl (subE.cons rfl subE.nil))))) (by (repeat (first | exact Ent.refl _ | exact Ent.nil | (apply Ent.pick; focus ((repeat (first | exact Rem.here | apply Rem.there)); done)) | apply Ent.drop)))
      · repeat' (first
    | refine swl_op ?_
    | (refine s1_move ?_; refine sc_r (R_move (by rfl)) (by rfl) ?_)
    | (refine s1_pick ?_; refine sc_r (R_pick_f (by rfl) (by rfl)) (by rfl) ?_)
    | (refine s1_bin ?_; refine sc_r (R_lss (by rfl) (by rfl)) (by rfl) ?_)
    | (refine s1_call ?_; refine sc_r (R_len (by rfl)) (by rfl) ?_)
    | refine swl_nil ?_
    | refine sx_next ?_
    | refine sw_seq ?_
    | refine sw_region ?_
    | refine swl_g_off (by rfl) (by rfl) (by rfl) (by rfl) ?_
    | refine swl_g_neg (by rfl) (by rfl) (by first | assumption | omega) ?_
    | refine sx_past_exit ?_
    | refine sw_cond_false (by rfl) ?_
    | refine sw_exit ?_
    | fail)
        exact sx_midx (sg, sl, val) ⟨hh, hex⟩ (subE.cons rfl (subE.cons rfl (subE.cons rfl (subE.cons rfl (subE.cons rfl subE.nil))))) (by (repeat (first | exact Ent.refl _ | exact Ent.nil | (apply Ent.pick; focus ((repeat (first | exact Rem.here | apply Rem.there)); done)) | apply Ent.drop)))
  · rintro ⟨sg, sl, val⟩ ⟨hh, hsl⟩
    dsimp only at hh hsl ⊢
    have hle := hh.le
    rw [List.length_map] at hle
    refine sx_know (fun h H => vec_fact (Ent.own (show Ent _ [vec 58 1 ([a, b].map ptrc) (.slice p 2 2)] from by (repeat (first | exact Ent.refl _ | exact Ent.nil | (apply Ent.pick; focus ((repeat (first | exact Rem.here | apply Rem.there)); done)) | apply Ent.drop))) H)) ?_
    rintro ⟨p', c', e, hok⟩
    obtain ⟨b7, o7, rfl, hok7⟩ : ∃ b o, p = some ⟨b, o, none⟩ ∧ SlOK p 2 2 := by
      injection e with e1 e2 e3
      subst e1 e3
      obtain ⟨b, o, h⟩ := hok.ptr (by simp)
      exact ⟨b, o, h, hok⟩
    have hf7 : Fact' (([a, b].map ptrc).length = 2) := ⟨rfl⟩
    refine sx_know (fun h H => vec_fact (Ent.own (show Ent _ [vec 3 1 (sl.map i64n) sg] from by (repeat (first | exact Ent.refl _ | exact Ent.nil | (apply Ent.pick; focus ((repeat (first | exact Rem.here | apply Rem.there)); done)) | apply Ent.drop))) H)) ?_
    rintro ⟨pG, cG, rfl, hvG⟩
    have hml : (sl.map i64n).length = sl.length := List.length_map _
    refine sx_open_vp fun s1 s2 s3 hst => ?_
    have hcl := hst.cl
    have hmv := hst.mv
    have w2 := hmv.wv (a, s2) (by simp)
    have w3 := hmv.wv (b, s3) (by simp)
    have c2 : s2.pend = [] := hcl.2 (a, s2) (by simp)
    have c3 : s3.pend = [] := hcl.2 (b, s3) (by simp)
    have hcr0 := fun (F : List HP) (h : SlC F pf 1 nf cf (far.map fun z => #[Value.int .i64 z])) => devs_Crash [(a, s2), (b, s3)] 0 (by simp) far (F := F) h
    have hcr1 := fun (F : List HP) (h : SlC F pf 1 nf cf (far.map fun z => #[Value.int .i64 z])) => devs_Crash [(a, crashS s2 far), (b, s3)] 1 (by simp) far (F := F) h
    have hon0 := fun (F : List HP) => devs_OnC [(a, s2), (b, crashS s3 far)] 0 (by simp) w2 c2 far (F := F)
    have hon1 := fun (F : List HP) => devs_OnC [(a, s2), (b, s3)] 1 (by simp) w3 c3 far (F := F)
    simp only [List.getElem_cons_zero, List.getElem_cons_succ, List.set_cons_zero, List.set_cons_succ] at hcr0 hcr1 hon0 hon1
    repeat' (first
    | refine swl_op ?_
    | (refine s1_move ?_; refine sc_r (R_move (by rfl)) (by rfl) ?_)
    | (refine s1_load ?_; refine sc_r (L_load_el1 (by rfl) (by infer_instance) (by omega) (by first | assumption | rfl)) (by rfl) ?_)
    | (refine s1_assign ?_; refine sc_r (R_assign (by rfl)) (by rfl) ?_)
    | (refine s1_call ?_; first | (refine sc_c (by rfl) (C_call (by rfl) (by infer_instance) (by rfl) (by rfl) (Tr.ent (Ent.pick (by focus ((repeat (first | exact Rem.here | apply Rem.there)); done)) (Ent.refl _)) (hcr0 _ (by infer_instance)))) (by rfl) ?_; rintro _ _ ⟨rfl, rfl⟩) | (refine sc_c (by rfl) (C_call (by rfl) (by infer_instance) (by rfl) (by rfl) (Tr.ent (Ent.pick (by focus ((repeat (first | exact Rem.here | apply Rem.there)); done)) (Ent.refl _)) (hcr1 _ (by infer_instance)))) (by rfl) ?_; rintro _ _ ⟨rfl, rfl⟩) | (refine sc_c (by rfl) (C_call (by rfl) (by infer_instance) (by rfl) (by rfl) (Tr.ent (Ent.pick (by focus ((repeat (first | exact Rem.here | apply Rem.there)); done)) (Ent.refl _)) (hon0 _))) (by rfl) ?_; rintro _ _ ⟨rfl, rfl⟩) | (refine sc_c (by rfl) (C_call (by rfl) (by infer_instance) (by rfl) (by rfl) (Tr.ent (Ent.pick (by focus ((repeat (first | exact Rem.here | apply Rem.there)); done)) (Ent.refl _)) (hon1 _))) (by rfl) ?_; rintro _ _ ⟨rfl, rfl⟩))
    | (refine s1_indexAddr ?_; refine sc_r (R_indexAddr (by rfl) (by rfl) (by omega)) (by rfl) ?_)
    | refine swl_nil ?_
    | refine sx_next ?_
    | refine sw_seq ?_
    | refine sw_region ?_
    | refine sw_block ?_
    | refine sx_block_here ?_
    | fail)
    refine sw_loop (γ := Nat) (fun k => sl.length - k) (fun k => [(0, .slice pl nl cl), (5, .pointer (some ⟨m, 0, none⟩)), (10, .slice pG (sl.map i64n).length cG), (17, .int .i64 k)])
      (fun _ => vp m d a b val :: vec 3 1 (sl.map i64n) (.slice pG (sl.map i64n).length cG) :: L) (fun k => k ≤ sl.length) 0 (by omega)
      (subE.cons rfl (subE.cons rfl (subE.cons rfl (subE.cons rfl subE.nil)))) (by
        refine Ent.trans ?_ (vp_close (s := (s1, [(a, s2), (b, s3)])) hst)
        dsimp only
        (repeat (first | exact Ent.refl _ | exact Ent.nil | (apply Ent.pick; focus ((repeat (first | exact Rem.here | apply Rem.there)); done)) | apply Ent.drop))) ?_
    intro k hk
    by_cases hlt : k < sl.length
    · obtain ⟨bG, oG, rfl⟩ := hvG.ptr (by omega)
      obtain ⟨i1, i2, i3⟩ := hsl _ (List.getElem_mem hlt)
      have heG : (sl.map i64n).getD k #[] = #[.int .i64 sl[k]] := by simp [hlt, i64n]
      have hat := hh.at_ k (by rw [List.length_map]; exact hlt)
      have hwh := hh.wh (segP bss sl[k]) (List.mem_map_of_mem (List.getElem_mem hlt))
      simp only [List.getElem_map] at hat
      generalize sl[k] = ix at *
      obtain ⟨b1, o1, rfl⟩ := hll.ptr (by omega)
      have hib : ix < bss.length := by omega
      have he1 := bs_get hib
      have hgd : bss.getD ix dfl = bss[ix] := by simp [hib]
      have hxi := hx _ (List.getElem_mem hib)
      have hbyi := hby _ (List.getElem_mem hib)
      have hpt := fun (L : List HP) (hl : SlC L bss[ix].p 1 bss[ix].n bss[ix].c (bss[ix].l.map u8c)) => law22_part' (1 + (ix : Int)) bss[ix].l hbyi (L := L) hl
      have hseg : segP bss ix = (part22 (1 + (ix : Int)) bss[ix].l, blks22 (bss[ix].l.take 13)) := by unfold segP; rw [hgd]
      rw [hseg] at hat hwh
      dsimp only at hat hwh
      have hbl : (blks22 (bss[ix].l.take 13)).length ≤ 13 := by simp [blks22]; omega
      clear hgd hbyi i3 hseg
      generalize part22 (1 + (ix : Int)) bss[ix].l = P at *
      generalize blks22 (bss[ix].l.take 13) = bl at *
      generalize bss[ix] = X at *
      repeat' (first
    | refine swl_op ?_
    | (refine s1_move ?_; refine sc_r (R_move (by rfl)) (by rfl) ?_)
    | (refine s1_bin ?_; refine sc_r (R_lss (by rfl) (by rfl)) (by rfl) ?_)
    | (refine s1_call ?_; refine sc_r (R_len (by rfl)) (by rfl) ?_)
    | refine swl_nil ?_
    | refine sx_next ?_
    | refine sw_seq ?_
    | refine sw_region ?_
    | refine sw_block ?_
    | refine sw_cond_pos (by rfl) (by first | assumption | omega) ?_
    | refine sw_skip ?_
    | fail)
      refine sw_mid (γ := Nat × Option Addr × Nat × Option Addr × Nat × List BS) (fun q => [(0, .slice (some ⟨b1, o1, none⟩) nl cl), (5, .pointer (some ⟨m, 0, none⟩)), (10, .slice (some ⟨bG, oG, none⟩) (sl.map i64n).length cG), (17, .int .i64 k), (18, .pointer (some ⟨q.1, 0, none⟩)), (19, .slice q.2.2.2.1 (q.2.2.2.2.2.map BS.cell).length q.2.2.2.2.1)])
        (fun q => pt q.1 (.cells #[.int .i64 P.seq, .int .i64 P.next, .bool P.fin, .slice q.2.1 (P.l.map EntS.cells).length q.2.2.1] 34) :: vec 72 4 (P.l.map EntS.cells) (.slice q.2.1 (P.l.map EntS.cells).length q.2.2.1) :: vec 22 1 (q.2.2.2.2.2.map BS.cell) (.slice q.2.2.2.1 (q.2.2.2.2.2.map BS.cell).length q.2.2.2.2.1) :: blksP 5 q.2.2.2.2.2 :: vp m d a b val :: vec 3 1 (sl.map i64n) (.slice (some ⟨bG, oG, none⟩) (sl.map i64n).length cG) :: L)
        (fun q => SlOK q.2.1 (P.l.map EntS.cells).length q.2.2.1 ∧ SlOK q.2.2.2.1 (q.2.2.2.2.2.map BS.cell).length q.2.2.2.2.1 ∧ (∀ x ∈ q.2.2.2.2.2, BSok x) ∧ q.2.2.2.2.2.map BS.l = bl) ?_ ?_
      · refine sw_openL (vec 3 1 (sl.map i64n) (.slice (some ⟨bG, oG, none⟩) (sl.map i64n).length cG) :: L) follows (by decide +kernel) (by (repeat (first | exact Ent.refl _ | exact Ent.nil | (apply Ent.pick; focus ((repeat (first | exact Rem.here | apply Rem.there)); done)) | apply Ent.drop))) ?_
        repeat' (first
    | (refine s1_move ?_; refine sc_r (R_move (by rfl)) (by rfl) ?_)
    | (refine s1_load ?_; refine sc_r (L_load_el1 (by rfl) (by infer_instance) (by omega) (by first | assumption | rfl)) (by rfl) ?_)
    | (refine s1_bin ?_; refine sc_r (R_add64 (by rfl) (by rfl) (by omega)) (by rfl) ?_)
    | (refine s1_indexAddr ?_; refine sc_r (R_indexAddr (by rfl) (by rfl) (by omega)) (by rfl) ?_)
    | (refine swg_take 0 (by decide +kernel) (by rfl) (fun _ _ => wanted_none) ?_)
    | (refine swg_take 1 (by decide +kernel) (by rfl) (fun _ _ => wanted_none) ?_)
    | (refine swg_take 2 (by decide +kernel) (by rfl) (fun _ _ => wanted_none) ?_)
    | (refine swg_take 3 (by decide +kernel) (by rfl) (fun _ _ => wanted_none) ?_)
    | (refine swg_take 4 (by decide +kernel) (by rfl) (fun _ _ => wanted_none) ?_)
    | (refine swg_take 5 (by decide +kernel) (by rfl) (fun _ _ => wanted_none) ?_)
    | (refine swg_take 6 (by decide +kernel) (by rfl) (fun _ _ => wanted_none) ?_)
    | (refine swg_take 7 (by decide +kernel) (by rfl) (fun _ _ => wanted_none) ?_)
    | (refine swg_take 8 (by decide +kernel) (by rfl) (fun _ _ => wanted_none) ?_)
    | (refine swg_take 9 (by decide +kernel) (by rfl) (fun _ _ => wanted_none) ?_)
    | (refine swg_take 10 (by decide +kernel) (by rfl) (fun _ _ => wanted_none) ?_)
    | (refine swg_take 11 (by decide +kernel) (by rfl) (fun _ _ => wanted_none) ?_)
    | fail)

        refine swg_choice (rs := [12, 17]) (by decide +kernel) rfl ?_
        intro j hj
        simp only [List.mem_cons, List.not_mem_nil, or_false] at hj
        rcases hj with rfl | rfl
        · refine swc_op (by rfl) (fun _ _ => wanted_none) ?_
          repeat' (first
    | (refine s1_call ?_; (refine sc_c (by rfl) (C_call (by rfl) (by infer_instance) (by rfl) (by rfl) (hpt _ (by infer_instance))) (by rfl) ?_; rintro _ _ ⟨pP, cP, pB, cB, sS, xs, rfl, hvP, hvB, hok1, hbs1, rfl⟩))
    | (apply And.intro; focus ((repeat (first | exact Ent.refl _ | exact Ent.nil | (apply Ent.pick; focus ((repeat (first | exact Rem.here | apply Rem.there)); done)) | apply Ent.drop)); done))
    | fail)
          refine swg_order [(13, true), (14, true), (15, true), (16, true), (17, false), (18, false), (19, true), (20, true)] (by rfl) (by decide +kernel) ?_
          repeat' (first
    | (refine s1_move ?_; refine sc_r (R_move (by rfl)) (by rfl) ?_)
    | (refine s1_assign ?_; refine sc_r (R_assign (by rfl)) (by rfl) ?_)
    | (refine s1_store ?_; (refine sc_w (by rfl) (W_storeAll (by rfl) (by rfl) (by infer_instance) (by rfl) (by rfl) (by rfl)) (by rfl) ?_; rintro _ _ ⟨rfl, rfl⟩))
    | (refine s1_alloc ?_; (refine sc_w (by rfl) W_allocA (by rfl) ?_; rintro _ _ ⟨_, rfl, rfl⟩))
    | (refine s1_any ?_; refine sc_r (R_extract (by rfl) (by rfl)) (by rfl) ?_)
    | refine swh_lt (by rfl) (fun _ _ => wanted_none) ?_
    | refine swh_hv (by rfl) (fun _ _ => wanted_none) ?_
    | refine swh_nil ?_
    | (apply And.intro; focus ((repeat (first | exact Ent.refl _ | exact Ent.nil | (apply Ent.pick; focus ((repeat (first | exact Rem.here | apply Rem.there)); done)) | apply Ent.drop)); done))
    | fail)
          exact sx_mid (_, _, _, _, _, xs) ⟨hvP, hvB, hok1, hbs1⟩ (subE.cons rfl (subE.cons rfl (subE.cons rfl (subE.cons rfl (subE.cons rfl (subE.cons rfl subE.nil)))))) (by (repeat (first | exact Ent.refl _ | exact Ent.nil | (apply Ent.pick; focus ((repeat (first | exact Rem.here | apply Rem.there)); done)) | apply Ent.drop)))
        · refine swc_op (by rfl) (fun _ _ => wanted_none) ?_
          repeat' (first
    | (refine s1_alloc ?_; (refine sc_w (by rfl) W_allocA (by rfl) ?_; rintro _ _ ⟨_, rfl, rfl⟩))
    | (apply And.intro; focus ((repeat (first | exact Ent.refl _ | exact Ent.nil | (apply Ent.pick; focus ((repeat (first | exact Rem.here | apply Rem.there)); done)) | apply Ent.drop)); done))
    | fail)
          refine swg_order [(12, false), (13, true), (14, true), (15, true), (16, true), (18, false), (19, true), (20, true)] (by rfl) (by decide +kernel) ?_
          repeat' (first
    | (refine s1_move ?_; refine sc_r (R_move (by rfl)) (by rfl) ?_)
    | (refine s1_assign ?_; refine sc_r (R_assign (by rfl)) (by rfl) ?_)
    | (refine s1_call ?_; (refine sc_c (by rfl) (C_call (by rfl) (by infer_instance) (by rfl) (by rfl) (hpt _ (by infer_instance))) (by rfl) ?_; rintro _ _ ⟨pP, cP, pB, cB, sS, xs, rfl, hvP, hvB, hok1, hbs1, rfl⟩))
    | (refine s1_store ?_; (refine sc_w (by rfl) (W_storeAll (by rfl) (by rfl) (by infer_instance) (by rfl) (by rfl) (by rfl)) (by rfl) ?_; rintro _ _ ⟨rfl, rfl⟩))
    | (refine s1_any ?_; refine sc_r (R_extract (by rfl) (by rfl)) (by rfl) ?_)
    | refine swh_lt (by rfl) (fun _ _ => wanted_none) ?_
    | refine swh_hv (by rfl) (fun _ _ => wanted_none) ?_
    | refine swh_nil ?_
    | (apply And.intro; focus ((repeat (first | exact Ent.refl _ | exact Ent.nil | (apply Ent.pick; focus ((repeat (first | exact Rem.here | apply Rem.there)); done)) | apply Ent.drop)); done))
    | fail)
          exact sx_mid (_, _, _, _, _, xs) ⟨hvP, hvB, hok1, hbs1⟩ (subE.cons rfl (subE.cons rfl (subE.cons rfl (subE.cons rfl (subE.cons rfl (subE.cons rfl subE.nil)))))) (by (repeat (first | exact Ent.refl _ | exact Ent.nil | (apply Ent.pick; focus ((repeat (first | exact Rem.here | apply Rem.there)); done)) | apply Ent.drop)))
      · rintro ⟨b18, pP, cP, pB, cB, xs⟩ ⟨hvP, hvB, hok1, hbs1⟩
        dsimp only at hvP hvB hok1 hbs1 ⊢
        have hget := fun (F : List HP) (hg : HalvesC F) => vp_Get m d a b val (seg := 8 + (k : Int)) (by omega) hwh hat (F := F)
        have hsame := fun (L : List HP) (pa pb : Option Addr) (n ca m cb : Nat) (ha : SlC L pa 4 n ca (P.l.map EntS.cells)) (hb : SlC L pb 4 m cb (P.l.map EntS.cells)) => ref6_Same P P ha hb
        rw [decide_eq_true rfl] at hsame
        simp only [PartS.cells] at hget hsame
        repeat' (first
    | refine swl_op ?_
    | (refine s1_move ?_; refine sc_r (R_move (by rfl)) (by rfl) ?_)
    | (refine s1_load ?_; refine sc_r (L_load_all (by rfl) (by infer_instance) (by rfl)) (by rfl) ?_)
    | (refine s1_assign ?_; refine sc_r (R_assign (by rfl)) (by rfl) ?_)
    | (refine s1_pick ?_; refine sc_r (R_pick_f (by rfl) (by rfl)) (by rfl) ?_)
    | (refine s1_bin ?_; first | refine sc_r (R_add64 (by rfl) (by rfl) (by omega)) (by rfl) ?_ | refine sc_r (R_neq (by rfl) (by rfl)) (by rfl) ?_)
    | (refine s1_call ?_; first | (refine sc_c (by rfl) (C_call (by rfl) (by infer_instance) (by rfl) (by rfl) (Tr.ent (Ent.pick (by focus ((repeat (first | exact Rem.here | apply Rem.there)); done)) (Ent.refl _)) (hget _ (by infer_instance)))) (by rfl) ?_; rintro _ _ ⟨sv, bv, zs, rfl, hok3, hbs3, rfl⟩; have hlz : (zs.map BS.cell).length = (xs.map BS.cell).length := (by simpa using congrArg List.length (hbs3.trans hbs1.symm)); refine swl_know (fun h H => vec_fact H) ?_; rintro ⟨pR, cR, rfl, hvR⟩; refine swl_know (fun h H => vec_fact (Ent.own (show Ent _ [vec 22 1 (zs.map BS.cell) bv] from by (repeat (first | exact Ent.refl _ | exact Ent.nil | (apply Ent.pick; focus ((repeat (first | exact Rem.here | apply Rem.there)); done)) | apply Ent.drop))) H)) ?_; rintro ⟨pD, cD, rfl, hvD⟩) | (refine sc_c (by rfl) (C_call (by rfl) (by infer_instance) (by rfl) (by rfl) (hsame _ _ _ _ _ _ _ (by infer_instance) (by infer_instance))) (by rfl) ?_; rintro _ _ ⟨rfl, rfl⟩) | refine sc_r (R_len (by rfl)) (by rfl) ?_)
    | (refine s1_store ?_; (refine sc_w (by rfl) (W_storeAll (by rfl) (by rfl) (by infer_instance) (by rfl) (by rfl) (by rfl)) (by rfl) ?_; rintro _ _ ⟨rfl, rfl⟩))
    | (refine s1_alloc ?_; (refine sc_w (by rfl) W_allocA (by rfl) ?_; rintro _ _ ⟨_, rfl, rfl⟩))
    | (refine s1_any ?_; first | refine sc_r (R_not (by rfl)) (by rfl) ?_ | refine sc_r (R_extract (by rfl) (by rfl)) (by rfl) ?_)
    | refine swl_nil ?_
    | refine sx_next ?_
    | refine sw_seq ?_
    | refine sw_region ?_
    | refine sw_block ?_
    | refine swl_g_on (by rfl) (by rfl) ?_
    | refine sw_cond_npos (by rfl) (by first | assumption | omega) ?_
    | refine sw_skip ?_
    | fail)
        have hnx : (xs.map BS.cell).length = xs.length := List.length_map _
        have hnz : (zs.map BS.cell).length = zs.length := List.length_map _
        have hx13 : xs.length ≤ 13 := by have := congrArg List.length hbs1; simp at this; omega
        refine sw_loop (γ := Nat) (fun i => zs.length - i) (fun i => [(0, .slice (some ⟨b1, o1, none⟩) nl cl), (5, .pointer (some ⟨m, 0, none⟩)), (10, .slice (some ⟨bG, oG, none⟩) (sl.map i64n).length cG), (17, .int .i64 k), (19, .slice pB (xs.map BS.cell).length cB), (22, .slice pD (zs.map BS.cell).length cD), (24, .int .i64 i)])
          (fun _ => vec 22 1 (zs.map BS.cell) (.slice pD (zs.map BS.cell).length cD) :: blksP 147 zs :: vec 22 1 (xs.map BS.cell) (.slice pB (xs.map BS.cell).length cB) :: blksP 5 xs :: vp m d a b val :: vec 3 1 (sl.map i64n) (.slice (some ⟨bG, oG, none⟩) (sl.map i64n).length cG) :: L) (fun i => i ≤ zs.length) 0 (by omega)
          (subE.cons rfl (subE.cons rfl (subE.cons rfl (subE.cons rfl (subE.cons rfl (subE.cons rfl (subE.cons rfl subE.nil))))))) (by (repeat (first | exact Ent.refl _ | exact Ent.nil | (apply Ent.pick; focus ((repeat (first | exact Rem.here | apply Rem.there)); done)) | apply Ent.drop))) ?_
        intro i hi
        by_cases hlti : i < zs.length
        · have hltx : i < xs.length := by omega
          obtain ⟨bB, oB, rfl⟩ := hvB.ptr (by omega)
          obtain ⟨bD, oD, rfl⟩ := hvD.ptr (by omega)
          have he1 := bs_get hltx
          have he2 := bs_get hlti
          have hbe := blk_l (hbs3.trans hbs1.symm) hlti hltx
          have hcz := fun (L L' : List HP) (h : RemC (blksP 147 zs) L L') => blks_read h hok3 zs[i] (List.getElem_mem hlti)
          have hcx := fun (L L' : List HP) (h : RemC (blksP 5 xs) L L') => blks_read h hok1 xs[i] (List.getElem_mem hltx)
          generalize zs[i] = zi at *
          generalize xs[i] = xi at *
          repeat' (first
    | (refine s1_bin ?_; refine sc_r (R_neq_str1 (by rfl) (by rfl) (by rw [hbe])) (by rfl) ?_)
    | refine swl_op ?_
    | (refine s1_move ?_; refine sc_r (R_move (by rfl)) (by rfl) ?_)
    | (refine s1_load ?_; refine sc_r (L_load_el1 (by rfl) (by infer_instance) (by omega) (by first | assumption | rfl)) (by rfl) ?_)
    | (refine s1_assign ?_; refine sc_r (R_assign (by rfl)) (by rfl) ?_)
    | (refine s1_bin ?_; first | refine sc_r (R_lss (by rfl) (by rfl)) (by rfl) ?_ | refine sc_r (R_add64 (by rfl) (by rfl) (by omega)) (by rfl) ?_)
    | (refine s1_call ?_; refine sc_r (R_len (by rfl)) (by rfl) ?_)
    | (refine s1_indexAddr ?_; refine sc_r (R_indexAddr (by rfl) (by rfl) (by omega)) (by rfl) ?_)
    | (refine s1_conv ?_; first | refine sc_r (R_bytes_string (l := zi.l) (by rfl) (hcz _ _ (by infer_instance))) (by rfl) ?_ | refine sc_r (R_bytes_string (l := xi.l) (by rfl) (hcx _ _ (by infer_instance))) (by rfl) ?_)
    | refine swl_nil ?_
    | refine sx_next ?_
    | refine sw_seq ?_
    | refine sw_region ?_
    | refine sw_block ?_
    | refine sx_block_normal ?_
    | refine sw_cond_false (by rfl) ?_
    | refine sw_cond_pos (by rfl) (by first | assumption | omega) ?_
    | refine sw_skip ?_
    | refine swh_lt (by rfl) (fun _ _ => wanted_none) ?_
    | refine swh_nil ?_
    | (refine sw_draw [(0, true), (1, true), (2, true), (3, true), (4, true), (5, true), (6, true), (7, true), (8, true), (9, true), (10, true)] follows ?_ ?_ ?_; (focus rfl); (focus (decide +kernel)))
    | fail)
          exact sx_back (i + 1) (by omega) (by omega) (subE.cons rfl (subE.cons rfl (subE.cons rfl (subE.cons rfl (subE.cons rfl (subE.cons rfl (subE.cons rfl subE.nil))))))) (by (repeat (first | exact Ent.refl _ | exact Ent.nil | (apply Ent.pick; focus ((repeat (first | exact Rem.here | apply Rem.there)); done)) | apply Ent.drop)))
        · repeat' (first
    | refine swl_op ?_
    | (refine s1_move ?_; refine sc_r (R_move (by rfl)) (by rfl) ?_)
    | (refine s1_assign ?_; refine sc_r (R_assign (by rfl)) (by rfl) ?_)
    | (refine s1_bin ?_; first | refine sc_r (R_lss (by rfl) (by rfl)) (by rfl) ?_ | refine sc_r (R_add64 (by rfl) (by rfl) (by omega)) (by rfl) ?_)
    | (refine s1_call ?_; refine sc_r (R_len (by rfl)) (by rfl) ?_)
    | refine swl_nil ?_
    | refine sx_next ?_
    | refine sw_seq ?_
    | refine sw_region ?_
    | refine sx_past_exit ?_
    | refine sx_block_normal ?_
    | refine sx_block_here ?_
    | refine sw_cond_neg (by rfl) (by first | assumption | omega) ?_
    | refine sw_exit ?_
    | fail)
          exact sx_back (k + 1) (by omega) (by omega) (subE.cons rfl (subE.cons rfl (subE.cons rfl (subE.cons rfl subE.nil)))) (by (repeat (first | exact Ent.refl _ | exact Ent.nil | (apply Ent.pick; focus ((repeat (first | exact Rem.here | apply Rem.there)); done)) | apply Ent.drop)))
    · repeat' (first
    | refine swl_op ?_
    | (refine s1_move ?_; refine sc_r (R_move (by rfl)) (by rfl) ?_)
    | (refine s1_assign ?_; refine sc_r (R_assign (by rfl)) (by rfl) ?_)
    | (refine s1_bin ?_; refine sc_r (R_lss (by rfl) (by rfl)) (by rfl) ?_)
    | (refine s1_call ?_; first | (refine sc_c (by rfl) (C_call (by rfl) (by infer_instance) (by rfl) (by rfl) (cK _ (by infer_instance))) (by rfl) ?_; rintro _ _ ⟨rfl, rfl⟩) | refine sc_r (R_len (by rfl)) (by rfl) ?_)
    | refine swl_nil ?_
    | refine sx_next ?_
    | refine sw_seq ?_
    | refine sw_region ?_
    | refine sx_past_exit ?_
    | refine sx_block_here ?_
    | refine sw_cond_neg (by rfl) (by first | assumption | omega) ?_
    | refine sw_ret ?_
    | refine sw_exit ?_
    | fail)
      exact sx_ret_of (res1 rfl (ResOne.tmp rfl)) _ ⟨rfl, rfl⟩ (by (repeat (first | exact Ent.refl _ | exact Ent.nil | (apply Ent.pick; focus ((repeat (first | exact Rem.here | apply Rem.there)); done)) | apply Ent.drop)))
end Go.Proofs.YtjdnflhejfcgdaaDoor

/-
  A slice of slices that an argument holds.
-/
namespace Go.SL
open Go Go.Deep Go.ChangeShapes Go.WideShapes


section
variable {H : Type} {enc : TypeId × Value → H} {P : Program} {w : World} {base : Nat} {spare : Nat → Bool} {held : Bool}
/-- A slice that an argument holds: a list of things, each of k cells. -/
theorem open_slcD {α : Type} [Inhabited α] (ec : α → Array Value) (Q : α → Prop) {k : Nat} (hk : ∀ a, (ec a).size = k) (h0 : 0 < k) {t e : TypeId} {fuel : Nat} {p : Option Addr} {n cap : Nat} {x : DataW H × List MemPlace} (ht : P.underlying t = some (.slice e)) (hc : P.cellsOf e = k)
    (hel : ∀ cs m y, (∃ elems sp, x.1 = .slice elems sp ∧ y.1 ∈ elems) → DataW.trod enc P w base spare held m e cs = some y → ∃ a, cs = (ec a).toList ∧ Q a) (h : DataW.trod enc P w base spare held fuel t [.slice p n cap] = some x)
    (hb : ∀ elems sp, x.1 = .slice elems sp → elems.length ≤ 140737488355328) :
    ∃ l : List α, SlC [whole w] p k n cap (l.map ec) ∧ (∀ a ∈ l, Q a) ∧ n = l.length := by
  rcases open_slice ht h with ⟨h1, _⟩ | ⟨a, len, cp, m, fu, D, Pl, h1, _, hl, hm, hmm, rfl, hx⟩
  · simp only [List.cons.injEq, Value.slice.injEq, and_true] at h1
    obtain ⟨rfl, rfl, rfl⟩ := h1
    exact ⟨[], ⟨rfl, Nat.le_refl _, by simp, by simp, by simp⟩, by simp, rfl⟩
  · simp only [List.cons.injEq, Value.slice.injEq, and_true] at h1
    obtain ⟨rfl, rfl, rfl⟩ := h1
    have hlm : n ≤ m := by rw [hmm]; split <;> omega
    have hbd : n ≤ 140737488355328 := by have := hb _ _ rfl; simpa using this
    have each : ∀ i, i < n → ∃ z : α, Q z ∧ ∀ j, j < k → w.cell? ((a.add (i * k)).add j) = (ec z)[j]? := by
      intro i hi
      obtain ⟨cs', h1, h2⟩ := hx i (by omega)
      rw [hc] at h1
      obtain ⟨_, hlen, hcell⟩ := World.cells?_some h1
      obtain ⟨z, rfl, hq⟩ := hel _ _ _ ⟨_, _, rfl, List.mem_map.2 ⟨i, List.mem_range.2 hi, rfl⟩⟩ h2
      exact ⟨z, hq, fun j hj => by rw [hcell j hj]; simp⟩
    obtain ⟨f, hf⟩ := choose_lt each
    have hlen : ((List.range n).map f).length = n := by simp
    refine ⟨(List.range n).map f, ⟨by simp, hl, hbd, ?_, ?_⟩, ?_, hlen.symm⟩
    · intro hn
      have h1 := (hf 0 hn).2 0 h0
      rw [Array.getElem?_eq_getElem (by rw [hk]; exact h0)] at h1
      have hs := World.cell?_spot h1
      obtain ⟨b, off, spot⟩ := a
      have : spot = none := by simpa [Addr.add] using hs
      exact ⟨b, off, by rw [this]⟩
    · intro hh hown i hi
      have hcl := (hf i hi).2
      have hs0 := hcl 0 h0
      rw [Array.getElem?_eq_getElem (by rw [hk]; exact h0)] at hs0
      obtain ⟨b, off, spot⟩ := a
      have hz0 := (hf 0 (by omega)).2 0 h0
      rw [Array.getElem?_eq_getElem (show 0 < (ec (f 0)).size by rw [hk]; exact h0)] at hz0
      have hsp : spot = none := by have := World.cell?_spot hz0; simpa [Addr.add] using this
      subst hsp
      simp only [addr_add] at hcl hs0
      obtain ⟨c, T, fr, hb1, hc1⟩ := cells_of_cell hs0
      have hall : ∀ j, j < k → c[off + i * k + j]? = (ec (f i))[j]? := by
        intro j hj
        have h2 := hcl j hj
        rw [cell?_of hb1] at h2
        exact h2
      have hlast := hall (k - 1) (by omega)
      rw [Array.getElem?_eq_getElem (show k - 1 < (ec (f i)).size by rw [hk]; omega)] at hlast
      have hsz := (Array.getElem?_eq_some_iff.1 hlast).1
      refine ⟨b, off, c, T, fr, rfl, Reads.own (Reads.whole hb1) hown, by omega, ?_⟩
      have hget : (((List.range n).map f).map ec).getD i #[] = ec (f i) := by simp [hi]
      rw [hget]
      apply Array.ext_getElem?
      intro j
      rw [Array.getElem?_extract]
      by_cases hj : j < k
      · rw [if_pos (by omega)]; exact hall j hj
      · rw [if_neg (by omega), Array.getElem?_eq_none (by rw [hk]; omega)]
    · intro z hz
      obtain ⟨i, hi, rfl⟩ := List.mem_map.1 hz
      exact (hf i (List.mem_range.1 hi)).1

theorem weightsAll_mem' {H : Type} {P : Program} {e : TypeId} : ∀ {l : List (DataW H)} {d : DataW H}, d ∈ l → ∀ n ∈ d.weights P e, n ∈ DataW.weightsAll P e l
  | d' :: r, d, hd, n, hn => by
    simp only [DataW.weightsAll, List.mem_append]
    rcases List.mem_cons.1 hd with rfl | h
    · exact Or.inl hn
    · exact Or.inr (weightsAll_mem' h n hn)
theorem sized_in {H : Type} {P : Program} {ts : List TypeId} {ds : List (DataW H)} (h : (DataW.weightsEach P ts ds).all (· ≤ reachBytes) = true) {j : Nat} {t e q : TypeId} {elems spare e' sp' : List (DataW H)}
    (ht : ts[j]? = some t) (hd : ds[j]? = some (.slice elems spare)) (hu : P.underlying t = some (.slice e)) (hu2 : P.underlying e = some (.slice q)) (hx : DataW.slice e' sp' ∈ elems) : (e'.length + sp'.length) * P.bytesOf q ≤ reachBytes := by
  refine of_decide_eq_true (List.all_eq_true.1 h _ (DataW.weights_mem_each ht hd _ ?_))
  simp only [DataW.weights, hu, List.mem_cons, List.mem_append]
  exact Or.inr (Or.inl (weightsAll_mem' hx _ (by simp [DataW.weights, hu2])))
end
end Go.SL

/-
  VaultKeeps returns true for every input and leaves its arguments as they were, whatever memory it is called in; crc.halves, which it reads, is tied to the program's text; no further condition.
-/
namespace Go.Proofs.YtjdnflhejfcgdaaDoor
open Go Go.SL Go.ChangeShapes Go.WideShapes Go.ChangeAt Go.RowKit Go.Joins

instance : Inhabited BS := ⟨dfl⟩

set_option maxRecDepth 100000 in
theorem vaultKeeps_lifted (os : Os) (started : os.Started) (H : Type) (enc : TypeId × Value → H) :
    ReturnsInHanded {} Tryd.checked os 5 .any (fun w args => (Rows.vaultKeepsSpec.pre enc Tryd.prog Tryd.f5 [] false w args ∧ laidMetH Tryd.prog halvesLaid w) ∧ sizedMet enc Tryd.prog Tryd.f5 (OpenSpec.ofChange Rows.vaultKeepsSpec) false w args)
      (Rows.vaultKeepsSpec.post enc Tryd.prog Tryd.f5 false true false false) := by
  refine returnsInHanded_of_change_and (C := Tryd.checked) (X := fun w _ => laidMetH Tryd.prog halvesLaid w) (fun _ _ _ hh h => h.of_heap hh) own_knob started (by kernel_rfl) Tryd.func5
    (ChangeSpec.witness_shaped (enc := enc) (C := Tryd.checked) (os := os) (X := fun w _ => laidMetH Tryd.prog halvesLaid w) false (World.doorLaid Tryd.prog 400 os) #[.slice none 0 0, .slice none 0 0] 20 rfl (World.shaped_of_RefB (by kernel_rfl) (by kernel_rfl)) (by kernel_rfl) (by kernel_rfl) (by kernel_rfl) (door_met os _)) ?_
  intro W base args ds gs before hval0 hW _ hsz0 hL _
  have hval : ∀ (j : Nat) t v, Tryd.f5.params[j]? = some t → args[j]? = some v → Value.okWide Tryd.prog W .any base t v := hval0
  have hsz : (DataW.weightsEach Tryd.prog (Tryd.f5.params.toList ++ Rows.vaultKeepsSpec.plain.varTypes Tryd.prog) (ds ++ gs)).all (· ≤ reachBytes) = true := hsz0
  have hW' := hW
  obtain ⟨p, q, hA0, hV, rfl, hfz, hnd⟩ := hW
  have hA : DataW.TrodAll enc Tryd.prog W 0 (fun _ => true) true Tryd.f5.params.toList args.toList ds p := hA0
  rw [Tryd.params5] at hA hval hsz
  obtain ⟨v0, vs0, d0, ds0, p0, q0, hargs, rfl, rfl, h0, r0⟩ := trodAll_cons hA
  obtain ⟨v1, vs1, d1, ds1, p1, q1, rfl, rfl, rfl, h1, r1⟩ := trodAll_cons r0
  obtain ⟨rfl, rfl, rfl⟩ := trodAll_nil r1
  obtain rfl : args = #[v0, v1] := by cases args; simp_all
  obtain ⟨rfl, rfl⟩ := trodVars_none hV
  have k0 := h0
  have lt0 : ∀ x ∈ p0, x.block < W.heap.size := by obtain ⟨m, hm⟩ := k0; exact DataW.trod_lt m _ _ _ hm
  obtain ⟨a0, len0, cap0, rfl⟩ := okWide_slice Tryd.underlying35 (hval 0 _ v0 rfl rfl)
  obtain ⟨bss, hl0, wB, _⟩ : ∃ l : List BS, SlC [whole W] a0 1 len0 cap0 (l.map BS.cell) ∧ (∀ x ∈ l, SlC [whole W] x.p 1 x.n x.c (x.l.map u8c) ∧ ∀ z ∈ x.l, (Lit.int .u8 z).wf = true) ∧ len0 = l.length := by
    obtain ⟨fuel, hf⟩ := h0
    refine open_slcD BS.cell (fun x => SlC [whole W] x.p 1 x.n x.c (x.l.map u8c) ∧ ∀ z ∈ x.l, (Lit.int .u8 z).wf = true) (fun _ => rfl) (k := 1) (by decide) Tryd.underlying35 (by kernel_rfl) ?_ (by simpa [Value.cells] using hf) ?_
    · rintro cs m ⟨yd, yp⟩ ⟨elems, sp, he, hy⟩ hT
      obtain rfl : d0 = .slice elems sp := he
      obtain ⟨a, l, c, rfl⟩ := slice_form Tryd.underlying22 hT
      obtain ⟨xs, h1, h2, h3⟩ := open_ints Tryd.underlying22 Tryd.underlying5 (by kernel_rfl) hT (by
        rintro e' sp' he'
        obtain rfl : yd = .slice e' sp' := he'
        have h3 := sized_in hsz (j := 0) (t := 35) (e := 22) (q := 5) rfl rfl Tryd.underlying35 Tryd.underlying22 hy
        have h4 : Tryd.prog.bytesOf 5 = 1 := by kernel_rfl
        rw [h4] at h3
        have h5 := reachBytes_lt
        omega)
      exact ⟨⟨a, l, c, xs⟩, rfl, h1, h2⟩
    · rintro elems sp rfl
      have h3 := sized_slice hsz (j := 0) (t := 35) (e := 22) rfl rfl Tryd.underlying35
      have h4 : Tryd.prog.bytesOf 22 = 24 := by kernel_rfl
      rw [h4] at h3
      have h5 := reachBytes_lt
      omega

  have k1 := h1
  have lt1 : ∀ x ∈ p1, x.block < W.heap.size := by obtain ⟨m, hm⟩ := k1; exact DataW.trod_lt m _ _ _ hm
  obtain ⟨a1, len1, cap1, rfl⟩ := okWide_slice Tryd.underlying47 (hval 1 _ v1 rfl rfl)
  obtain ⟨far, hl1, w1, _⟩ : ∃ l : List Int, SlC [whole W] a1 1 len1 cap1 (l.map fun z => #[.int .i64 z]) ∧ (∀ z ∈ l, (Lit.int .i64 z).wf = true) ∧ len1 = l.length := by
    obtain ⟨fuel, hf⟩ := h1
    refine open_ints Tryd.underlying47 Tryd.underlying3 (by kernel_rfl) (by simpa [Value.cells] using hf) ?_
    rintro elems sp rfl
    have h3 := sized_slice hsz (j := 1) (t := 47) (e := 3) rfl rfl Tryd.underlying47
    have h4 : Tryd.prog.bytesOf 3 = 8 := by kernel_rfl
    rw [h4] at h3
    have h5 := reachBytes_lt
    omega
  have hC := halves_of_laid hL
  clear hA0 hval0
  refine (Tr.below (v := .bool true) ((law_VaultKeeps bss far hl0 (fun x hx => (wB x hx).1) (fun x hx z hz => wf_u8 ((wB x hx).2 z hz)) hl1 (L := [whole W])).weaken fun v L' h => ⟨L', Ent.refl _, h.1, h.2.symm⟩)).mono fun e W' ⟨he, bel⟩ => ?_
  subst he
  exact ⟨_, rfl, _, _, _, [], _, [], hW', trodAll_mk1 (shut_bool Tryd.underlying4 _), (trodAll_cons_mk (Below.trod laid_out (by kernel_rfl) (of_decide_eq_true (by kernel_rfl)) k0 bel lt0) (trodAll_cons_mk (Below.trod laid_out (by kernel_rfl) (of_decide_eq_true (by kernel_rfl)) k1 bel lt1) trodAll_mk0)), rfl, bel.frame _, fun h => by cases h⟩

theorem vaultKeeps_row : Rows.VaultKeepsSaid :=
  OpenClaim.holds_of_wide 5 Tryd.f5 rfl rfl rfl rfl rfl rfl rfl ⟨rfl, rfl, rfl, rfl, rfl⟩ rfl rfl rfl rfl rfl (by kernel_rfl) Tryd.func5 (by kernel_rfl)
    (of_decide_eq_true (by kernel_rfl)) (by unfold Func.isWrapper; first | (rw [if_pos (by decide +kernel)]; kernel_rfl) | (rw [if_neg (by decide +kernel)]; exact ⟨rfl, rfl⟩))
    (fun os started H enc _ => vaultKeeps_lifted os started H enc)

theorem vaultKeeps_holds : Rows.VaultKeepsCardSaid :=
  Claim7.holds_tied_plain_at .later [] [.data] true (true, "5b89e90cde3a50a738050261dd56ba187339b13d7acc54e8506573a99a4bbcc4") false
    vaultKeeps_row (fun _ h => by cases h) (by kernel_rfl) (fun _ h => by cases h) vaultKeeps_row_tie rfl ⟨rfl, rfl⟩ (by kernel_rfl) rfl
    (fun f fn hf hfn => by
      obtain rfl : f = 5 := Option.some.inj ((show Tryd.prog.funcNamed "haymow/haymowlaw22.VaultKeeps" = some 5 by kernel_rfl).symm.trans hf) |>.symm
      obtain rfl : fn = Tryd.f5 := (Option.some.inj (Tryd.func5.symm.trans hfn)).symm
      exact ⟨by kernel_rfl, fun j t ht => by
        rw [Tryd.params5] at ht
        have hm : t ∈ [35, 47] := by simpa using Array.mem_of_getElem? ht
        have hall : ([35, 47].all fun u => !Tryd.prog.wantsStandIn u) = true := by kernel_rfl
        exact (show Tryd.prog.wantsStandIn t = false by simpa using List.all_eq_true.1 hall t hm)⟩)
    (by kernel_rfl)
#print axioms vaultKeeps_holds
end Go.Proofs.YtjdnflhejfcgdaaDoor
