/-
  MediumRenews, walked.
-/
import Derived.Test.YtcpfehldofmipaaDoorLawK
namespace Go.Proofs.YtcpfehldofmipaaDoor
open Go Go.SL Go.Proofs

section
variable {g : Geo} {gens : List Int} {s : DevS} {vl : List (Nat × DevS)} {val : Int → List Int} {F : List HP} {vs : List Nat}
theorem mv_Renew (hM : MV g gens s vl val) (hvs : vl.map Prod.fst = vs) (m d : Nat) {k : Nat} (hk : k < vl.length) (hgl : k < gens.length) (hmax : gens.getD k 0 < 4294967295) [HalvesC F] :
    Tr Tryd.prog 22 [.pointer (some ⟨m, 0, none⟩), .int .i64 k].toArray (medP m d vs g gens :: devsP vl :: F)
      (fun r L' => r = .int .i64 0 ∧ L' = medP m d vs g (gens.set k (gens.getD k 0 + 1)) :: devsP (vl.set k (vl[k].1, reS vl[k].2 (labelF k (gens.getD k 0 + 1)))) :: F) := by
  subst hvs
  have hlm := hM.gv k hk
  simp only [labMay, decide_eq_true_eq] at hlm
  obtain ⟨h1, h2, h3, _⟩ := hM.renew hk hgl hmax
  have h := medium_Renew m d g gens vl k hk ⟨by omega, hmax⟩ h1 h2 (F := F)
  rw [h3] at h
  exact h
theorem MV.blank (hM : MV g gens s vl val) {k : Nat} (hk : k < vl.length) (hz : ∀ i, 1 ≤ i → i ≤ g.segs * 16 → val (volBase g k + i) = zeros128) : blMR vl k = (0, 0) := by
  have hmem := List.getElem_mem hk
  have hn := hM.nv _ hmem
  have hg := mayG_is hM.may
  unfold blMR
  rw [dif_pos (by omega)]
  simp only [Int.toNat_natCast]
  refine blank_zero fun j hj => ?_
  have ht : thereB vl[k].2 ((j + 1 : Nat) : Int) = true := by simp [thereB]; omega
  refine ⟨(hM.wv _ hmem).rdE ht, ?_⟩
  rw [(hM.wv _ hmem).rdB ht, hM.atv k hk _ (by omega) (by omega), hz _ (by omega) (by omega)]
  exact clear_zeros
theorem clearV_twice (g : Geo) (k : Nat) (val : Int → List Int) : clearV g k (clearV g k val) = clearV g k val := by
  funext c; unfold clearV; split <;> rfl
theorem cleanV_set {n : Nat} (h : cleanV n vl) {k : Nat} (a : Nat) {t : DevS} (ht : t.pend = []) : cleanV n (vl.set k (a, t)) := fun j hj hjn => by
  rw [List.length_set] at hj
  rw [List.getElem_set]
  split
  · exact ht
  · exact h j hj hjn
end
/-- behind i renewals of volume 1 -/
def renV (i : Nat) (val : Int → List Int) : Int → List Int := if i = 0 then val else clearV someG 1 val
theorem renV_succ (i : Nat) (val : Int → List Int) : clearV someG 1 (renV i val) = renV (i + 1) val := by
  unfold renV
  rw [if_neg (show ¬ i + 1 = 0 by omega)]
  split
  · rfl
  · exact clearV_twice _ _ _
theorem renV_at (i : Nat) (hi : i ≠ 0) (val : Int → List Int) (a : Int) (h : a ≤ 256) : renV i val a = if 208 < a then zeros128 else val a := by
  unfold renV clearV
  rw [if_neg hi]
  have h1 : volBase someG 1 = 208 := by decide
  have h2 : someG.segs * 16 = 48 := by decide
  rw [h1, h2]
  by_cases h3 : 208 < a
  · rw [if_pos h3, if_pos (by omega)]
  · rw [if_neg h3, if_neg (by omega)]

set_option maxRecDepth 100000 in
set_option maxHeartbeats 8000000 in
theorem law_MediumRenews (at' far : List Int) (times : Int) (htm : 0 ≤ times ∧ times ≤ 255) (hat : ∀ z ∈ at', 0 ≤ z ∧ z ≤ 65535) {pa pf : Option Addr} {na ca nf cf : Nat} {L : List HP} [HalvesC L] [ha : SlC L pa 1 na ca (at'.map u16c)] [hf : SlC L pf 1 nf cf (far.map i64c)] :
    Tr Tryd.prog 5 [.slice pa na ca, .int .u8 times, .slice pf nf cf].toArray L (fun v L' => v = .bool true ∧ L = L') := by
  have hna : at'.length = na := by simpa using ha.len
  have hbd := ha.bd
  refine tr_enter Tryd.func5 rfl Tryd.ntmps5 rfl fun w0 => ?_
  have cD := fun (L : List HP) => law21_devices someG someG_may (L := L)
  repeat' (first
    | refine swl_op ?_
    | (refine s1_move ?_; refine sc_r (R_move (by rfl)) (by rfl) ?_)
    | (refine s1_assign ?_; refine sc_r (R_assign (by rfl)) (by rfl) ?_)
    | (refine s1_call ?_; first | (refine sc_c (by rfl) (C_call (by rfl) (by infer_instance) (by rfl) (by rfl) (law21_some)) (by rfl) ?_; rintro _ _ ⟨rfl, rfl⟩) | (refine sc_c (by rfl) (C_call (by rfl) (by infer_instance) (by rfl) (by rfl) (cD _)) (by rfl) ?_; rintro _ _ ⟨d, vl, sl, r, rl, rfl, hvl, rfl⟩; refine swl_know (fun h H => vec_fact (Ent.own (show Ent _ [vec 26 1 ((vl.map Prod.fst).map ptrc) sl] from by (repeat (first | exact Ent.refl _ | exact Ent.nil | (apply Ent.pick; focus ((repeat (first | exact Rem.here | apply Rem.there)); done)) | apply Ent.drop))) H)) ?_; rintro ⟨pv, cv, rfl, hsl⟩))
    | (refine s1_any ?_; first | refine sc_r (R_not (by rfl)) (by rfl) ?_ | refine sc_r (R_extract (by rfl) (by rfl)) (by rfl) ?_)
    | refine swl_nil ?_
    | refine sx_next ?_
    | refine sw_seq ?_
    | refine sw_region ?_
    | refine sw_cond_false (by rfl) ?_
    | refine sw_skip ?_
    | fail)
  have hl2 : vl.length = 2 := by have := congrArg List.length hvl; simpa [someG] using this
  have hlv : ((vl.map Prod.fst).map ptrc).length = 2 := by simpa using hl2
  rw [hlv] at hsl ⊢
  have hff : Fact' (((vl.map Prod.fst).map ptrc).length = 2) := ⟨hlv⟩
  obtain ⟨_, _, _, hM0, hp0, hc0⟩ := MV.format someG_may (N := (16 + 16 * someG.disk).toNat) (M := (1 + 16 * someG.segs).toNat) (by decide) (by decide) hvl
  have cF := fun (F : List HP) (hg : HalvesC F) (pv : Option Addr) (nv cv : Nat) (hv : SlC F pv 1 nv cv ((vl.map Prod.fst).map ptrc)) => mv_Format someG_may (N := (16 + 16 * someG.disk).toNat) (M := (1 + 16 * someG.segs).toNat) (by decide) (by decide) hvl d hv
  have hvs0 : (fmV vl vl.length).map Prod.fst = vl.map Prod.fst := fmV_fst vl _
  have hl0 := fmV_len vl vl.length
  rw [hl2] at hM0 hc0 cF hvs0 hl0
  generalize ewfS (newDev (16 + 16 * someG.disk).toNat) (superF someG) = s0 at *
  generalize fmV vl 2 = vl0 at *
  have hG0 : (List.replicate 2 0 ++ List.replicate (8 - 2) (-1) : List Int).length = 8 ∧ (List.replicate 2 0 ++ List.replicate (8 - 2) (-1) : List Int).getD 1 0 = 0 ∧ (List.replicate 2 0 ++ List.replicate (8 - 2) (-1) : List Int).getD 0 0 = 0 := by decide
  generalize (List.replicate 2 0 ++ List.replicate (8 - 2) (-1) : List Int) = G0 at *
  generalize hvs : vl.map Prod.fst = vs at *
  repeat' (first
    | refine swl_op ?_
    | (refine s1_move ?_; refine sc_r (R_move (by rfl)) (by rfl) ?_)
    | (refine s1_assign ?_; refine sc_r (R_assign (by rfl)) (by rfl) ?_)
    | (refine s1_pick ?_; refine sc_r (R_pick_f (by rfl) (by rfl)) (by rfl) ?_)
    | (refine s1_bin ?_; first | refine sc_r (R_neq (by rfl) (by rfl)) (by rfl) ?_ | refine sc_r (R_eql_nil (by rfl) (by rfl)) (by rfl) ?_)
    | (refine s1_call ?_; (refine sc_c (by rfl) (C_call (by rfl) (by infer_instance) (by rfl) (by rfl) (Tr.ent (Ent.pickC (by infer_instance) (Ent.pickC (by infer_instance) (Ent.refl _))) (cF _ (by infer_instance) _ _ _ (by infer_instance)))) (by rfl) ?_; rintro _ _ ⟨m, rfl, rfl⟩))
    | (refine s1_any ?_; first | refine sc_r (R_extract (by rfl) (by rfl)) (by rfl) ?_ | (refine sc_w (by rfl) W_makeMap (by rfl) ?_; rintro _ _ ⟨_, rfl, rfl⟩))
    | refine swl_nil ?_
    | refine sx_next ?_
    | refine sw_seq ?_
    | refine sw_region ?_
    | refine sw_block ?_
    | refine swl_g_on (by rfl) (by rfl) ?_
    | refine sw_cond_false (by rfl) ?_
    | refine sw_skip ?_
    | fail)
  rename_i r0
  refine sw_ent (Ent.mp_empty (d := .int .i64)) ?_
  rw [← wroteF_nil]
  generalize hadr : at'.map (fun z => 1 + z % 256) = adr
  have hal : adr.length = na := by rw [← hadr]; simpa using hna
  refine sw_loop (γ := Nat × DevS × List (Nat × DevS)) (fun q => na - q.1) (fun q => [(0, .slice pa na ca), (1, .int .u8 times), (2, .slice pf nf cf), (7, .pointer (some ⟨d, 0, none⟩)), (8, .slice pv 2 cv), (12, .pointer (some ⟨m, 0, none⟩)), (14, .map (some r0)), (15, .int .i64 q.1)])
    (fun q => mp (.int .i64) r0 (wroteF (adr.take q.1)) :: medP m d vs someG G0 :: devP d q.2.1 :: devsP q.2.2 :: vec 26 1 (vs.map ptrc) (.slice pv 2 cv) :: L)
    (fun q => q.1 ≤ na ∧ q.1 ≤ 30 ∧ MV someG G0 q.2.1 q.2.2 (fun a => allB (valAt (adr.take q.1) a)) ∧ PB q.1 q.2.1 q.2.2 ∧ q.2.2.map Prod.fst = vs) (0, s0, vl0)
    ⟨by simp, by simp, hM0, ⟨by rw [hp0]; simp, fun x hx => by rw [cleanV_all (by rw [hl0]; exact hc0) x hx]; simp⟩, hvs0⟩
    (subE.cons rfl (subE.cons rfl (subE.cons rfl (subE.cons rfl (subE.cons rfl (subE.cons rfl (subE.cons rfl (subE.cons rfl subE.nil)))))))) (by (repeat (first | exact Ent.refl _ | exact Ent.nil | (apply Ent.pick; focus ((repeat (first | exact Rem.here | apply Rem.there)); done)) | apply Ent.drop))) ?_
  clear cF hM0 hp0 hc0 hvs0 hl0 s0 vl0
  rintro ⟨i, s, vl1⟩ ⟨hin, hi30, hM, hP, hv1⟩
  dsimp only at hin hi30 hM hP hv1 ⊢
  by_cases hlt : i < na ∧ i < 30
  · obtain ⟨h1, h2⟩ := hlt
    obtain ⟨b1, o1, rfl⟩ := ha.ptr (by omega)
    have hi2 : i < at'.length := by omega
    have he1 := u16_get hi2
    have hz := hat at'[i] (List.getElem_mem hi2)
    have hsn : adr.take (i + 1) = adr.take i ++ [1 + at'[i] % 256] := by
      rw [List.take_succ_eq_append_getElem (by omega)]
      simp only [← hadr, List.getElem_map]
    have htl : ((adr.take i).length : Int) = i := by simp; omega
    have hws : wroteF (adr.take (i + 1)) (.int .i64 (1 + at'[i] % 256)) = some (.int .u8 (1 + (i : Int))) := by rw [hsn, wroteF_snoc, htl]
    have hwo : ∀ u, u ≠ .int .i64 (1 + at'[i] % 256) → wroteF (adr.take (i + 1)) u = wroteF (adr.take i) u := fun u hu => by rw [hsn]; exact wroteF_other _ _ hu
    have hrange : 1 ≤ 1 + at'[i] % 256 ∧ 1 + at'[i] % 256 ≤ blocksG someG := by rw [someG_blocks]; omega
    have hM' := hM.write hrange (allB_len (1 + (i : Int)))
    rw [← htl, upd_valAt, ← hsn, htl] at hM'
    have hP' := hP.write someG (1 + at'[i] % 256) (allB (1 + (i : Int)))
    have cW := fun (F : List HP) (p : Option Addr) (n c : Nat) (hb : SlC F p 1 n c ((allB (1 + (i : Int))).map u8c)) => mv_Write hM hv1 m d hrange (allB_len _) hP (by omega) hb
    have hv2 : (wrMV someG vl1 (1 + at'[i] % 256) (allB (1 + (i : Int)))).map Prod.fst = vs := by rw [wrMV_fst]; exact hv1
    have hw8 : IntKind.u8.wrap (1 + (i : Int)) = 1 + (i : Int) := wrap_u8_of (by omega)
    generalize at'[i] = z at *
    repeat' (first
    | refine swl_op ?_
    | (refine s1_move ?_; refine sc_r (R_move (by rfl)) (by rfl) ?_)
    | (refine s1_load ?_; refine sc_r (L_load_el1 (by rfl) (by infer_instance) (by omega) (by first | assumption | rfl)) (by rfl) ?_)
    | (refine s1_assign ?_; refine sc_r (R_assign (by rfl)) (by rfl) ?_)
    | (refine s1_pick ?_; refine sc_r (R_pick_t (by rfl) (by rfl)) (by rfl) ?_)
    | (refine s1_bin ?_; first | refine sc_r (R_lss (by rfl) (by rfl)) (by rfl) ?_ | refine sc_r (R_add64 (by rfl) (by rfl) (by omega)) (by rfl) ?_ | refine sc_r (R_rem (by rfl) (by rfl) (by omega)) (by rfl) ?_)
    | (refine s1_call ?_; first | (refine sc_c (by rfl) (C_call (by rfl) (by infer_instance) (by rfl) (by rfl) (law4_All _)) (by rfl) ?_; rintro _ _ ⟨ba, rfl, hok, rfl⟩) | (refine sc_c (by rfl) (C_call (by rfl) (by infer_instance) (by rfl) (by rfl) (Tr.ent (Ent.pickC (by infer_instance) (Ent.pickC (by infer_instance) (Ent.pickC (by infer_instance) (Ent.refl _)))) (cW _ _ _ _ (by infer_instance)))) (by rfl) ?_; rintro _ _ ⟨rfl, rfl⟩) | refine sc_r (R_len (by rfl)) (by rfl) ?_)
    | (refine s1_indexAddr ?_; refine sc_r (R_indexAddr (by rfl) (by rfl) (by omega)) (by rfl) ?_)
    | (refine s1_conv ?_; first | refine sc_r (R_conv64 (by rfl) (by omega)) (by rfl) ?_ | refine sc_r (R_convk (by rfl) hw8) (by rfl) ?_)
    | (refine s1_any ?_; (refine sc_w (by rfl) (W_mapUpdate (wroteF (adr.take (i + 1))) (by rfl) (by rfl) (by rfl) (by focus ((repeat (first | exact Rem.here | apply Rem.there)); done)) (by rfl) (by rfl) hws hwo) (by rfl) ?_; rintro _ _ ⟨rfl, rfl⟩))
    | refine swl_nil ?_
    | refine sx_next ?_
    | refine sw_seq ?_
    | refine sw_region ?_
    | refine sw_block ?_
    | refine swl_g_on (by rfl) (by rfl) ?_
    | refine swl_g_pos (by rfl) (by rfl) (by first | assumption | omega) ?_
    | refine sx_block_normal ?_
    | refine sw_cond_pos (by rfl) (by first | assumption | omega) ?_
    | refine sw_skip ?_
    | fail)

    refine sx_back (i + 1, wrMD someG s (1 + z % 256) (allB (1 + (i : Int))), wrMV someG vl1 (1 + z % 256) (allB (1 + (i : Int)))) (by simp only; omega) ⟨by simp only; omega, by simp only; omega, hM', hP', hv2⟩ (subE.cons rfl (subE.cons rfl (subE.cons rfl (subE.cons rfl (subE.cons rfl (subE.cons rfl (subE.cons rfl (subE.cons rfl subE.nil)))))))) (by (repeat (first | exact Ent.refl _ | exact Ent.nil | (apply Ent.pick; focus ((repeat (first | exact Rem.here | apply Rem.there)); done)) | apply Ent.drop)))
  · obtain ⟨f1, hMa, fp, fv⟩ := hM.flushD
    have cF1 := fun (F : List HP) => mv_Flush (g := someG) (gens := G0) (F := F) hv1 m d (-1) f1
    rw [fv] at hMa cF1
    generalize flMD s (-1) = sa at *
    have hl1 := two_len hMa
    obtain ⟨f2, hMb, e2, l2, c2⟩ := hMa.flushV (k := 0) (by omega)
    have cF2 := fun (F : List HP) => mv_Flush (g := someG) (gens := G0) (F := F) hv1 m d 0 f2
    have hvb : (flMV vl1 0).map Prod.fst = vs := by rw [flMV_fst]; exact hv1
    replace c2 := c2 (fun k _ hk => absurd hk (by omega))
    change flMD sa 0 = sa at e2
    change MV someG G0 (flMD sa 0) (flMV vl1 0) _ at hMb
    change cleanV 1 (flMV vl1 0) at c2
    rw [e2] at hMb cF2
    generalize flMV vl1 0 = vlb at *
    have hlb := two_len hMb
    obtain ⟨f3, hMc, e3, l3, c3⟩ := hMb.flushV (k := 1) (by omega)
    have cF3 := fun (F : List HP) => mv_Flush (g := someG) (gens := G0) (F := F) hvb m d 1 f3
    have hvc : (flMV vlb 1).map Prod.fst = vs := by rw [flMV_fst]; exact hvb
    replace c3 := c3 c2
    change flMD sa 1 = sa at e3
    change MV someG G0 (flMD sa 1) (flMV vlb 1) _ at hMc
    change cleanV 2 (flMV vlb 1) at c3
    rw [e3] at hMc cF3
    generalize flMV vlb 1 = vlc at *
    have hor : na ≤ i ∨ (i < na ∧ 30 ≤ i) := by omega
    have hlen := valAt_bd (adr.take i)
    generalize adr.take i = l at *
    obtain ⟨nt, hnt, hnt0, hnt3⟩ : ∃ nt : Nat, 1 + times % 3 = (nt : Int) ∧ nt ≠ 0 ∧ nt ≤ 3 := ⟨(1 + times % 3).toNat, by omega, by omega, by omega⟩
    clear hM hMa hMb hP hlt f1 f2 f3
    rcases hor with hor | ⟨hor1, hor2⟩
    all_goals
      repeat' (first
    | refine swl_op ?_
    | (refine s1_move ?_; refine sc_r (R_move (by rfl)) (by rfl) ?_)
    | (refine s1_assign ?_; refine sc_r (R_assign (by rfl)) (by rfl) ?_)
    | (refine s1_pick ?_; first | refine sc_r (R_pick_t (by rfl) (by rfl)) (by rfl) ?_ | refine sc_r (R_pick_f (by rfl) (by rfl)) (by rfl) ?_)
    | (refine s1_bin ?_; first | refine sc_r (R_lss (by rfl) (by rfl)) (by rfl) ?_ | refine sc_r (R_add64 (by rfl) (by rfl) (by omega)) (by rfl) ?_ | refine sc_r (R_neq (by rfl) (by rfl)) (by rfl) ?_ | refine sc_r (R_rem (by rfl) (by rfl) (by omega)) (by rfl) ?_)
    | (refine s1_call ?_; first | (refine sc_c (by rfl) (C_call (by rfl) (by infer_instance) (by rfl) (by rfl) (Tr.ent (Ent.pickC (by infer_instance) (Ent.pickC (by infer_instance) (Ent.pickC (by infer_instance) (Ent.refl _)))) (cF1 _))) (by rfl) ?_; rintro _ _ ⟨rfl, rfl⟩) | (refine sc_c (by rfl) (C_call (by rfl) (by infer_instance) (by rfl) (by rfl) (Tr.ent (Ent.pickC (by infer_instance) (Ent.pickC (by infer_instance) (Ent.pickC (by infer_instance) (Ent.refl _)))) (cF2 _))) (by rfl) ?_; rintro _ _ ⟨rfl, rfl⟩) | (refine sc_c (by rfl) (C_call (by rfl) (by infer_instance) (by rfl) (by rfl) (Tr.ent (Ent.pickC (by infer_instance) (Ent.pickC (by infer_instance) (Ent.pickC (by infer_instance) (Ent.refl _)))) (cF3 _))) (by rfl) ?_; rintro _ _ ⟨rfl, rfl⟩) | refine sc_r (R_len (by rfl)) (by rfl) ?_)
    | (refine s1_conv ?_; refine sc_r (R_conv64 (by rfl) (by omega)) (by rfl) ?_)
    | refine swl_nil ?_
    | refine sx_next ?_
    | refine sw_seq ?_
    | refine sw_region ?_
    | refine sw_block ?_
    | refine swl_g_on (by rfl) (by rfl) ?_
    | refine swl_g_off (by rfl) (by rfl) (by rfl) (by rfl) ?_
    | refine swl_g_pos (by rfl) (by rfl) (by first | assumption | omega) ?_
    | refine swl_g_neg (by rfl) (by rfl) (by first | assumption | omega) ?_
    | refine sx_past_exit ?_
    | refine sx_block_here ?_
    | refine sw_cond_false (by rfl) ?_
    | refine sw_cond_neg (by rfl) (by first | assumption | omega) ?_
    | refine sw_exit ?_
    | refine sw_skip ?_
    | fail)
      rw [hnt]
      refine sw_loop (γ := Nat × List Int × List (Nat × DevS)) (fun q => nt - q.1) (fun q => [(2, .slice pf nf cf), (7, .pointer (some ⟨d, 0, none⟩)), (8, .slice pv 2 cv), (12, .pointer (some ⟨m, 0, none⟩)), (14, .map (some r0)), (17, .int .i64 nt), (18, .int .i64 q.1)])
        (fun q => mp (.int .i64) r0 (wroteF l) :: medP m d vs someG q.2.1 :: devP d sa :: devsP q.2.2 :: vec 26 1 (vs.map ptrc) (.slice pv 2 cv) :: L)
        (fun q => q.1 ≤ nt ∧ MV someG q.2.1 sa q.2.2 (renV q.1 (fun a => allB (valAt l a))) ∧ cleanV 2 q.2.2 ∧ q.2.2.map Prod.fst = vs ∧ q.2.1.length = 8 ∧ q.2.1.getD 1 0 = q.1 ∧ q.2.1.getD 0 0 = 0) (0, G0, vlc)
        ⟨by simp, hMc, c3, hvc, hG0.1, hG0.2.1, hG0.2.2⟩ (subE.cons rfl (subE.cons rfl (subE.cons rfl (subE.cons rfl (subE.cons rfl (subE.cons rfl (subE.cons rfl subE.nil))))))) (by (repeat (first | exact Ent.refl _ | exact Ent.nil | (apply Ent.pick; focus ((repeat (first | exact Rem.here | apply Rem.there)); done)) | apply Ent.drop))) ?_
      clear cF1 cF2 cF3 hMc c3 hvc l2 l3
      rintro ⟨j, G, vlc⟩ ⟨hj, hMc, c3, hvc, hGl, hG1, hGz⟩
      dsimp only at hj hMc c3 hvc hGl hG1 hGz ⊢
      have hlc := two_len hMc
      have hvl2 : vs.length = 2 := by rw [← hvc]; simpa using hlc
      by_cases hlt : j < nt
      · have cN := fun (F : List HP) (hg : HalvesC F) => mv_Renew (F := F) hMc hvc m d (k := 1) (by omega) (by omega) (by omega)
        obtain ⟨_, _, _, hMd⟩ := hMc.renew (k := 1) (by omega) (by omega) (by omega)
        have hvd : (vlc.set 1 (vlc[1].1, reS vlc[1].2 (labelF (1 : Nat) (G.getD 1 0 + 1)))).map Prod.fst = vs := by
          rw [List.map_set, ← hvc]
          simp only [show vlc[1].1 = (vlc.map Prod.fst)[1]'(by simp; omega) by simp, List.set_getElem_self]
        have hcd : cleanV 2 (vlc.set 1 (vlc[1].1, reS vlc[1].2 (labelF (1 : Nat) (G.getD 1 0 + 1)))) := cleanV_set c3 _ rfl
        rw [renV_succ] at hMd
        have hgl' : (G.set 1 (G.getD 1 0 + 1)).length = 8 := by simpa using hGl
        have hg1' : (G.set 1 (G.getD 1 0 + 1)).getD 1 0 = ((j + 1 : Nat) : Int) := by
          have h1 : ∀ z : Int, (G.set 1 z).getD 1 0 = z := fun z => by simp [List.getD, hGl]
          rw [h1, hG1]; omega
        have hg0' : (G.set 1 (G.getD 1 0 + 1)).getD 0 0 = 0 := by simp only [List.getD, List.getElem?_set]; simpa [List.getD] using hGz
        generalize vlc.set 1 (vlc[1].1, reS vlc[1].2 (labelF (1 : Nat) (G.getD 1 0 + 1))) = vld at *
        generalize G.set 1 (G.getD 1 0 + 1) = G' at *
        have cG1 := fun (F : List HP) => medium_Gen m d someG G' vs 1 (F := F)
        have cG0 := fun (F : List HP) => medium_Gen m d someG G' vs 0 (F := F)
        have e1 : genF vs.length G' 1 = (j : Int) + 1 := by unfold genF; rw [if_pos (by omega)]; exact hg1'
        have e0 : genF vs.length G' 0 = 0 := by unfold genF; rw [if_pos (by omega)]; exact hg0'
        rw [e1] at cG1
        rw [e0] at cG0
        repeat' (first
    | refine swl_op ?_
    | (refine s1_move ?_; refine sc_r (R_move (by rfl)) (by rfl) ?_)
    | (refine s1_assign ?_; refine sc_r (R_assign (by rfl)) (by rfl) ?_)
    | (refine s1_pick ?_; refine sc_r (R_pick_f (by rfl) (by rfl)) (by rfl) ?_)
    | (refine s1_bin ?_; first | refine sc_r (R_lss (by rfl) (by rfl)) (by rfl) ?_ | refine sc_r (R_add64 (by rfl) (by rfl) (by omega)) (by rfl) ?_ | refine sc_r (R_neq (by rfl) (by rfl)) (by rfl) ?_)
    | (refine s1_call ?_; first | (refine sc_c (by rfl) (C_call (by rfl) (by infer_instance) (by rfl) (by rfl) (Tr.ent (Ent.pickC (by infer_instance) (Ent.pickC (by infer_instance) (Ent.refl _))) (cN _ (by infer_instance)))) (by rfl) ?_; rintro _ _ ⟨rfl, rfl⟩) | (refine sc_c (by rfl) (C_call (by rfl) (by infer_instance) (by rfl) (by rfl) (Tr.ent (Ent.pickC (by infer_instance) (Ent.refl _)) (cG1 _))) (by rfl) ?_; rintro _ _ ⟨rfl, rfl⟩) | (refine sc_c (by rfl) (C_call (by rfl) (by infer_instance) (by rfl) (by rfl) (Tr.ent (Ent.pickC (by infer_instance) (Ent.refl _)) (cG0 _))) (by rfl) ?_; rintro _ _ ⟨rfl, rfl⟩))
    | refine swl_nil ?_
    | refine sx_next ?_
    | refine sw_seq ?_
    | refine sw_region ?_
    | refine sw_block ?_
    | refine swl_g_on (by rfl) (by rfl) ?_
    | refine swl_g_npos (by rfl) (by rfl) (by first | assumption | omega) ?_
    | refine sx_block_normal ?_
    | refine sw_cond_false (by rfl) ?_
    | refine sw_cond_pos (by rfl) (by first | assumption | omega) ?_
    | refine sw_skip ?_
    | fail)
        refine sx_back (j + 1, G', vld) (by simp only; omega) ⟨by simp only; omega, hMd, hcd, hvd, hgl', hg1', hg0'⟩ (subE.cons rfl (subE.cons rfl (subE.cons rfl (subE.cons rfl (subE.cons rfl (subE.cons rfl (subE.cons rfl subE.nil))))))) (by (repeat (first | exact Ent.refl _ | exact Ent.nil | (apply Ent.pick; focus ((repeat (first | exact Rem.here | apply Rem.there)); done)) | apply Ent.drop)))
      · obtain rfl : j = nt := by omega
        repeat' (first
    | refine swl_op ?_
    | (refine s1_move ?_; refine sc_r (R_move (by rfl)) (by rfl) ?_)
    | (refine s1_assign ?_; refine sc_r (R_assign (by rfl)) (by rfl) ?_)
    | (refine s1_bin ?_; refine sc_r (R_lss (by rfl) (by rfl)) (by rfl) ?_)
    | refine swl_nil ?_
    | refine sx_next ?_
    | refine sw_seq ?_
    | refine sw_region ?_
    | refine sw_block ?_
    | refine sx_past_exit ?_
    | refine sx_block_here ?_
    | refine sw_cond_neg (by rfl) (by first | assumption | omega) ?_
    | refine sw_exit ?_
    | fail)
        refine sw_loop (γ := Nat) (fun k => 2 - k) (fun k => [(2, .slice pf nf cf), (7, .pointer (some ⟨d, 0, none⟩)), (8, .slice pv 2 cv), (14, .map (some r0)), (17, .int .i64 j), (19, .int .i64 k)])
          (fun k => mp (.int .i64) r0 (wroteF l) :: devP d sa :: devsP vlc :: vec 26 1 (vs.map ptrc) (.slice pv 2 cv) :: L)
          (fun k => k ≤ 2) 0 (by omega) (subE.cons rfl (subE.cons rfl (subE.cons rfl (subE.cons rfl (subE.cons rfl (subE.cons rfl subE.nil)))))) (by (repeat (first | exact Ent.refl _ | exact Ent.nil | (apply Ent.pick; focus ((repeat (first | exact Rem.here | apply Rem.there)); done)) | apply Ent.drop))) ?_
        intro k hk
        by_cases hk2 : k < 2
        · have hkl : k < vlc.length := by omega
          obtain ⟨b1, o1, rfl⟩ := hsl.ptr (by omega)
          have he1 : (vs.map ptrc).getD k #[] = #[.pointer (some ⟨vlc[k].1, 0, none⟩)] := by
            rw [ptr_get (by rw [← hvc]; simpa using hkl)]
            simp only [← hvc, List.getElem_map]
          have cC := fun (F : List HP) (hl : SlC F pf 1 nf cf (far.map i64c)) => devs_Crash vlc k hkl far hl
          have cO := fun (F : List HP) => devs_OnC (F := F) vlc k hkl (hMc.wv _ (List.getElem_mem hkl)) (c3 k hkl hk2) far
          repeat' (first
    | refine swl_op ?_
    | (refine s1_move ?_; refine sc_r (R_move (by rfl)) (by rfl) ?_)
    | (refine s1_load ?_; refine sc_r (L_load_el1 (by rfl) (by infer_instance) (by omega) (by first | assumption | rfl)) (by rfl) ?_)
    | (refine s1_assign ?_; refine sc_r (R_assign (by rfl)) (by rfl) ?_)
    | (refine s1_bin ?_; first | refine sc_r (R_lss (by rfl) (by rfl)) (by rfl) ?_ | refine sc_r (R_add64 (by rfl) (by rfl) (by omega)) (by rfl) ?_)
    | (refine s1_call ?_; first | (refine sc_c (by rfl) (C_call (by rfl) (by infer_instance) (by rfl) (by rfl) (Tr.ent (Ent.pickC (by infer_instance) (Ent.refl _)) (cC _ (by infer_instance)))) (by rfl) ?_; rintro _ _ ⟨rfl, rfl⟩) | (refine sc_c (by rfl) (C_call (by rfl) (by infer_instance) (by rfl) (by rfl) (Tr.ent (Ent.pickC (by infer_instance) (Ent.refl _)) (cO _))) (by rfl) ?_; rintro _ _ ⟨rfl, rfl⟩) | refine sc_r (R_len (by rfl)) (by rfl) ?_)
    | (refine s1_indexAddr ?_; refine sc_r (R_indexAddr (by rfl) (by rfl) (by omega)) (by rfl) ?_)
    | refine swl_nil ?_
    | refine sx_next ?_
    | refine sw_seq ?_
    | refine sw_region ?_
    | refine sw_block ?_
    | refine sx_block_normal ?_
    | refine sw_cond_pos (by rfl) (by first | assumption | omega) ?_
    | refine sw_skip ?_
    | fail)
          refine sx_back (k + 1) (by omega) (by omega) (subE.cons rfl (subE.cons rfl (subE.cons rfl (subE.cons rfl (subE.cons rfl (subE.cons rfl subE.nil)))))) (by (repeat (first | exact Ent.refl _ | exact Ent.nil | (apply Ent.pick; focus ((repeat (first | exact Rem.here | apply Rem.there)); done)) | apply Ent.drop)))
        · have cC := fun (F : List HP) (hl : SlC F pf 1 nf cf (far.map i64c)) => dev_Crash d sa far hl
          have cO := fun (F : List HP) => dev_On d (crashS sa far) (L := F)
          rw [crash_clean hMc.w fp far] at cO
          have cOp := fun (F : List HP) (hg : HalvesC F) (hv : SlC F pv 1 2 cv (vs.map ptrc)) => mv_Open hMc hvc d hv
          obtain ⟨_, _, hGo, hMo⟩ := hMc.open
          have hGo1 := (hGo 1 (by omega)).trans hG1
          generalize openG vlc vlc.length = Go at *
          have cG := fun (F : List HP) (m2 : Nat) => medium_Gen m2 d someG Go vs 1 (F := F)
          have e1 : genF vs.length Go 1 = (j : Int) := by unfold genF; rw [if_pos (by omega)]; exact hGo1
          rw [e1] at cG
          repeat' (first
    | refine swl_op ?_
    | (refine s1_move ?_; refine sc_r (R_move (by rfl)) (by rfl) ?_)
    | (refine s1_assign ?_; refine sc_r (R_assign (by rfl)) (by rfl) ?_)
    | (refine s1_pick ?_; refine sc_r (R_pick_f (by rfl) (by rfl)) (by rfl) ?_)
    | (refine s1_bin ?_; first | refine sc_r (R_lss (by rfl) (by rfl)) (by rfl) ?_ | refine sc_r (R_neq (by rfl) (by rfl)) (by rfl) ?_ | refine sc_r (R_eql_nil (by rfl) (by rfl)) (by rfl) ?_)
    | (refine s1_call ?_; first | (refine sc_c (by rfl) (C_call (by rfl) (by infer_instance) (by rfl) (by rfl) (Tr.ent (Ent.pickC (by infer_instance) (Ent.refl _)) (cC _ (by infer_instance)))) (by rfl) ?_; rintro _ _ ⟨rfl, rfl⟩) | (refine sc_c (by rfl) (C_call (by rfl) (by infer_instance) (by rfl) (by rfl) (Tr.ent (Ent.pickC (by infer_instance) (Ent.refl _)) (cO _))) (by rfl) ?_; rintro _ _ ⟨rfl, rfl⟩) | (refine sc_c (by rfl) (C_call (by rfl) (by infer_instance) (by rfl) (by rfl) (Tr.ent (Ent.pickC (by infer_instance) (Ent.pickC (by infer_instance) (Ent.refl _))) (cOp _ (by infer_instance) (by infer_instance)))) (by rfl) ?_; rintro _ _ ⟨m2, rfl, rfl⟩) | (refine sc_c (by rfl) (C_call (by rfl) (by infer_instance) (by rfl) (by rfl) (Tr.ent (Ent.pickC (by infer_instance) (Ent.refl _)) (cG _ m2))) (by rfl) ?_; rintro _ _ ⟨rfl, rfl⟩) | refine sc_r (R_len (by rfl)) (by rfl) ?_)
    | (refine s1_any ?_; refine sc_r (R_extract (by rfl) (by rfl)) (by rfl) ?_)
    | refine swl_nil ?_
    | refine sx_next ?_
    | refine sw_seq ?_
    | refine sw_region ?_
    | refine sw_block ?_
    | refine swl_g_on (by rfl) (by rfl) ?_
    | refine sx_past_exit ?_
    | refine sx_block_here ?_
    | refine sw_cond_neg (by rfl) (by first | assumption | omega) ?_
    | refine sw_cond_npos (by rfl) (by first | assumption | omega) ?_
    | refine sw_exit ?_
    | refine sw_skip ?_
    | fail)
          refine sw_loop (γ := Nat) (fun a => 257 - a) (fun a => [(14, .map (some r0)), (20, .pointer (some ⟨m2, 0, none⟩)), (22, .int .i64 a)])
            (fun a => mp (.int .i64) r0 (wroteF l) :: medP m2 d vs someG Go :: devP d sa :: devsP vlc :: L)
            (fun a => 1 ≤ a ∧ a ≤ 257) 1 (by omega) (subE.cons rfl (subE.cons rfl (subE.cons rfl subE.nil))) (by (repeat (first | exact Ent.refl _ | exact Ent.nil | (apply Ent.pick; focus ((repeat (first | exact Rem.here | apply Rem.there)); done)) | apply Ent.drop))) ?_
          intro a ha'
          by_cases ha2 : a < 257
          · have har : 1 ≤ (a : Int) ∧ (a : Int) ≤ blocksG someG := by rw [someG_blocks]; omega
            have cR := fun (F : List HP) => mv_Read (F := F) hMo hvc m2 d har
            rw [renV_at j hnt0 _ _ (by omega)] at cR
            by_cases h208 : 208 < (a : Int)
            · rw [if_pos h208, show zeros128 = allB 0 from rfl] at cR
              repeat' (first
    | refine swl_op ?_
    | (refine s1_move ?_; refine sc_r (R_move (by rfl)) (by rfl) ?_)
    | (refine s1_assign ?_; refine sc_r (R_assign (by rfl)) (by rfl) ?_)
    | (refine s1_pick ?_; refine sc_r (R_pick_f (by rfl) (by rfl)) (by rfl) ?_)
    | (refine s1_bin ?_; first | refine sc_r (R_lss (by rfl) (by rfl)) (by rfl) ?_ | refine sc_r (R_add64 (by rfl) (by rfl) (by omega)) (by rfl) ?_ | refine sc_r (R_gtr (by rfl) (by rfl)) (by rfl) ?_ | refine sc_r (R_neq (by rfl) (by rfl)) (by rfl) ?_ | refine sc_r (R_neq_str1 (by rfl) (by rfl) (by rfl)) (by rfl) ?_)
    | (refine s1_call ?_; first | (refine sc_c (by rfl) (C_call (by rfl) (by infer_instance) (by rfl) (by rfl) (Tr.ent (Ent.pickC (by infer_instance) (Ent.pickC (by infer_instance) (Ent.pickC (by infer_instance) (Ent.refl _)))) (cR _))) (by rfl) ?_; rintro _ _ ⟨sr, rfl, rfl⟩; refine swl_know (fun h H => vec_fact H) ?_; rintro ⟨pr, cr, rfl, hr⟩) | (refine sc_c (by rfl) (C_call (by rfl) (by infer_instance) (by rfl) (by rfl) (law4_All _)) (by rfl) ?_; rintro _ _ ⟨ba2, rfl, hok2, rfl⟩; refine ⟨by (repeat (first | exact Ent.refl _ | exact Ent.nil | (apply Ent.pick; focus ((repeat (first | exact Rem.here | apply Rem.there)); done)) | apply Ent.drop)), ?_⟩))
    | (refine s1_conv ?_; refine sc_r (R_bytes_string (l := allB 0) (by rfl) (by infer_instance)) (by rfl) ?_)
    | (refine s1_any ?_; first | refine sc_r (R_extract (by rfl) (by rfl)) (by rfl) ?_ | refine sc_r (R_wrote (by rfl) (by rfl) (by infer_instance)) (by rfl) ?_)
    | refine swl_nil ?_
    | refine sx_next ?_
    | refine sw_seq ?_
    | refine sw_region ?_
    | refine sw_block ?_
    | refine sx_block_normal ?_
    | refine sw_cond_false (by rfl) ?_
    | refine sw_cond_pos (by rfl) (by first | assumption | omega) ?_
    | refine sw_skip ?_
    | refine swh_lt (by rfl) (fun _ _ => wanted_none) ?_
    | refine swh_lt (by rfl) (wanted_on (by rfl) (by rfl)) ?_
    | refine swh_hv (by rfl) (fun _ _ => wanted_none) ?_
    | refine swh_nil ?_
    | (apply And.intro; focus ((repeat (first | exact Ent.refl _ | exact Ent.nil | (apply Ent.pick; focus ((repeat (first | exact Rem.here | apply Rem.there)); done)) | apply Ent.drop)); done))
    | (refine sw_draw [(0, true), (1, true), (2, true), (3, false), (4, false), (5, true), (6, true), (7, true), (8, true), (9, true)] follows ?_ ?_ ?_; (focus rfl); (focus (decide +kernel)))
    | fail)
              refine sx_back (a + 1) (by omega) (by omega) (subE.cons rfl (subE.cons rfl (subE.cons rfl subE.nil))) (by (repeat (first | exact Ent.refl _ | exact Ent.nil | (apply Ent.pick; focus ((repeat (first | exact Rem.here | apply Rem.there)); done)) | apply Ent.drop)))
            · rw [if_neg h208] at cR
              repeat' (first
    | refine swl_op ?_
    | (refine s1_move ?_; refine sc_r (R_move (by rfl)) (by rfl) ?_)
    | (refine s1_assign ?_; refine sc_r (R_assign (by rfl)) (by rfl) ?_)
    | (refine s1_pick ?_; refine sc_r (R_pick_f (by rfl) (by rfl)) (by rfl) ?_)
    | (refine s1_bin ?_; first | refine sc_r (R_lss (by rfl) (by rfl)) (by rfl) ?_ | refine sc_r (R_add64 (by rfl) (by rfl) (by omega)) (by rfl) ?_ | refine sc_r (R_gtr (by rfl) (by rfl)) (by rfl) ?_ | refine sc_r (R_neq (by rfl) (by rfl)) (by rfl) ?_ | refine sc_r (R_neq_str1 (by rfl) (by rfl) (by rfl)) (by rfl) ?_)
    | (refine s1_call ?_; first | (refine sc_c (by rfl) (C_call (by rfl) (by infer_instance) (by rfl) (by rfl) (Tr.ent (Ent.pickC (by infer_instance) (Ent.pickC (by infer_instance) (Ent.pickC (by infer_instance) (Ent.refl _)))) (cR _))) (by rfl) ?_; rintro _ _ ⟨sr, rfl, rfl⟩; refine swl_know (fun h H => vec_fact H) ?_; rintro ⟨pr, cr, rfl, hr⟩) | (refine sc_c (by rfl) (C_call (by rfl) (by infer_instance) (by rfl) (by rfl) (law4_All _)) (by rfl) ?_; rintro _ _ ⟨ba2, rfl, hok2, rfl⟩; refine ⟨by (repeat (first | exact Ent.refl _ | exact Ent.nil | (apply Ent.pick; focus ((repeat (first | exact Rem.here | apply Rem.there)); done)) | apply Ent.drop)), ?_⟩))
    | (refine s1_conv ?_; refine sc_r (R_bytes_string (l := allB (valAt l a)) (by rfl) (by infer_instance)) (by rfl) ?_)
    | (refine s1_any ?_; first | refine sc_r (R_extract (by rfl) (by rfl)) (by rfl) ?_ | refine sc_r (R_wrote (by rfl) (by rfl) (by infer_instance)) (by rfl) ?_)
    | refine swl_nil ?_
    | refine sx_next ?_
    | refine sw_seq ?_
    | refine sw_region ?_
    | refine sw_block ?_
    | refine sx_block_normal ?_
    | refine sw_cond_false (by rfl) ?_
    | refine sw_cond_pos (by rfl) (by first | assumption | omega) ?_
    | refine sw_cond_neg (by rfl) (by first | assumption | omega) ?_
    | refine sw_skip ?_
    | refine swh_lt (by rfl) (fun _ _ => wanted_none) ?_
    | refine swh_lt (by rfl) (wanted_on (by rfl) (by rfl)) ?_
    | refine swh_hv (by rfl) (fun _ _ => wanted_none) ?_
    | refine swh_nil ?_
    | (apply And.intro; focus ((repeat (first | exact Ent.refl _ | exact Ent.nil | (apply Ent.pick; focus ((repeat (first | exact Rem.here | apply Rem.there)); done)) | apply Ent.drop)); done))
    | (refine sw_draw [(0, true), (1, true), (2, true), (3, false), (4, false), (5, true), (6, true), (7, true), (8, true), (9, true)] follows ?_ ?_ ?_; (focus rfl); (focus (decide +kernel)))
    | fail)
              refine sx_back (a + 1) (by omega) (by omega) (subE.cons rfl (subE.cons rfl (subE.cons rfl subE.nil))) (by (repeat (first | exact Ent.refl _ | exact Ent.nil | (apply Ent.pick; focus ((repeat (first | exact Rem.here | apply Rem.there)); done)) | apply Ent.drop)))
          · have cB := fun (F : List HP) => medium_Blank m2 d someG Go vlc 1 (fun x hx => by have := hMo.nv x hx; simp only [someG] at this; omega) (F := F)
            have hbl : blMR vlc 1 = (0, 0) := hMo.blank (k := 1) (by omega) (fun i h1 h2 => by
              have e1 : volBase someG 1 = 208 := by decide
              have e2 : someG.segs * 16 = 48 := by decide
              rw [e1, renV_at j hnt0 _ _ (by omega), if_pos (by omega)])
            rw [hbl, hvc] at cB
            repeat' (first
    | refine swl_op ?_
    | (refine s1_move ?_; refine sc_r (R_move (by rfl)) (by rfl) ?_)
    | (refine s1_assign ?_; refine sc_r (R_assign (by rfl)) (by rfl) ?_)
    | (refine s1_pick ?_; refine sc_r (R_pick_t (by rfl) (by rfl)) (by rfl) ?_)
    | (refine s1_bin ?_; first | refine sc_r (R_lss (by rfl) (by rfl)) (by rfl) ?_ | refine sc_r (R_eql (by rfl) (by rfl)) (by rfl) ?_)
    | (refine s1_call ?_; first | (refine sc_c (by rfl) (C_call (by rfl) (by infer_instance) (by rfl) (by rfl) (Tr.ent (Ent.pickC (by infer_instance) (Ent.pickC (by infer_instance) (Ent.refl _))) (cB _))) (by rfl) ?_; rintro _ _ ⟨rfl, rfl⟩) | (refine sc_c (by rfl) (C_call (by rfl) (by infer_instance) (by rfl) (by rfl) (law21_awake)) (by rfl) ?_; rintro _ _ ⟨rfl, rfl⟩))
    | (refine s1_any ?_; refine sc_r (R_extract (by rfl) (by rfl)) (by rfl) ?_)
    | refine swl_nil ?_
    | refine sx_next ?_
    | refine sw_seq ?_
    | refine sw_region ?_
    | refine swl_g_on (by rfl) (by rfl) ?_
    | refine sx_past_exit ?_
    | refine sx_block_here ?_
    | refine sw_cond_neg (by rfl) (by first | assumption | omega) ?_
    | refine sw_ret ?_
    | refine sw_exit ?_
    | fail)
            exact sx_ret_of (res1 rfl (ResOne.tmp rfl)) _ ⟨rfl, rfl⟩ (by (repeat (first | exact Ent.refl _ | exact Ent.nil | (apply Ent.pick; focus ((repeat (first | exact Rem.here | apply Rem.there)); done)) | apply Ent.drop)))
end Go.Proofs.YtcpfehldofmipaaDoor
