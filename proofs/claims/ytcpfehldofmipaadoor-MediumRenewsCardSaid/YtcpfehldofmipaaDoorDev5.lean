/-
  Devices, walked: Write.
-/
import Derived.Test.YtcpfehldofmipaaDoorDev4
import Derived.Test.YtcpfehldofmipaaDoorBase18
namespace Go.Proofs.YtcpfehldofmipaaDoor
open Go Go.SL Go.Proofs

def wrE (s : DevS) (i : Int) (n : Nat) : Int := if !thereB s i then 4 else if n ≠ 128 then 1 else if spE s ≠ 0 then spE s else if bAnd .i64 (s.faults i) 2 ≠ 0 then 9 else 0
def addS (s : DevS) (i : Int) (b : List Int) : DevS := { spendS s with pend := s.pend ++ [(i.toNat, b)] }
def wrS (s : DevS) (i : Int) (b : List Int) : DevS := if thereB s i = true ∧ b.length = 128 then (if wrE s i b.length = 0 then addS s i b else spendS s) else s
theorem addS_OK {s : DevS} (h : s.OK) {i : Int} {b : List Int} (hi : thereB s i = true) (hb : b.length = 128) : (addS s i b).OK := by
  refine ⟨h.b128, fun x hx => ?_, h.bn, spendN_bd h.bu⟩
  simp only [thereB, decide_eq_true_eq] at hi
  rcases List.mem_append.1 hx with hx | hx
  · exact h.p128 x hx
  · obtain rfl := List.mem_singleton.1 hx
    exact ⟨hb, by show i.toNat < s.blocks.length; omega⟩
theorem wrS_OK {s : DevS} (h : s.OK) (i : Int) (b : List Int) : (wrS s i b).OK := by
  unfold wrS
  split
  · rename_i hc
    split
    · exact addS_OK h hc.1 hc.2
    · exact spendS_OK h
  · exact h

theorem newestF_snoc {p : List (Nat × List Int)} {i : Int} {b : List Int} (hi : 0 ≤ i) : newestF (p ++ [(i.toNat, b)]) (.int .i64 i) = some (.int .i64 (p.length : Int)) := by
  simp only [newestF, lastAt_snoc]
  rw [if_pos (by omega)]; rfl
theorem newestF_snoc_other {p : List (Nat × List Int)} {i : Int} {b : List Int} (hi : 0 ≤ i) {u : Value} (h : u ≠ .int .i64 i) : newestF (p ++ [(i.toNat, b)]) u = newestF p u := by
  unfold newestF
  split
  · rename_i z
    have hz : z ≠ i := fun e => h (by rw [e])
    rw [lastAt_snoc, if_neg (by simp only; omega)]
  · rfl

section
variable {w0 : World} {nt : Nat} {L : List HP} {env : Env} {ty : TypeId}
theorem R_build_write {x y : Operand} {i : Int} {b : List Int} (hi : 0 ≤ i) (hb : b.length = 128) (hx : evO env x = some (.int .i64 i)) (hy : evO env y = some (.agg (bcell b))) :
    OpR Tryd.prog w0 nt L env (.build 144 #[(0, x), (1, y)]) ty (.agg (wcell (i.toNat, b))) := by
  refine R_build (ps := [(0, x), (1, y)]) (vs := [(0, .int .i64 i), (1, .agg (bcell b))]) (by simp [evP, hx, hy]) ?_
  have hz : (Value.agg Tryd.zeroCells144).cells = (Value.int .i64 0 :: List.replicate 128 (Value.int .u8 0)).toArray := by rfl
  have hbs : (Value.agg (bcell b)).cells = bcell b := rfl
  have his : (Value.int .i64 i).cells = #[.int .i64 i] := rfl
  rw [hz]
  have hw := wrs_all (l := b.map (Value.int .u8)) (List.replicate 128 (Value.int .u8 0)) [Value.int .i64 i] (by simp [hb])
  simp only [Instr.fill, hbs, his, bcell_size, hb, fold_wrs']
  simp [wrs, bcell] at hw ⊢
  rw [hw]
  simp [wcell, Int.toNat_of_nonneg hi]
end

set_option maxHeartbeats 4000000 in
theorem dev_Write (a : Nat) (s : DevS) (i : Int) (b : List Int) (hpn : s.pend.length ≤ 1000000000) {p : Option Addr} {n c : Nat} {L : List HP} (hb : SlC L p 1 n c (b.map u8c)) :
    Tr Tryd.prog 51 [.pointer (some ⟨a, 0, none⟩), .int .i64 i, .slice p n c].toArray (devP a s :: L) (fun v L' => v = .int .i64 (wrE s i b.length) ∧ L' = devP a (wrS s i b) :: L) := by
  refine Tr.open_dev fun pb cb pp cp rn rf h1 h2 h3 => ?_
  have hlen : b.length = n := by simpa using hb.len
  refine tr_enter Tryd.func51 rfl Tryd.ntmps51 rfl fun w0 => ?_
  have hsp := fun (x0 x1 x2 x3 : Value) (L : List HP) => dev_spend a (x0 := x0) (x1 := x1) (x2 := x2) (x3 := x3) (po := s.power) (mo := s.mounted) (T := 89) (L := L) h3.bu
  cases hth : thereB s i
  · have hE : wrE s i b.length = 4 := by simp [wrE, hth]
    have hS : wrS s i b = s := by simp [wrS, hth]
    rw [hE, hS]
    repeat' (first
    | refine swl_op ?_
    | (refine s1_move ?_; refine sc_r (R_move (by rfl)) (by rfl) ?_)
    | (refine s1_assign ?_; refine sc_r (R_assign (by rfl)) (by rfl) ?_)
    | (refine s1_call ?_; (refine sc_c (by rfl) (C_call (by rfl) (by infer_instance) (by rfl) (by rfl) (dev_there' a i _ (by infer_instance) hth)) (by rfl) ?_; rintro _ _ ⟨rfl, rfl⟩))
    | (refine s1_any ?_; refine sc_r (R_not (by rfl)) (by rfl) ?_)
    | refine swl_nil ?_
    | refine sx_next ?_
    | refine sw_seq ?_
    | refine sw_region ?_
    | refine sw_block ?_
    | refine sx_past_ret ?_
    | refine sx_block_ret ?_
    | refine sw_cond_true (by rfl) ?_
    | refine sw_ret ?_
    | fail)
    exact sx_ret_of (res1 rfl (ResOne.tmp rfl)) _ ⟨rfl, rfl⟩ (Ent.trans (by (repeat (first | exact Ent.refl _ | exact Ent.nil | (apply Ent.pick; focus ((repeat (first | exact Rem.here | apply Rem.there)); done)) | apply Ent.drop))) (dev_close h3))
  · have hth' := hth
    simp only [thereB, decide_eq_true_eq] at hth'
    by_cases hn : n = 128
    · subst hn
      by_cases h0 : spendE s.budget s.power s.mounted = 0
      · rw [h0] at hsp
        by_cases h9 : bAnd .i64 (s.faults i) 2 = 0
        · have hE : wrE s i b.length = 0 := by simp [wrE, hth, hlen, spE, h0, h9]
          have hS : wrS s i b = addS s i b := by rw [wrS, if_pos ⟨hth, hlen⟩, if_pos hE]
          rw [hE, hS]
          have hws : (wcell (i.toNat, b)).size = 129 := by rw [wcell_size]; simp [hlen]
          have hwo : ∀ v ∈ (wcell (i.toNat, b)).toList, v.oneCell' = true := by intro v hv; simp only [wcell, List.toList_toArray, List.mem_cons, List.mem_map] at hv; rcases hv with rfl | ⟨z, _, rfl⟩ <;> rfl
          have hpl : (s.pend.map wcell).length ≤ 1000000000 := by simpa using hpn
          obtain ⟨b0, o0, rfl⟩ := hb.ptr (by omega)
          repeat' (first
    | refine swl_op ?_
    | (refine s1_move ?_; refine sc_r (R_move (by rfl)) (by rfl) ?_)
    | (refine s1_load ?_; refine sc_r (L_load' (by rfl) (by infer_instance) (by rfl)) (by rfl) ?_)
    | (refine s1_fieldAddr ?_; refine sc_r (R_fieldAddr (by rfl)) (by rfl) ?_)
    | (refine s1_assign ?_; refine sc_r (R_assign (by rfl)) (by rfl) ?_)
    | (refine s1_bin ?_; first | refine sc_r (R_neq (by rfl) (by rfl)) (by rfl) ?_ | refine sc_r (R_and (by rfl) (by rfl)) (by rfl) ?_)
    | (refine s1_call ?_; first | (refine sc_c (by rfl) (C_call (by rfl) (by infer_instance) (by rfl) (by rfl) (dev_there' a i _ (by infer_instance) hth)) (by rfl) ?_; rintro _ _ ⟨rfl, rfl⟩) | (refine sc_c (by rfl) (C_call (by rfl) (by infer_instance) (by rfl) (by rfl) (hsp _ _ _ _ _)) (by rfl) ?_; rintro _ _ ⟨rfl, rfl⟩) | refine sc_r (R_len (by rfl)) (by rfl) ?_)
    | (refine s1_any ?_; first | refine sc_r (R_not (by rfl)) (by rfl) ?_ | refine sc_r (R_nilCheck (by rfl)) (by rfl) ?_ | refine sc_r (R_fault (by rfl) (by rfl) (by infer_instance)) (by rfl) ?_ | (refine sc_w (by rfl) (W_mapUpdate (newestF (s.pend ++ [(i.toNat, b)])) (by rfl) (by rfl) (by rfl) (by focus ((repeat (first | exact Rem.here | apply Rem.there)); done)) (by rfl) (by rfl) (newestF_snoc hth'.1) (fun u hu => newestF_snoc_other hth'.1 hu)) (by rfl) ?_; rintro _ _ ⟨rfl, rfl⟩))
    | refine swl_nil ?_
    | refine sx_next ?_
    | refine sw_seq ?_
    | refine sw_region ?_
    | refine sw_block ?_
    | refine sx_block_normal ?_
    | refine sw_cond_false (by rfl) ?_
    | refine sw_cond_npos (by rfl) (by first | assumption | omega) ?_
    | refine sw_skip ?_
    | refine swh_lt (by rfl) (fun _ _ => wanted_none) ?_
    | refine swh_hv (by rfl) (fun _ _ => wanted_none) ?_
    | refine swh_nil ?_
    | (apply And.intro; focus ((repeat (first | exact Ent.refl _ | exact Ent.nil | (apply Ent.pick; focus ((repeat (first | exact Rem.here | apply Rem.there)); done)) | apply Ent.drop)); done))
    | (refine sw_region_draw (pt a (.cells #[.slice pb s.blocks.length cb, .slice pp s.pend.length cp, .map (some rn), .map (some rf), .int .i64 (spendN s.budget s.power), .bool (spendP s.budget s.power), .bool s.mounted] 89) :: L) [(0, true), (1, true), (2, true), (3, true), (4, true), (5, true), (6, true), (7, true), (8, true), (9, true), (10, false)] follows ?_ ?_ ?_ ?_; (focus rfl); (focus (decide +kernel)); (focus ((repeat (first | exact Ent.refl _ | exact Ent.nil | (apply Ent.pick; focus ((repeat (first | exact Rem.here | apply Rem.there)); done)) | apply Ent.drop)); done)))
    | fail)
          refine sw_openL L follows (by decide +kernel) (by (repeat (first | exact Ent.refl _ | exact Ent.nil | (apply Ent.pick; focus ((repeat (first | exact Rem.here | apply Rem.there)); done)) | apply Ent.drop))) ?_
          repeat' (first
    | (refine s1_load ?_; refine sc_r (L_load_slcA (by rfl) (by infer_instance) (by omega)) (by rfl) ?_)
    | (refine s1_move ?_; refine sc_r (R_move (by rfl)) (by rfl) ?_)
    | (refine s1_fieldAddr ?_; refine sc_r (R_fieldAddr (by rfl)) (by rfl) ?_)
    | (refine s1_any ?_; first | refine sc_r (R_build_write hth'.1 hlen (by rfl) (by rfl)) (by rfl) ?_ | refine sc_r (R_nilCheck (by rfl)) (by rfl) ?_ | refine sc_r (R_s2ap (by rfl) (by omega)) (by rfl) ?_)
    | (refine swg_take 0 (by decide +kernel) (by rfl) (fun _ _ => wanted_none) ?_)
    | (refine swg_take 1 (by decide +kernel) (by rfl) (fun _ _ => wanted_none) ?_)
    | (refine swg_take 2 (by decide +kernel) (by rfl) (fun _ _ => wanted_none) ?_)
    | (refine swg_take 3 (by decide +kernel) (by rfl) (fun _ _ => wanted_none) ?_)
    | (refine swg_take 5 (by decide +kernel) (by rfl) (fun _ _ => wanted_none) ?_)
    | (refine swg_take 6 (by decide +kernel) (by rfl) (fun _ _ => wanted_none) ?_)
    | (refine swg_take 7 (by decide +kernel) (by rfl) (fun _ _ => wanted_none) ?_)
    | (refine swg_take 8 (by decide +kernel) (by rfl) (fun _ _ => wanted_none) ?_)
    | (refine swg_take 9 (by decide +kernel) (by rfl) (fun _ _ => wanted_none) ?_)
    | fail)
          refine swg_choice (rs := [4, 10]) (by decide +kernel) rfl ?_
          intro j hj
          simp only [List.mem_cons, List.not_mem_nil, or_false] at hj
          rcases hj with rfl | rfl
          · refine swc_op (by rfl) (fun _ _ => wanted_none) ?_
            repeat' (first
    | (refine s1_load ?_; refine sc_r (L_load' (by rfl) (by infer_instance) (by rfl)) (by rfl) ?_)
    | (apply And.intro; focus ((repeat (first | exact Ent.refl _ | exact Ent.nil | (apply Ent.pick; focus ((repeat (first | exact Rem.here | apply Rem.there)); done)) | apply Ent.drop)); done))
    | fail)
            refine swg_order [(10, false), (11, false), (12, true), (13, true), (14, false)] (by rfl) (by decide +kernel) ?_
            repeat' (first
    | refine swl_op ?_
    | (refine s1_fieldAddr ?_; refine sc_r (R_fieldAddr (by rfl)) (by rfl) ?_)
    | (refine s1_assign ?_; refine sc_r (R_assign (by rfl)) (by rfl) ?_)
    | (refine s1_call ?_; (refine sc_w (by rfl) (W_append1S (by rfl) (by rfl) (by focus ((repeat (first | exact Rem.here | apply Rem.there)); done)) (by infer_instance) hws hwo (by omega)) (by rfl) ?_; rintro vv _ rfl; refine ⟨by (repeat (first | exact Ent.refl _ | exact Ent.nil | (apply Ent.pick; focus ((repeat (first | exact Rem.here | apply Rem.there)); done)) | apply Ent.drop)), ?_⟩; refine swh_know (fun h H => vec_fact H) ?_; rintro ⟨pv, cv, rfl, hv⟩))
    | (refine s1_store ?_; (refine sc_w (by rfl) (W_storeL (by rfl) (by rfl) (by infer_instance) (by rfl) (by rfl) (by rfl)) (by rfl) ?_; rintro _ _ ⟨rfl, rfl⟩))
    | (refine s1_any ?_; first | (refine sc_w (by rfl) (W_buildSlice1S (by rfl) hws (by rfl) (by rfl)) (by rfl) ?_; rintro _ _ ⟨_, rfl, rfl⟩) | refine sc_r (R_nilCheck (by rfl)) (by rfl) ?_)
    | refine swl_nil ?_
    | refine sx_next ?_
    | refine sw_seq ?_
    | refine sw_region ?_
    | refine sw_ret ?_
    | refine swh_lt (by rfl) (fun _ _ => wanted_none) ?_
    | refine swh_hv (by rfl) (fun _ _ => wanted_none) ?_
    | refine swh_nil ?_
    | (apply And.intro; focus ((repeat (first | exact Ent.refl _ | exact Ent.nil | (apply Ent.pick; focus ((repeat (first | exact Rem.here | apply Rem.there)); done)) | apply Ent.drop)); done))
    | fail)
            refine sx_ret_of (res1 rfl (ResOne.tmp rfl)) _ ⟨rfl, rfl⟩ (Ent.trans ?_ (dev_close (addS_OK h3 hth hlen) (sb := .slice pb s.blocks.length cb) (sp := .slice pv (s.pend.map wcell ++ [wcell (i.toNat, b)]).length cv) (rn := rn) (rf := rf)))
            rw [show (addS s i b).pend.map wcell = s.pend.map wcell ++ [wcell (i.toNat, b)] by simp [addS]]
            (repeat (first | exact Ent.refl _ | exact Ent.nil | (apply Ent.pick; focus ((repeat (first | exact Rem.here | apply Rem.there)); done)) | apply Ent.drop))
          · refine swc_op (by rfl) (fun _ _ => wanted_none) ?_
            repeat' (first
    | (refine s1_any ?_; (refine sc_w (by rfl) (W_buildSlice1S (by rfl) hws (by rfl) (by rfl)) (by rfl) ?_; rintro _ _ ⟨_, rfl, rfl⟩))
    | (apply And.intro; focus ((repeat (first | exact Ent.refl _ | exact Ent.nil | (apply Ent.pick; focus ((repeat (first | exact Rem.here | apply Rem.there)); done)) | apply Ent.drop)); done))
    | fail)
            refine swg_order [(4, false), (11, false), (12, true), (13, true), (14, false)] (by rfl) (by decide +kernel) ?_
            repeat' (first
    | refine swl_op ?_
    | (refine s1_load ?_; refine sc_r (L_load' (by rfl) (by infer_instance) (by rfl)) (by rfl) ?_)
    | (refine s1_fieldAddr ?_; refine sc_r (R_fieldAddr (by rfl)) (by rfl) ?_)
    | (refine s1_assign ?_; refine sc_r (R_assign (by rfl)) (by rfl) ?_)
    | (refine s1_call ?_; (refine sc_w (by rfl) (W_append1S (by rfl) (by rfl) (by focus ((repeat (first | exact Rem.here | apply Rem.there)); done)) (by infer_instance) hws hwo (by omega)) (by rfl) ?_; rintro vv _ rfl; refine ⟨by (repeat (first | exact Ent.refl _ | exact Ent.nil | (apply Ent.pick; focus ((repeat (first | exact Rem.here | apply Rem.there)); done)) | apply Ent.drop)), ?_⟩; refine swh_know (fun h H => vec_fact H) ?_; rintro ⟨pv, cv, rfl, hv⟩))
    | (refine s1_store ?_; (refine sc_w (by rfl) (W_storeL (by rfl) (by rfl) (by infer_instance) (by rfl) (by rfl) (by rfl)) (by rfl) ?_; rintro _ _ ⟨rfl, rfl⟩))
    | (refine s1_any ?_; refine sc_r (R_nilCheck (by rfl)) (by rfl) ?_)
    | refine swl_nil ?_
    | refine sx_next ?_
    | refine sw_seq ?_
    | refine sw_region ?_
    | refine sw_ret ?_
    | refine swh_lt (by rfl) (fun _ _ => wanted_none) ?_
    | refine swh_hv (by rfl) (fun _ _ => wanted_none) ?_
    | refine swh_nil ?_
    | (apply And.intro; focus ((repeat (first | exact Ent.refl _ | exact Ent.nil | (apply Ent.pick; focus ((repeat (first | exact Rem.here | apply Rem.there)); done)) | apply Ent.drop)); done))
    | fail)
            refine sx_ret_of (res1 rfl (ResOne.tmp rfl)) _ ⟨rfl, rfl⟩ (Ent.trans ?_ (dev_close (addS_OK h3 hth hlen) (sb := .slice pb s.blocks.length cb) (sp := .slice pv (s.pend.map wcell ++ [wcell (i.toNat, b)]).length cv) (rn := rn) (rf := rf)))
            rw [show (addS s i b).pend.map wcell = s.pend.map wcell ++ [wcell (i.toNat, b)] by simp [addS]]
            (repeat (first | exact Ent.refl _ | exact Ent.nil | (apply Ent.pick; focus ((repeat (first | exact Rem.here | apply Rem.there)); done)) | apply Ent.drop))
        · have hE : wrE s i b.length = 9 := by simp [wrE, hth, hlen, spE, h0, h9]
          have hS : wrS s i b = spendS s := by rw [wrS, if_pos ⟨hth, hlen⟩, if_neg (by rw [hE]; decide)]
          rw [hE, hS]
          repeat' (first
    | refine swl_op ?_
    | (refine s1_move ?_; refine sc_r (R_move (by rfl)) (by rfl) ?_)
    | (refine s1_load ?_; refine sc_r (L_load' (by rfl) (by infer_instance) (by rfl)) (by rfl) ?_)
    | (refine s1_fieldAddr ?_; refine sc_r (R_fieldAddr (by rfl)) (by rfl) ?_)
    | (refine s1_assign ?_; refine sc_r (R_assign (by rfl)) (by rfl) ?_)
    | (refine s1_bin ?_; first | refine sc_r (R_neq (by rfl) (by rfl)) (by rfl) ?_ | refine sc_r (R_and (by rfl) (by rfl)) (by rfl) ?_)
    | (refine s1_call ?_; first | (refine sc_c (by rfl) (C_call (by rfl) (by infer_instance) (by rfl) (by rfl) (dev_there' a i _ (by infer_instance) hth)) (by rfl) ?_; rintro _ _ ⟨rfl, rfl⟩) | (refine sc_c (by rfl) (C_call (by rfl) (by infer_instance) (by rfl) (by rfl) (hsp _ _ _ _ _)) (by rfl) ?_; rintro _ _ ⟨rfl, rfl⟩) | refine sc_r (R_len (by rfl)) (by rfl) ?_)
    | (refine s1_any ?_; first | refine sc_r (R_not (by rfl)) (by rfl) ?_ | refine sc_r (R_nilCheck (by rfl)) (by rfl) ?_ | refine sc_r (R_fault (by rfl) (by rfl) (by infer_instance)) (by rfl) ?_)
    | refine swl_nil ?_
    | refine sx_next ?_
    | refine sw_seq ?_
    | refine sw_region ?_
    | refine sw_block ?_
    | refine sx_past_ret ?_
    | refine sx_block_normal ?_
    | refine sw_cond_false (by rfl) ?_
    | refine sw_cond_nneg (by rfl) (by first | assumption | omega) ?_
    | refine sw_ret ?_
    | refine sw_skip ?_
    | fail)
          exact sx_ret_of (res1 rfl (ResOne.tmp rfl)) _ ⟨rfl, rfl⟩ (Ent.trans (by (repeat (first | exact Ent.refl _ | exact Ent.nil | (apply Ent.pick; focus ((repeat (first | exact Rem.here | apply Rem.there)); done)) | apply Ent.drop))) (dev_close (spendS_OK h3)))
      · have hE : wrE s i b.length = spE s := by simp [wrE, hth, hlen, spE, h0]
        have hS : wrS s i b = spendS s := by rw [wrS, if_pos ⟨hth, hlen⟩, if_neg (by rw [hE]; exact h0)]
        rw [hE, hS]
        unfold spE
        repeat' (first
    | refine swl_op ?_
    | (refine s1_move ?_; refine sc_r (R_move (by rfl)) (by rfl) ?_)
    | (refine s1_assign ?_; refine sc_r (R_assign (by rfl)) (by rfl) ?_)
    | (refine s1_bin ?_; refine sc_r (R_neq (by rfl) (by rfl)) (by rfl) ?_)
    | (refine s1_call ?_; first | (refine sc_c (by rfl) (C_call (by rfl) (by infer_instance) (by rfl) (by rfl) (dev_there' a i _ (by infer_instance) hth)) (by rfl) ?_; rintro _ _ ⟨rfl, rfl⟩) | (refine sc_c (by rfl) (C_call (by rfl) (by infer_instance) (by rfl) (by rfl) (hsp _ _ _ _ _)) (by rfl) ?_; rintro _ _ ⟨rfl, rfl⟩) | refine sc_r (R_len (by rfl)) (by rfl) ?_)
    | (refine s1_any ?_; refine sc_r (R_not (by rfl)) (by rfl) ?_)
    | refine swl_nil ?_
    | refine sx_next ?_
    | refine sw_seq ?_
    | refine sw_region ?_
    | refine sw_block ?_
    | refine sx_past_ret ?_
    | refine sx_block_normal ?_
    | refine sw_cond_false (by rfl) ?_
    | refine sw_cond_nneg (by rfl) (by first | assumption | omega) ?_
    | refine sw_ret ?_
    | refine sw_skip ?_
    | fail)
        exact sx_ret_of (res1 rfl (ResOne.tmp rfl)) _ ⟨rfl, rfl⟩ (Ent.trans (by (repeat (first | exact Ent.refl _ | exact Ent.nil | (apply Ent.pick; focus ((repeat (first | exact Rem.here | apply Rem.there)); done)) | apply Ent.drop))) (dev_close (spendS_OK h3)))
    · have hE : wrE s i b.length = 1 := by simp [wrE, hth, hlen, hn]
      have hS : wrS s i b = s := by simp [wrS, hth, hlen, hn]
      rw [hE, hS]
      repeat' (first
    | refine swl_op ?_
    | (refine s1_move ?_; refine sc_r (R_move (by rfl)) (by rfl) ?_)
    | (refine s1_assign ?_; refine sc_r (R_assign (by rfl)) (by rfl) ?_)
    | (refine s1_bin ?_; refine sc_r (R_neq (by rfl) (by rfl)) (by rfl) ?_)
    | (refine s1_call ?_; first | (refine sc_c (by rfl) (C_call (by rfl) (by infer_instance) (by rfl) (by rfl) (dev_there' a i _ (by infer_instance) hth)) (by rfl) ?_; rintro _ _ ⟨rfl, rfl⟩) | refine sc_r (R_len (by rfl)) (by rfl) ?_)
    | (refine s1_any ?_; refine sc_r (R_not (by rfl)) (by rfl) ?_)
    | refine swl_nil ?_
    | refine sx_next ?_
    | refine sw_seq ?_
    | refine sw_region ?_
    | refine sw_block ?_
    | refine sx_past_ret ?_
    | refine sx_block_ret ?_
    | refine sw_cond_false (by rfl) ?_
    | refine sw_cond_nneg (by rfl) (by first | assumption | omega) ?_
    | refine sw_ret ?_
    | fail)
      exact sx_ret_of (res1 rfl (ResOne.tmp rfl)) _ ⟨rfl, rfl⟩ (Ent.trans (by (repeat (first | exact Ent.refl _ | exact Ent.nil | (apply Ent.pick; focus ((repeat (first | exact Rem.here | apply Rem.there)); done)) | apply Ent.drop))) (dev_close h3))
end Go.Proofs.YtcpfehldofmipaaDoor
