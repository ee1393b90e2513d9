import Derived.Test.YtjdnflhejfcgdaaDoorK3

/-
  Summaries: parts and their entries, walked; which parts may be.
-/
namespace Go.Proofs.YtjdnflhejfcgdaaDoor
open Go Go.SL Go.Proofs

structure EntS where
  kind : Int
  ino : Int
  index : Int
  sum : Int
deriving DecidableEq
def EntS.cells (e : EntS) : Array Value := #[.int .i64 e.kind, .int .i64 e.ino, .int .i64 e.index, .int .u32 e.sum]
structure PartS where
  seq : Int
  next : Int
  fin : Bool
  l : List EntS
deriving DecidableEq
def PartS.cells (p : PartS) (s : Value) : Array Value := #[.int .i64 p.seq, .int .i64 p.next, .bool p.fin, s]
def entMay (e : EntS) : Bool := decide (1 ≤ e.kind ∧ e.kind ≤ 4 ∧ 0 ≤ e.ino ∧ e.ino ≤ 255 ∧ 0 ≤ e.index ∧ e.index ≤ 65535)
def mayP (p : PartS) : Bool := decide (1 ≤ p.seq ∧ p.seq ≤ 281474976710655 ∧ 0 ≤ p.next ∧ p.next ≤ 2147483647 ∧ 1 ≤ p.l.length ∧ p.l.length ≤ 13) && p.l.all entMay
theorem ent_get {l : List EntS} {g : Nat} (h : g < l.length) : (l.map EntS.cells).getD g #[] = l[g].cells := by simp [h]

theorem summary_entries (s : Value) (h1 : s.oneCell' = true) {L : List HP} : Tr Tryd.prog 67 [s].toArray L
    (fun v L' => ∃ b, v = .func (.func 97) #[] #[.pointer (some ⟨b, 0, none⟩)] ∧ L' = pt b (.cells #[s] 32) :: L) := by
  refine tr_enter Tryd.func67 rfl Tryd.ntmps67 rfl fun w0 => ?_
  repeat' (first
    | (refine s1_box ?_; refine sc_w (by rfl) (W_box1 (by rfl) h1) (by rfl) ?_; rintro _ _ ⟨_, rfl, rfl⟩)
    | refine swl_op ?_
    | (refine s1_move ?_; refine sc_r (R_move (by rfl)) (by rfl) ?_)
    | (refine s1_load ?_; first | refine sc_r (L_load' (by rfl) (by infer_instance) (by rfl)) (by rfl) ?_ | refine sc_r (L_load_all (by rfl) (by infer_instance) (by rfl)) (by rfl) ?_ | refine sc_r (L_load_el (by rfl) (by infer_instance) (by infer_instance) (by omega) (by first | assumption | rfl)) (by rfl) ?_ | refine sc_r (L_load_el1 (by rfl) (by infer_instance) (by omega) (by first | assumption | rfl)) (by rfl) ?_ | refine sc_r (L_load_elf (by rfl) (by infer_instance) (by omega) (by first | assumption | rfl) (by rfl) (by rfl)) (by rfl) ?_ | refine sc_r (L_load_agg (by rfl) (by infer_instance) (by assumption) (by assumption)) (by rfl) ?_ | refine sc_r (L_load (by rfl) (by infer_instance) (by assumption)) (by rfl) ?_)
    | (refine s1_fieldAddr ?_; refine sc_r (R_fieldAddr (by rfl)) (by rfl) ?_)
    | (refine s1_assign ?_; refine sc_r (R_assign (by rfl)) (by rfl) ?_)
    | (refine s1_pick ?_; first | refine sc_r (R_pick_t (by rfl) (by rfl)) (by rfl) ?_ | refine sc_r (R_pick_f (by rfl) (by rfl)) (by rfl) ?_)
    | (refine s1_bin ?_; first | refine sc_r (R_lss (by rfl) (by rfl)) (by rfl) ?_ | refine sc_r (R_add64 (by rfl) (by rfl) (by omega)) (by rfl) ?_ | refine sc_r (R_gtr (by rfl) (by rfl)) (by rfl) ?_ | refine sc_r (R_leq (by rfl) (by rfl)) (by rfl) ?_ | refine sc_r (R_geq (by rfl) (by rfl)) (by rfl) ?_ | refine sc_r (R_eql (by rfl) (by rfl)) (by rfl) ?_ | refine sc_r (R_neq (by rfl) (by rfl)) (by rfl) ?_ | refine sc_r (R_sub64 (by rfl) (by rfl) (by omega)) (by rfl) ?_ | refine sc_r (R_mul64 (by rfl) (by rfl) (by first | assumption | omega)) (by rfl) ?_ | refine sc_r (R_quo64 (by rfl) (by rfl) (by omega)) (by rfl) ?_ | refine sc_r (R_rem64 (by rfl) (by rfl) (by omega)) (by rfl) ?_)
    | (refine s1_call ?_; first | (refine sc_w (by rfl) (W_append1 (by rfl) (by rfl) (by focus ((repeat (first | exact Rem.here | apply Rem.there)); done)) (by infer_instance) (by rfl) (by rfl) (by first | assumption | omega)) (by rfl) ?_; rintro _ _ rfl) | refine sc_r (R_len (by rfl)) (by rfl) ?_ | refine sc_r (R_len_str (by rfl)) (by rfl) ?_)
    | (refine s1_indexAddr ?_; first | refine sc_r (R_indexAddr (by rfl) (by rfl) (by omega)) (by rfl) ?_ | refine sc_r (R_indexAddr_arr (by rfl) (by rfl) (by omega)) (by rfl) ?_)
    | (refine s1_store ?_; first | (refine sc_w (by rfl) (W_storeAll (by rfl) (by rfl) (by infer_instance) (by rfl) (by rfl) (by rfl)) (by rfl) ?_; rintro _ _ ⟨rfl, rfl⟩) | (refine sc_w (by rfl) (W_storeL (by rfl) (by rfl) (by infer_instance) (by rfl) (by rfl) (by rfl)) (by rfl) ?_; rintro _ _ ⟨rfl, rfl⟩) | (refine sc_w (by rfl) (W_store1 (by rfl) (by rfl) (by infer_instance) (by rfl) (by assumption) (by rfl)) (by rfl) ?_; rintro _ _ ⟨rfl, rfl⟩))
    | (refine s1_alloc ?_; first | (refine sc_w (by rfl) W_allocA (by rfl) ?_; rintro _ _ ⟨_, rfl, rfl⟩) | (refine sc_w (by rfl) (W_alloc1 (by rfl)) (by rfl) ?_; rintro _ _ ⟨_, rfl, rfl⟩))
    | (refine s1_box ?_; first | (refine sc_w (by rfl) (W_boxA (by rfl)) (by rfl) ?_; rintro _ _ ⟨_, rfl, rfl⟩) | (refine sc_w (by rfl) (W_box1 (by rfl) (by rfl)) (by rfl) ?_; rintro _ _ ⟨_, rfl, rfl⟩))
    | (refine s1_conv ?_; first | refine sc_r (R_conv64 (by rfl) (by omega)) (by rfl) ?_)
    | (refine s1_slice ?_; first | refine sc_r (R_slice_h (by rfl) (by rfl) (by omega)) (by rfl) ?_ | refine sc_r (R_slice_l (by rfl) (by rfl) (by omega)) (by rfl) ?_ | refine sc_r (R_slice_lh (by rfl) (by rfl) (by rfl) (by omega)) (by rfl) ?_)
    | (refine s1_any ?_; first | refine sc_r (R_not (by rfl)) (by rfl) ?_ | refine sc_r (R_extract (by rfl) (by rfl)) (by rfl) ?_ | (refine sc_w (by rfl) (W_buildSlice1 (by rfl) (by rfl) (by rfl) (by rfl) (by rfl)) (by rfl) ?_; rintro _ _ ⟨_, rfl, rfl⟩) | (refine sc_w (by rfl) (W_buildSlice1s (by rfl) (by rfl)) (by rfl) ?_; rintro _ _ ⟨_, rfl, rfl⟩) | (refine sc_w (by rfl) (W_buildSlice (by rfl) (by rfl) (by rfl) (by rfl)) (by rfl) ?_; rintro _ _ ⟨_, rfl, rfl⟩) | refine sc_r (R_build (by rfl) (by rfl)) (by rfl) ?_ | refine sc_r (R_nilCheck (by rfl)) (by rfl) ?_ | refine sc_r (R_nilCheck_func (by rfl)) (by rfl) ?_ | (refine sc_w (by rfl) W_makeMap (by rfl) ?_; rintro _ _ ⟨_, rfl, rfl⟩) | refine sc_r (R_makeInterface (by rfl)) (by rfl) ?_ | refine sc_r (R_makeFunc (by rfl) (by rfl)) (by rfl) ?_)
    | refine swl_nil ?_
    | refine sx_next ?_
    | refine sw_seq ?_
    | refine sw_region ?_
    | refine sw_block ?_
    | refine swl_g_on (by rfl) (by rfl) ?_
    | refine swl_g_off (by rfl) (by rfl) (by rfl) (by rfl) ?_
    | refine swl_g_un (by rfl) (by rfl) (by rfl) ?_
    | refine swl_g_pos (by rfl) (by rfl) (by first | assumption | omega) ?_
    | refine swl_g_neg (by rfl) (by rfl) (by first | assumption | omega) ?_
    | refine swl_g_npos (by rfl) (by rfl) (by first | assumption | omega) ?_
    | refine swl_g_nneg (by rfl) (by rfl) (by first | assumption | omega) ?_
    | refine swl_g_dec (by rfl) (by rfl) (fun hp => ?_) (fun hp => ?_)
    | refine swl_g_ndec (by rfl) (by rfl) (fun hp => ?_) (fun hp => ?_)
    | refine swl_g_bool (by rfl) (by rfl) (fun hp => ?_) (fun hp => ?_)
    | refine sx_past_ret ?_
    | refine sx_past_exit ?_
    | refine sx_block_normal ?_
    | refine sx_block_ret ?_
    | refine sx_block_here ?_
    | refine sx_block_past (by rfl) ?_
    | refine sw_cond_true (by rfl) ?_
    | refine sw_cond_false (by rfl) ?_
    | refine sw_cond_pos (by rfl) (by first | assumption | omega) ?_
    | refine sw_cond_neg (by rfl) (by first | assumption | omega) ?_
    | refine sw_cond_npos (by rfl) (by first | assumption | omega) ?_
    | refine sw_cond_nneg (by rfl) (by first | assumption | omega) ?_
    | refine sw_cond_dec (by rfl) (fun hp => ?_) (fun hp => ?_)
    | refine sw_cond_not (by rfl) (fun hp => ?_) (fun hp => ?_)
    | refine sw_cond_bool (by rfl) (fun hp => ?_) (fun hp => ?_)
    | refine sw_ret ?_
    | refine sw_exit ?_
    | refine sw_skip ?_
    | fail)
  exact sx_ret_of (res1 rfl (ResOne.tmp rfl)) _ ⟨_, rfl, rfl⟩ (by (repeat (first | exact Ent.refl _ | exact Ent.nil | (apply Ent.pick; focus ((repeat (first | exact Rem.here | apply Rem.there)); done)) | apply Ent.drop)))

theorem summary_entries1 (b l : Nat) (ents : List EntS) {p : Option Addr} {n c : Nat} {T : TypeId} (J : Nat → List HP) (Jx : List HP → Prop) (hb : ∀ i, i ≤ n → ReadC (J i) b (.cells #[.slice p n c] T)) (hs : ∀ i, i ≤ n → SlC (J i) p 4 n c (ents.map EntS.cells))
    (hY : ∀ i (h : i < ents.length), YTr Tryd.prog l [.int .i64 i, .agg ents[i].cells].toArray (J i) (fun v L' => (v = .bool true ∧ L' = J (i + 1)) ∨ (v = .bool false ∧ Jx L'))) :
    Tr Tryd.prog 97 [.func (.yield l) #[] #[], .pointer (some ⟨b, 0, none⟩)].toArray (J 0) (fun _ L' => L' = J n ∨ Jx L') := by
  have hb0 := hb 0 (by omega)
  have hbd := (hs 0 (by omega)).bd
  have hlen : ents.length = n := by simpa using (hs 0 (by omega)).len
  refine tr_enter Tryd.func97 rfl Tryd.ntmps97 rfl fun w0 => ?_
  repeat' (first
    | refine swl_op ?_
    | (refine s1_move ?_; refine sc_r (R_move (by rfl)) (by rfl) ?_)
    | (refine s1_load ?_; first | refine sc_r (L_load' (by rfl) (by infer_instance) (by rfl)) (by rfl) ?_ | refine sc_r (L_load_all (by rfl) (by infer_instance) (by rfl)) (by rfl) ?_ | refine sc_r (L_load_el (by rfl) (by infer_instance) (by infer_instance) (by omega) (by first | assumption | rfl)) (by rfl) ?_ | refine sc_r (L_load_el1 (by rfl) (by infer_instance) (by omega) (by first | assumption | rfl)) (by rfl) ?_ | refine sc_r (L_load_elf (by rfl) (by infer_instance) (by omega) (by first | assumption | rfl) (by rfl) (by rfl)) (by rfl) ?_ | refine sc_r (L_load_agg (by rfl) (by infer_instance) (by assumption) (by assumption)) (by rfl) ?_ | refine sc_r (L_load (by rfl) (by infer_instance) (by assumption)) (by rfl) ?_)
    | (refine s1_fieldAddr ?_; refine sc_r (R_fieldAddr (by rfl)) (by rfl) ?_)
    | (refine s1_assign ?_; refine sc_r (R_assign (by rfl)) (by rfl) ?_)
    | (refine s1_pick ?_; first | refine sc_r (R_pick_t (by rfl) (by rfl)) (by rfl) ?_ | refine sc_r (R_pick_f (by rfl) (by rfl)) (by rfl) ?_)
    | (refine s1_bin ?_; first | refine sc_r (R_lss (by rfl) (by rfl)) (by rfl) ?_ | refine sc_r (R_add64 (by rfl) (by rfl) (by omega)) (by rfl) ?_ | refine sc_r (R_gtr (by rfl) (by rfl)) (by rfl) ?_ | refine sc_r (R_leq (by rfl) (by rfl)) (by rfl) ?_ | refine sc_r (R_geq (by rfl) (by rfl)) (by rfl) ?_ | refine sc_r (R_eql (by rfl) (by rfl)) (by rfl) ?_ | refine sc_r (R_neq (by rfl) (by rfl)) (by rfl) ?_ | refine sc_r (R_sub64 (by rfl) (by rfl) (by omega)) (by rfl) ?_ | refine sc_r (R_mul64 (by rfl) (by rfl) (by first | assumption | omega)) (by rfl) ?_ | refine sc_r (R_quo64 (by rfl) (by rfl) (by omega)) (by rfl) ?_ | refine sc_r (R_rem64 (by rfl) (by rfl) (by omega)) (by rfl) ?_)
    | (refine s1_call ?_; first | (refine sc_w (by rfl) (W_append1 (by rfl) (by rfl) (by focus ((repeat (first | exact Rem.here | apply Rem.there)); done)) (by infer_instance) (by rfl) (by rfl) (by first | assumption | omega)) (by rfl) ?_; rintro _ _ rfl) | refine sc_r (R_len (by rfl)) (by rfl) ?_ | refine sc_r (R_len_str (by rfl)) (by rfl) ?_)
    | (refine s1_indexAddr ?_; first | refine sc_r (R_indexAddr (by rfl) (by rfl) (by omega)) (by rfl) ?_ | refine sc_r (R_indexAddr_arr (by rfl) (by rfl) (by omega)) (by rfl) ?_)
    | (refine s1_store ?_; first | (refine sc_w (by rfl) (W_storeAll (by rfl) (by rfl) (by infer_instance) (by rfl) (by rfl) (by rfl)) (by rfl) ?_; rintro _ _ ⟨rfl, rfl⟩) | (refine sc_w (by rfl) (W_storeL (by rfl) (by rfl) (by infer_instance) (by rfl) (by rfl) (by rfl)) (by rfl) ?_; rintro _ _ ⟨rfl, rfl⟩) | (refine sc_w (by rfl) (W_store1 (by rfl) (by rfl) (by infer_instance) (by rfl) (by assumption) (by rfl)) (by rfl) ?_; rintro _ _ ⟨rfl, rfl⟩))
    | (refine s1_alloc ?_; first | (refine sc_w (by rfl) W_allocA (by rfl) ?_; rintro _ _ ⟨_, rfl, rfl⟩) | (refine sc_w (by rfl) (W_alloc1 (by rfl)) (by rfl) ?_; rintro _ _ ⟨_, rfl, rfl⟩))
    | (refine s1_box ?_; first | (refine sc_w (by rfl) (W_boxA (by rfl)) (by rfl) ?_; rintro _ _ ⟨_, rfl, rfl⟩) | (refine sc_w (by rfl) (W_box1 (by rfl) (by rfl)) (by rfl) ?_; rintro _ _ ⟨_, rfl, rfl⟩))
    | (refine s1_conv ?_; first | refine sc_r (R_conv64 (by rfl) (by omega)) (by rfl) ?_)
    | (refine s1_slice ?_; first | refine sc_r (R_slice_h (by rfl) (by rfl) (by omega)) (by rfl) ?_ | refine sc_r (R_slice_l (by rfl) (by rfl) (by omega)) (by rfl) ?_ | refine sc_r (R_slice_lh (by rfl) (by rfl) (by rfl) (by omega)) (by rfl) ?_)
    | (refine s1_any ?_; first | refine sc_r (R_not (by rfl)) (by rfl) ?_ | refine sc_r (R_extract (by rfl) (by rfl)) (by rfl) ?_ | (refine sc_w (by rfl) (W_buildSlice1 (by rfl) (by rfl) (by rfl) (by rfl) (by rfl)) (by rfl) ?_; rintro _ _ ⟨_, rfl, rfl⟩) | (refine sc_w (by rfl) (W_buildSlice1s (by rfl) (by rfl)) (by rfl) ?_; rintro _ _ ⟨_, rfl, rfl⟩) | (refine sc_w (by rfl) (W_buildSlice (by rfl) (by rfl) (by rfl) (by rfl)) (by rfl) ?_; rintro _ _ ⟨_, rfl, rfl⟩) | refine sc_r (R_build (by rfl) (by rfl)) (by rfl) ?_ | refine sc_r (R_nilCheck (by rfl)) (by rfl) ?_ | refine sc_r (R_nilCheck_func (by rfl)) (by rfl) ?_ | (refine sc_w (by rfl) W_makeMap (by rfl) ?_; rintro _ _ ⟨_, rfl, rfl⟩) | refine sc_r (R_makeInterface (by rfl)) (by rfl) ?_ | refine sc_r (R_makeFunc (by rfl) (by rfl)) (by rfl) ?_)
    | refine swl_nil ?_
    | refine sx_next ?_
    | refine sw_seq ?_
    | refine sw_region ?_
    | refine sw_block ?_
    | refine swl_g_on (by rfl) (by rfl) ?_
    | refine swl_g_off (by rfl) (by rfl) (by rfl) (by rfl) ?_
    | refine swl_g_un (by rfl) (by rfl) (by rfl) ?_
    | refine swl_g_pos (by rfl) (by rfl) (by first | assumption | omega) ?_
    | refine swl_g_neg (by rfl) (by rfl) (by first | assumption | omega) ?_
    | refine swl_g_npos (by rfl) (by rfl) (by first | assumption | omega) ?_
    | refine swl_g_nneg (by rfl) (by rfl) (by first | assumption | omega) ?_
    | refine swl_g_dec (by rfl) (by rfl) (fun hp => ?_) (fun hp => ?_)
    | refine swl_g_ndec (by rfl) (by rfl) (fun hp => ?_) (fun hp => ?_)
    | refine swl_g_bool (by rfl) (by rfl) (fun hp => ?_) (fun hp => ?_)
    | refine sx_past_ret ?_
    | refine sx_past_exit ?_
    | refine sx_block_normal ?_
    | refine sx_block_ret ?_
    | refine sx_block_here ?_
    | refine sx_block_past (by rfl) ?_
    | refine sw_cond_true (by rfl) ?_
    | refine sw_cond_false (by rfl) ?_
    | refine sw_cond_pos (by rfl) (by first | assumption | omega) ?_
    | refine sw_cond_neg (by rfl) (by first | assumption | omega) ?_
    | refine sw_cond_npos (by rfl) (by first | assumption | omega) ?_
    | refine sw_cond_nneg (by rfl) (by first | assumption | omega) ?_
    | refine sw_cond_dec (by rfl) (fun hp => ?_) (fun hp => ?_)
    | refine sw_cond_not (by rfl) (fun hp => ?_) (fun hp => ?_)
    | refine sw_cond_bool (by rfl) (fun hp => ?_) (fun hp => ?_)
    | refine sw_ret ?_
    | refine sw_exit ?_
    | refine sw_skip ?_
    | fail)
  refine sw_loop (γ := Nat) (fun g => n - g) (fun g => [(0, .func (.yield l) #[] #[]), (5, .slice p n c), (6, .int .i64 n), (7, .int .i64 g)]) J (fun g => g ≤ n) 0 (by omega)
    (subE.cons rfl (subE.cons rfl (subE.cons rfl (subE.cons rfl subE.nil)))) (by (repeat (first | exact Ent.refl _ | exact Ent.nil | (apply Ent.pick; focus ((repeat (first | exact Rem.here | apply Rem.there)); done)) | apply Ent.drop))) ?_
  intro g hg
  by_cases hlt : g < n
  · have hsg := hs g (by omega)
    obtain ⟨b1, o1, rfl⟩ := hsg.ptr (by omega)
    have he1 := ent_get (l := ents) (g := g) (by omega)
    have hYg := hY g (by omega)
    generalize ents[g] = e at *
    unfold EntS.cells at he1 hYg
    repeat' (first
    | (refine swl_yield (by rfl) (by rfl) (by rfl) (YTr.ent (Ent.drop (Ent.refl _)) hYg) ?_; rintro _ _ (⟨rfl, rfl⟩ | ⟨rfl, hx⟩))
    | refine swl_op ?_
    | (refine s1_move ?_; refine sc_r (R_move (by rfl)) (by rfl) ?_)
    | (refine s1_load ?_; first | refine sc_r (L_load' (by rfl) (by infer_instance) (by rfl)) (by rfl) ?_ | refine sc_r (L_load_all (by rfl) (by infer_instance) (by rfl)) (by rfl) ?_ | refine sc_r (L_load_el (by rfl) (by infer_instance) (by infer_instance) (by omega) (by first | assumption | rfl)) (by rfl) ?_ | refine sc_r (L_load_el1 (by rfl) (by infer_instance) (by omega) (by first | assumption | rfl)) (by rfl) ?_ | refine sc_r (L_load_elf (by rfl) (by infer_instance) (by omega) (by first | assumption | rfl) (by rfl) (by rfl)) (by rfl) ?_ | refine sc_r (L_load_agg (by rfl) (by infer_instance) (by assumption) (by assumption)) (by rfl) ?_ | refine sc_r (L_load (by rfl) (by infer_instance) (by assumption)) (by rfl) ?_)
    | (refine s1_fieldAddr ?_; refine sc_r (R_fieldAddr (by rfl)) (by rfl) ?_)
    | (refine s1_assign ?_; refine sc_r (R_assign (by rfl)) (by rfl) ?_)
    | (refine s1_pick ?_; first | refine sc_r (R_pick_t (by rfl) (by rfl)) (by rfl) ?_ | refine sc_r (R_pick_f (by rfl) (by rfl)) (by rfl) ?_)
    | (refine s1_bin ?_; first | refine sc_r (R_lss (by rfl) (by rfl)) (by rfl) ?_ | refine sc_r (R_add64 (by rfl) (by rfl) (by omega)) (by rfl) ?_ | refine sc_r (R_gtr (by rfl) (by rfl)) (by rfl) ?_ | refine sc_r (R_leq (by rfl) (by rfl)) (by rfl) ?_ | refine sc_r (R_geq (by rfl) (by rfl)) (by rfl) ?_ | refine sc_r (R_eql (by rfl) (by rfl)) (by rfl) ?_ | refine sc_r (R_neq (by rfl) (by rfl)) (by rfl) ?_ | refine sc_r (R_sub64 (by rfl) (by rfl) (by omega)) (by rfl) ?_ | refine sc_r (R_mul64 (by rfl) (by rfl) (by first | assumption | omega)) (by rfl) ?_ | refine sc_r (R_quo64 (by rfl) (by rfl) (by omega)) (by rfl) ?_ | refine sc_r (R_rem64 (by rfl) (by rfl) (by omega)) (by rfl) ?_)
    | (refine s1_call ?_; first | (refine sc_w (by rfl) (W_append1 (by rfl) (by rfl) (by focus ((repeat (first | exact Rem.here | apply Rem.there)); done)) (by infer_instance) (by rfl) (by rfl) (by first | assumption | omega)) (by rfl) ?_; rintro _ _ rfl) | refine sc_r (R_len (by rfl)) (by rfl) ?_ | refine sc_r (R_len_str (by rfl)) (by rfl) ?_)
    | (refine s1_indexAddr ?_; first | refine sc_r (R_indexAddr (by rfl) (by rfl) (by omega)) (by rfl) ?_ | refine sc_r (R_indexAddr_arr (by rfl) (by rfl) (by omega)) (by rfl) ?_)
    | (refine s1_store ?_; first | (refine sc_w (by rfl) (W_storeAll (by rfl) (by rfl) (by infer_instance) (by rfl) (by rfl) (by rfl)) (by rfl) ?_; rintro _ _ ⟨rfl, rfl⟩) | (refine sc_w (by rfl) (W_storeL (by rfl) (by rfl) (by infer_instance) (by rfl) (by rfl) (by rfl)) (by rfl) ?_; rintro _ _ ⟨rfl, rfl⟩) | (refine sc_w (by rfl) (W_store1 (by rfl) (by rfl) (by infer_instance) (by rfl) (by assumption) (by rfl)) (by rfl) ?_; rintro _ _ ⟨rfl, rfl⟩))
    | (refine s1_alloc ?_; first | (refine sc_w (by rfl) W_allocA (by rfl) ?_; rintro _ _ ⟨_, rfl, rfl⟩) | (refine sc_w (by rfl) (W_alloc1 (by rfl)) (by rfl) ?_; rintro _ _ ⟨_, rfl, rfl⟩))
    | (refine s1_box ?_; first | (refine sc_w (by rfl) (W_boxA (by rfl)) (by rfl) ?_; rintro _ _ ⟨_, rfl, rfl⟩) | (refine sc_w (by rfl) (W_box1 (by rfl) (by rfl)) (by rfl) ?_; rintro _ _ ⟨_, rfl, rfl⟩))
    | (refine s1_conv ?_; first | refine sc_r (R_conv64 (by rfl) (by omega)) (by rfl) ?_)
    | (refine s1_slice ?_; first | refine sc_r (R_slice_h (by rfl) (by rfl) (by omega)) (by rfl) ?_ | refine sc_r (R_slice_l (by rfl) (by rfl) (by omega)) (by rfl) ?_ | refine sc_r (R_slice_lh (by rfl) (by rfl) (by rfl) (by omega)) (by rfl) ?_)
    | (refine s1_any ?_; first | refine sc_r (R_not (by rfl)) (by rfl) ?_ | refine sc_r (R_extract (by rfl) (by rfl)) (by rfl) ?_ | (refine sc_w (by rfl) (W_buildSlice1 (by rfl) (by rfl) (by rfl) (by rfl) (by rfl)) (by rfl) ?_; rintro _ _ ⟨_, rfl, rfl⟩) | (refine sc_w (by rfl) (W_buildSlice1s (by rfl) (by rfl)) (by rfl) ?_; rintro _ _ ⟨_, rfl, rfl⟩) | (refine sc_w (by rfl) (W_buildSlice (by rfl) (by rfl) (by rfl) (by rfl)) (by rfl) ?_; rintro _ _ ⟨_, rfl, rfl⟩) | refine sc_r (R_build (by rfl) (by rfl)) (by rfl) ?_ | refine sc_r (R_nilCheck (by rfl)) (by rfl) ?_ | refine sc_r (R_nilCheck_func (by rfl)) (by rfl) ?_ | (refine sc_w (by rfl) W_makeMap (by rfl) ?_; rintro _ _ ⟨_, rfl, rfl⟩) | refine sc_r (R_makeInterface (by rfl)) (by rfl) ?_ | refine sc_r (R_makeFunc (by rfl) (by rfl)) (by rfl) ?_)
    | refine swl_nil ?_
    | refine sx_next ?_
    | refine sw_seq ?_
    | refine sw_region ?_
    | refine sw_block ?_
    | refine swl_g_on (by rfl) (by rfl) ?_
    | refine swl_g_off (by rfl) (by rfl) (by rfl) (by rfl) ?_
    | refine swl_g_un (by rfl) (by rfl) (by rfl) ?_
    | refine swl_g_pos (by rfl) (by rfl) (by first | assumption | omega) ?_
    | refine swl_g_neg (by rfl) (by rfl) (by first | assumption | omega) ?_
    | refine swl_g_npos (by rfl) (by rfl) (by first | assumption | omega) ?_
    | refine swl_g_nneg (by rfl) (by rfl) (by first | assumption | omega) ?_
    | refine swl_g_dec (by rfl) (by rfl) (fun hp => ?_) (fun hp => ?_)
    | refine swl_g_ndec (by rfl) (by rfl) (fun hp => ?_) (fun hp => ?_)
    | refine swl_g_bool (by rfl) (by rfl) (fun hp => ?_) (fun hp => ?_)
    | refine sx_past_ret ?_
    | refine sx_past_exit ?_
    | refine sx_block_normal ?_
    | refine sx_block_ret ?_
    | refine sx_block_here ?_
    | refine sx_block_past (by rfl) ?_
    | refine sw_cond_true (by rfl) ?_
    | refine sw_cond_false (by rfl) ?_
    | refine sw_cond_pos (by rfl) (by first | assumption | omega) ?_
    | refine sw_cond_neg (by rfl) (by first | assumption | omega) ?_
    | refine sw_cond_npos (by rfl) (by first | assumption | omega) ?_
    | refine sw_cond_nneg (by rfl) (by first | assumption | omega) ?_
    | refine sw_cond_dec (by rfl) (fun hp => ?_) (fun hp => ?_)
    | refine sw_cond_not (by rfl) (fun hp => ?_) (fun hp => ?_)
    | refine sw_cond_bool (by rfl) (fun hp => ?_) (fun hp => ?_)
    | refine sw_ret ?_
    | refine sw_exit ?_
    | refine sw_skip ?_
    | fail)
    · exact sx_back (g + 1) (by omega) (by omega) (subE.cons rfl (subE.cons rfl (subE.cons rfl (subE.cons rfl subE.nil)))) (by (repeat (first | exact Ent.refl _ | exact Ent.nil | (apply Ent.pick; focus ((repeat (first | exact Rem.here | apply Rem.there)); done)) | apply Ent.drop)))
    · exact sx_ret_of (res0 rfl) _ (.inr hx) (by (repeat (first | exact Ent.refl _ | exact Ent.nil | (apply Ent.pick; focus ((repeat (first | exact Rem.here | apply Rem.there)); done)) | apply Ent.drop)))
  · obtain rfl : g = n := by omega
    repeat' (first
    | refine swl_op ?_
    | (refine s1_move ?_; refine sc_r (R_move (by rfl)) (by rfl) ?_)
    | (refine s1_load ?_; first | refine sc_r (L_load' (by rfl) (by infer_instance) (by rfl)) (by rfl) ?_ | refine sc_r (L_load_all (by rfl) (by infer_instance) (by rfl)) (by rfl) ?_ | refine sc_r (L_load_el (by rfl) (by infer_instance) (by infer_instance) (by omega) (by first | assumption | rfl)) (by rfl) ?_ | refine sc_r (L_load_el1 (by rfl) (by infer_instance) (by omega) (by first | assumption | rfl)) (by rfl) ?_ | refine sc_r (L_load_elf (by rfl) (by infer_instance) (by omega) (by first | assumption | rfl) (by rfl) (by rfl)) (by rfl) ?_ | refine sc_r (L_load_agg (by rfl) (by infer_instance) (by assumption) (by assumption)) (by rfl) ?_ | refine sc_r (L_load (by rfl) (by infer_instance) (by assumption)) (by rfl) ?_)
    | (refine s1_fieldAddr ?_; refine sc_r (R_fieldAddr (by rfl)) (by rfl) ?_)
    | (refine s1_assign ?_; refine sc_r (R_assign (by rfl)) (by rfl) ?_)
    | (refine s1_pick ?_; first | refine sc_r (R_pick_t (by rfl) (by rfl)) (by rfl) ?_ | refine sc_r (R_pick_f (by rfl) (by rfl)) (by rfl) ?_)
    | (refine s1_bin ?_; first | refine sc_r (R_lss (by rfl) (by rfl)) (by rfl) ?_ | refine sc_r (R_add64 (by rfl) (by rfl) (by omega)) (by rfl) ?_ | refine sc_r (R_gtr (by rfl) (by rfl)) (by rfl) ?_ | refine sc_r (R_leq (by rfl) (by rfl)) (by rfl) ?_ | refine sc_r (R_geq (by rfl) (by rfl)) (by rfl) ?_ | refine sc_r (R_eql (by rfl) (by rfl)) (by rfl) ?_ | refine sc_r (R_neq (by rfl) (by rfl)) (by rfl) ?_ | refine sc_r (R_sub64 (by rfl) (by rfl) (by omega)) (by rfl) ?_ | refine sc_r (R_mul64 (by rfl) (by rfl) (by first | assumption | omega)) (by rfl) ?_ | refine sc_r (R_quo64 (by rfl) (by rfl) (by omega)) (by rfl) ?_ | refine sc_r (R_rem64 (by rfl) (by rfl) (by omega)) (by rfl) ?_)
    | (refine s1_call ?_; first | (refine sc_w (by rfl) (W_append1 (by rfl) (by rfl) (by focus ((repeat (first | exact Rem.here | apply Rem.there)); done)) (by infer_instance) (by rfl) (by rfl) (by first | assumption | omega)) (by rfl) ?_; rintro _ _ rfl) | refine sc_r (R_len (by rfl)) (by rfl) ?_ | refine sc_r (R_len_str (by rfl)) (by rfl) ?_)
    | (refine s1_indexAddr ?_; first | refine sc_r (R_indexAddr (by rfl) (by rfl) (by omega)) (by rfl) ?_ | refine sc_r (R_indexAddr_arr (by rfl) (by rfl) (by omega)) (by rfl) ?_)
    | (refine s1_store ?_; first | (refine sc_w (by rfl) (W_storeAll (by rfl) (by rfl) (by infer_instance) (by rfl) (by rfl) (by rfl)) (by rfl) ?_; rintro _ _ ⟨rfl, rfl⟩) | (refine sc_w (by rfl) (W_storeL (by rfl) (by rfl) (by infer_instance) (by rfl) (by rfl) (by rfl)) (by rfl) ?_; rintro _ _ ⟨rfl, rfl⟩) | (refine sc_w (by rfl) (W_store1 (by rfl) (by rfl) (by infer_instance) (by rfl) (by assumption) (by rfl)) (by rfl) ?_; rintro _ _ ⟨rfl, rfl⟩))
    | (refine s1_alloc ?_; first | (refine sc_w (by rfl) W_allocA (by rfl) ?_; rintro _ _ ⟨_, rfl, rfl⟩) | (refine sc_w (by rfl) (W_alloc1 (by rfl)) (by rfl) ?_; rintro _ _ ⟨_, rfl, rfl⟩))
    | (refine s1_box ?_; first | (refine sc_w (by rfl) (W_boxA (by rfl)) (by rfl) ?_; rintro _ _ ⟨_, rfl, rfl⟩) | (refine sc_w (by rfl) (W_box1 (by rfl) (by rfl)) (by rfl) ?_; rintro _ _ ⟨_, rfl, rfl⟩))
    | (refine s1_conv ?_; first | refine sc_r (R_conv64 (by rfl) (by omega)) (by rfl) ?_)
    | (refine s1_slice ?_; first | refine sc_r (R_slice_h (by rfl) (by rfl) (by omega)) (by rfl) ?_ | refine sc_r (R_slice_l (by rfl) (by rfl) (by omega)) (by rfl) ?_ | refine sc_r (R_slice_lh (by rfl) (by rfl) (by rfl) (by omega)) (by rfl) ?_)
    | (refine s1_any ?_; first | refine sc_r (R_not (by rfl)) (by rfl) ?_ | refine sc_r (R_extract (by rfl) (by rfl)) (by rfl) ?_ | (refine sc_w (by rfl) (W_buildSlice1 (by rfl) (by rfl) (by rfl) (by rfl) (by rfl)) (by rfl) ?_; rintro _ _ ⟨_, rfl, rfl⟩) | (refine sc_w (by rfl) (W_buildSlice1s (by rfl) (by rfl)) (by rfl) ?_; rintro _ _ ⟨_, rfl, rfl⟩) | (refine sc_w (by rfl) (W_buildSlice (by rfl) (by rfl) (by rfl) (by rfl)) (by rfl) ?_; rintro _ _ ⟨_, rfl, rfl⟩) | refine sc_r (R_build (by rfl) (by rfl)) (by rfl) ?_ | refine sc_r (R_nilCheck (by rfl)) (by rfl) ?_ | refine sc_r (R_nilCheck_func (by rfl)) (by rfl) ?_ | (refine sc_w (by rfl) W_makeMap (by rfl) ?_; rintro _ _ ⟨_, rfl, rfl⟩) | refine sc_r (R_makeInterface (by rfl)) (by rfl) ?_ | refine sc_r (R_makeFunc (by rfl) (by rfl)) (by rfl) ?_)
    | refine swl_nil ?_
    | refine sx_next ?_
    | refine sw_seq ?_
    | refine sw_region ?_
    | refine sw_block ?_
    | refine swl_g_on (by rfl) (by rfl) ?_
    | refine swl_g_off (by rfl) (by rfl) (by rfl) (by rfl) ?_
    | refine swl_g_un (by rfl) (by rfl) (by rfl) ?_
    | refine swl_g_pos (by rfl) (by rfl) (by first | assumption | omega) ?_
    | refine swl_g_neg (by rfl) (by rfl) (by first | assumption | omega) ?_
    | refine swl_g_npos (by rfl) (by rfl) (by first | assumption | omega) ?_
    | refine swl_g_nneg (by rfl) (by rfl) (by first | assumption | omega) ?_
    | refine swl_g_dec (by rfl) (by rfl) (fun hp => ?_) (fun hp => ?_)
    | refine swl_g_ndec (by rfl) (by rfl) (fun hp => ?_) (fun hp => ?_)
    | refine swl_g_bool (by rfl) (by rfl) (fun hp => ?_) (fun hp => ?_)
    | refine sx_past_ret ?_
    | refine sx_past_exit ?_
    | refine sx_block_normal ?_
    | refine sx_block_ret ?_
    | refine sx_block_here ?_
    | refine sx_block_past (by rfl) ?_
    | refine sw_cond_true (by rfl) ?_
    | refine sw_cond_false (by rfl) ?_
    | refine sw_cond_pos (by rfl) (by first | assumption | omega) ?_
    | refine sw_cond_neg (by rfl) (by first | assumption | omega) ?_
    | refine sw_cond_npos (by rfl) (by first | assumption | omega) ?_
    | refine sw_cond_nneg (by rfl) (by first | assumption | omega) ?_
    | refine sw_cond_dec (by rfl) (fun hp => ?_) (fun hp => ?_)
    | refine sw_cond_not (by rfl) (fun hp => ?_) (fun hp => ?_)
    | refine sw_cond_bool (by rfl) (fun hp => ?_) (fun hp => ?_)
    | refine sw_ret ?_
    | refine sw_exit ?_
    | refine sw_skip ?_
    | fail)
    exact sx_end_of (res0 rfl) _ (.inl rfl) (by (repeat (first | exact Ent.refl _ | exact Ent.nil | (apply Ent.pick; focus ((repeat (first | exact Rem.here | apply Rem.there)); done)) | apply Ent.drop)))

section
variable {w0 : World} {nt : Cx} {L : List HP} {env : Env} {Q : Exit → Act → World → Prop}
/-- a loop over the entries of a part -/
theorem sw_entries {g : Operand} {t0 t1 : Tmp} {assign body : Code} (b : Nat) (ents : List EntS) (hg : evO env g = some (.func (.func 97) #[] #[.pointer (some ⟨b, 0, none⟩)])) {p : Option Addr} {n c : Nat} {T : TypeId} (H : Nat → List HP) (X : Code → List HP → Prop) (h0 : Ent L (H 0))
    (hb : ∀ i, i ≤ n → ReadC (H i) b (.cells #[.slice p n c] T)) (hs : ∀ i, i ≤ n → SlC (H i) p 4 n c (ents.map EntS.cells))
    (hlt : allLt nt.n [t0, t1] = true) (hro : nt.r = none)
    (hround : ∀ l x i (h : i < ents.length) w0, x.body = body → SW Tryd.prog w0 ⟨nt.n, [], some l⟩ (loopP l x .ready none :: markP x.D :: H i) (putsE env [(t0, .int .i64 i), (t1, .agg ents[i].cells)]) assign
      (AQ Tryd.prog w0 l body fun v L' => (v = .bool true ∧ L' = loopP l x .ready none :: markP x.D :: H (i + 1)) ∨ (v = .bool false ∧ ∃ c F, L' = loopP l x .done (some c) :: markP x.D :: F ∧ X c F)))
    (hn : ∀ D, SX w0 (nt.mark D) (markP D :: H n) env .normal Q)
    (hx : ∀ D c F, X c F → SW Tryd.prog w0 (nt.mark D) (markP D :: F) env c Q) : SW Tryd.prog w0 nt L env (.rangeFunc g #[t0, t1] assign body) Q := by
  refine sw_ent h0 ?_
  refine sw_rangeFunc (N := fun F => F = H n) (X := X) hro hg (by infer_instance) ?_ (fun D F hF => hF ▸ hn D) hx
  intro l x e1 e2 e3 hT
  refine (summary_entries1 b l ents (p := p) (n := n) (c := c) (T := T) (fun i => loopP l x .ready none :: markP x.D :: H i) (fun L' => ∃ c F, L' = loopP l x .done (some c) :: markP x.D :: F ∧ X c F) ?_ ?_ ?_).weaken ?_
  · intro i hi; have := hb i hi; infer_instance
  · intro i hi; have := hs i hi; infer_instance
  · intro i hi
    refine ytr_round hT Rem.here (by rw [e1]; rfl) (by rw [e1]; exact hlt) fun w0 => ?_
    rw [e1, e2, e3]
    exact hround l x i hi w0 e3
  · rintro v L' (rfl | ⟨c, F, rfl, hF⟩)
    · exact ⟨_, Ent.refl _, .inl ⟨_, rfl, rfl⟩⟩
    · exact ⟨_, Ent.refl _, .inr ⟨c, F, rfl, hF⟩⟩
end

theorem mayP_of {p : PartS} (h1 : 1 ≤ p.seq ∧ p.seq ≤ 281474976710655 ∧ 0 ≤ p.next ∧ p.next ≤ 2147483647 ∧ 1 ≤ p.l.length ∧ p.l.length ≤ 13) (h2 : ∀ x ∈ p.l, entMay x = true) : mayP p = true := by
  simp only [mayP, Bool.and_eq_true, decide_eq_true_eq, List.all_eq_true]; exact ⟨h1, h2⟩
theorem mayP_not {p : PartS} (h : ¬ (1 ≤ p.seq ∧ p.seq ≤ 281474976710655 ∧ 0 ≤ p.next ∧ p.next ≤ 2147483647 ∧ 1 ≤ p.l.length ∧ p.l.length ≤ 13)) : mayP p = false := by
  simp only [mayP, decide_eq_false h, Bool.false_and]
theorem mayP_ent {p : PartS} {i : Nat} (hi : i < p.l.length) (h : entMay p.l[i] = false) : mayP p = false := by
  have : p.l.all entMay = false := by rw [List.all_eq_false]; exact ⟨p.l[i], List.getElem_mem hi, by simp [h]⟩
  simp only [mayP, this, Bool.and_false]
set_option maxHeartbeats 1000000 in
theorem summary_May (p : PartS) {pp : Option Addr} {n c : Nat} {L : List HP} (hl : SlC L pp 4 n c (p.l.map EntS.cells)) :
    Tr Tryd.prog 66 [.agg (p.cells (.slice pp n c))].toArray L (fun v L' => v = .bool (mayP p) ∧ L = L') := by
  refine tr_enter Tryd.func66 rfl Tryd.ntmps66 rfl fun w0 => ?_
  have hlen : p.l.length = n := by simpa using hl.len
  have hno := mayP_not (p := p)
  have hent := fun i hi => mayP_ent (p := p) (i := i) hi
  have hyes := mayP_of (p := p)
  obtain ⟨seq, next, fin, ents⟩ := p
  dsimp only at hlen hno hent hyes hl
  simp only [PartS.cells]
  generalize mayP ⟨seq, next, fin, ents⟩ = may at *
  repeat' (first
    | refine swl_op ?_
    | (refine s1_move ?_; refine sc_r (R_move (by rfl)) (by rfl) ?_)
    | (refine s1_load ?_; first | refine sc_r (L_load' (by rfl) (by infer_instance) (by rfl)) (by rfl) ?_ | refine sc_r (L_load_all (by rfl) (by infer_instance) (by rfl)) (by rfl) ?_ | refine sc_r (L_load_el (by rfl) (by infer_instance) (by infer_instance) (by omega) (by first | assumption | rfl)) (by rfl) ?_ | refine sc_r (L_load_el1 (by rfl) (by infer_instance) (by omega) (by first | assumption | rfl)) (by rfl) ?_ | refine sc_r (L_load_elf (by rfl) (by infer_instance) (by omega) (by first | assumption | rfl) (by rfl) (by rfl)) (by rfl) ?_ | refine sc_r (L_load_agg (by rfl) (by infer_instance) (by assumption) (by assumption)) (by rfl) ?_ | refine sc_r (L_load (by rfl) (by infer_instance) (by assumption)) (by rfl) ?_)
    | (refine s1_fieldAddr ?_; refine sc_r (R_fieldAddr (by rfl)) (by rfl) ?_)
    | (refine s1_assign ?_; refine sc_r (R_assign (by rfl)) (by rfl) ?_)
    | (refine s1_pick ?_; first | refine sc_r (R_pick_t (by rfl) (by rfl)) (by rfl) ?_ | refine sc_r (R_pick_f (by rfl) (by rfl)) (by rfl) ?_)
    | (refine s1_bin ?_; first | refine sc_r (R_lss (by rfl) (by rfl)) (by rfl) ?_ | refine sc_r (R_add64 (by rfl) (by rfl) (by omega)) (by rfl) ?_ | refine sc_r (R_gtr (by rfl) (by rfl)) (by rfl) ?_ | refine sc_r (R_leq (by rfl) (by rfl)) (by rfl) ?_ | refine sc_r (R_geq (by rfl) (by rfl)) (by rfl) ?_ | refine sc_r (R_eql (by rfl) (by rfl)) (by rfl) ?_ | refine sc_r (R_neq (by rfl) (by rfl)) (by rfl) ?_ | refine sc_r (R_sub64 (by rfl) (by rfl) (by omega)) (by rfl) ?_ | refine sc_r (R_mul64 (by rfl) (by rfl) (by first | assumption | omega)) (by rfl) ?_ | refine sc_r (R_quo64 (by rfl) (by rfl) (by omega)) (by rfl) ?_ | refine sc_r (R_rem64 (by rfl) (by rfl) (by omega)) (by rfl) ?_)
    | (refine s1_call ?_; first | (refine sc_c (by rfl) (C_call (by rfl) (by infer_instance) (by rfl) (by rfl) (summary_entries _ (by rfl))) (by rfl) ?_; rintro _ _ ⟨b, rfl, rfl⟩) | (refine sc_w (by rfl) (W_append1 (by rfl) (by rfl) (by focus ((repeat (first | exact Rem.here | apply Rem.there)); done)) (by infer_instance) (by rfl) (by rfl) (by first | assumption | omega)) (by rfl) ?_; rintro _ _ rfl) | refine sc_r (R_len (by rfl)) (by rfl) ?_ | refine sc_r (R_len_str (by rfl)) (by rfl) ?_)
    | (refine s1_indexAddr ?_; first | refine sc_r (R_indexAddr (by rfl) (by rfl) (by omega)) (by rfl) ?_ | refine sc_r (R_indexAddr_arr (by rfl) (by rfl) (by omega)) (by rfl) ?_)
    | (refine s1_store ?_; first | (refine sc_w (by rfl) (W_storeAll (by rfl) (by rfl) (by infer_instance) (by rfl) (by rfl) (by rfl)) (by rfl) ?_; rintro _ _ ⟨rfl, rfl⟩) | (refine sc_w (by rfl) (W_storeL (by rfl) (by rfl) (by infer_instance) (by rfl) (by rfl) (by rfl)) (by rfl) ?_; rintro _ _ ⟨rfl, rfl⟩) | (refine sc_w (by rfl) (W_store1 (by rfl) (by rfl) (by infer_instance) (by rfl) (by assumption) (by rfl)) (by rfl) ?_; rintro _ _ ⟨rfl, rfl⟩))
    | (refine s1_alloc ?_; first | (refine sc_w (by rfl) W_allocA (by rfl) ?_; rintro _ _ ⟨_, rfl, rfl⟩) | (refine sc_w (by rfl) (W_alloc1 (by rfl)) (by rfl) ?_; rintro _ _ ⟨_, rfl, rfl⟩))
    | (refine s1_box ?_; first | (refine sc_w (by rfl) (W_boxA (by rfl)) (by rfl) ?_; rintro _ _ ⟨_, rfl, rfl⟩) | (refine sc_w (by rfl) (W_box1 (by rfl) (by rfl)) (by rfl) ?_; rintro _ _ ⟨_, rfl, rfl⟩))
    | (refine s1_conv ?_; first | refine sc_r (R_conv64 (by rfl) (by omega)) (by rfl) ?_)
    | (refine s1_slice ?_; first | refine sc_r (R_slice_h (by rfl) (by rfl) (by omega)) (by rfl) ?_ | refine sc_r (R_slice_l (by rfl) (by rfl) (by omega)) (by rfl) ?_ | refine sc_r (R_slice_lh (by rfl) (by rfl) (by rfl) (by omega)) (by rfl) ?_)
    | (refine s1_any ?_; first | refine sc_r (R_not (by rfl)) (by rfl) ?_ | refine sc_r (R_extract (by rfl) (by rfl)) (by rfl) ?_ | (refine sc_w (by rfl) (W_buildSlice1 (by rfl) (by rfl) (by rfl) (by rfl) (by rfl)) (by rfl) ?_; rintro _ _ ⟨_, rfl, rfl⟩) | (refine sc_w (by rfl) (W_buildSlice1s (by rfl) (by rfl)) (by rfl) ?_; rintro _ _ ⟨_, rfl, rfl⟩) | (refine sc_w (by rfl) (W_buildSlice (by rfl) (by rfl) (by rfl) (by rfl)) (by rfl) ?_; rintro _ _ ⟨_, rfl, rfl⟩) | refine sc_r (R_build (by rfl) (by rfl)) (by rfl) ?_ | refine sc_r (R_nilCheck (by rfl)) (by rfl) ?_ | refine sc_r (R_nilCheck_func (by rfl)) (by rfl) ?_ | (refine sc_w (by rfl) W_makeMap (by rfl) ?_; rintro _ _ ⟨_, rfl, rfl⟩) | refine sc_r (R_makeInterface (by rfl)) (by rfl) ?_ | refine sc_r (R_makeFunc (by rfl) (by rfl)) (by rfl) ?_)
    | refine swl_nil ?_
    | refine sx_next ?_
    | refine sw_seq ?_
    | refine sw_region ?_
    | refine sw_block ?_
    | refine swl_g_on (by rfl) (by rfl) ?_
    | refine swl_g_off (by rfl) (by rfl) (by rfl) (by rfl) ?_
    | refine swl_g_un (by rfl) (by rfl) (by rfl) ?_
    | refine swl_g_pos (by rfl) (by rfl) (by first | assumption | omega) ?_
    | refine swl_g_neg (by rfl) (by rfl) (by first | assumption | omega) ?_
    | refine swl_g_npos (by rfl) (by rfl) (by first | assumption | omega) ?_
    | refine swl_g_nneg (by rfl) (by rfl) (by first | assumption | omega) ?_
    | refine swl_g_dec (by rfl) (by rfl) (fun hp => ?_) (fun hp => ?_)
    | refine swl_g_ndec (by rfl) (by rfl) (fun hp => ?_) (fun hp => ?_)
    | refine swl_g_bool (by rfl) (by rfl) (fun hp => ?_) (fun hp => ?_)
    | refine sx_past_ret ?_
    | refine sx_past_exit ?_
    | refine sx_block_normal ?_
    | refine sx_block_ret ?_
    | refine sx_block_here ?_
    | refine sx_block_past (by rfl) ?_
    | refine sw_cond_true (by rfl) ?_
    | refine sw_cond_false (by rfl) ?_
    | refine sw_cond_pos (by rfl) (by first | assumption | omega) ?_
    | refine sw_cond_neg (by rfl) (by first | assumption | omega) ?_
    | refine sw_cond_npos (by rfl) (by first | assumption | omega) ?_
    | refine sw_cond_nneg (by rfl) (by first | assumption | omega) ?_
    | refine sw_cond_dec (by rfl) (fun hp => ?_) (fun hp => ?_)
    | refine sw_cond_not (by rfl) (fun hp => ?_) (fun hp => ?_)
    | refine sw_cond_bool (by rfl) (fun hp => ?_) (fun hp => ?_)
    | refine sw_ret ?_
    | refine sw_exit ?_
    | refine sw_skip ?_
    | fail)
  rotate_left 6
  · rename_i b1 b2 q1 q2 q3 q4 q5
    refine sw_entries b ents (by rfl) (fun i => fact (∀ x ∈ ents.take i, entMay x = true) :: pt b (.cells #[.slice pp n c] 32) :: pt b2 (.cells #[.bool false] 4) :: L)
      (fun c F => c = .ret ∧ F = pt b2 (.cells #[.bool false] 4) :: L ∧ may = false) (Ent.trans (by (repeat (first | exact Ent.refl _ | exact Ent.nil | (apply Ent.pick; focus ((repeat (first | exact Rem.here | apply Rem.there)); done)) | apply Ent.drop))) (Ent.fact_intro (by simp))) (fun i _ => by infer_instance) (fun i _ => by infer_instance) (by rfl) rfl ?_ ?_ ?_
    · intro l x i hi w0 _
      have hts := List.take_succ_eq_append_getElem hi
      have hei := hent i hi
      have hok : (1 ≤ (ents[i]).kind ∧ (ents[i]).kind ≤ 4 ∧ 0 ≤ (ents[i]).ino ∧ (ents[i]).ino ≤ 255 ∧ 0 ≤ (ents[i]).index ∧ (ents[i]).index ≤ 65535) → entMay ents[i] = true := fun h => by simpa [entMay] using h
      have hbad : ¬ (1 ≤ (ents[i]).kind ∧ (ents[i]).kind ≤ 4 ∧ 0 ≤ (ents[i]).ino ∧ (ents[i]).ino ≤ 255 ∧ 0 ≤ (ents[i]).index ∧ (ents[i]).index ≤ 65535) → may = false := fun h => hei (by simpa [entMay] using h)
      generalize ents[i] = e at *
      obtain ⟨kind, ino, index, sum⟩ := e
      simp only [EntS.cells] at *
      refine sw_fact (φ := ∀ x ∈ ents.take i, entMay x = true) (by focus ((repeat (first | exact Rem.here | apply Rem.there)); done)) fun hall => ?_
      repeat' (first
    | refine swl_op ?_
    | (refine s1_move ?_; refine sc_r (R_move (by rfl)) (by rfl) ?_)
    | (refine s1_load ?_; first | refine sc_r (L_load' (by rfl) (by infer_instance) (by rfl)) (by rfl) ?_ | refine sc_r (L_load_all (by rfl) (by infer_instance) (by rfl)) (by rfl) ?_ | refine sc_r (L_load_el (by rfl) (by infer_instance) (by infer_instance) (by omega) (by first | assumption | rfl)) (by rfl) ?_ | refine sc_r (L_load_el1 (by rfl) (by infer_instance) (by omega) (by first | assumption | rfl)) (by rfl) ?_ | refine sc_r (L_load_elf (by rfl) (by infer_instance) (by omega) (by first | assumption | rfl) (by rfl) (by rfl)) (by rfl) ?_ | refine sc_r (L_load_agg (by rfl) (by infer_instance) (by assumption) (by assumption)) (by rfl) ?_ | refine sc_r (L_load (by rfl) (by infer_instance) (by assumption)) (by rfl) ?_)
    | (refine s1_fieldAddr ?_; refine sc_r (R_fieldAddr (by rfl)) (by rfl) ?_)
    | (refine s1_assign ?_; refine sc_r (R_assign (by rfl)) (by rfl) ?_)
    | (refine s1_pick ?_; first | refine sc_r (R_pick_t (by rfl) (by rfl)) (by rfl) ?_ | refine sc_r (R_pick_f (by rfl) (by rfl)) (by rfl) ?_)
    | (refine s1_bin ?_; first | refine sc_r (R_lss (by rfl) (by rfl)) (by rfl) ?_ | refine sc_r (R_add64 (by rfl) (by rfl) (by omega)) (by rfl) ?_ | refine sc_r (R_gtr (by rfl) (by rfl)) (by rfl) ?_ | refine sc_r (R_leq (by rfl) (by rfl)) (by rfl) ?_ | refine sc_r (R_geq (by rfl) (by rfl)) (by rfl) ?_ | refine sc_r (R_eql (by rfl) (by rfl)) (by rfl) ?_ | refine sc_r (R_neq (by rfl) (by rfl)) (by rfl) ?_ | refine sc_r (R_sub64 (by rfl) (by rfl) (by omega)) (by rfl) ?_ | refine sc_r (R_mul64 (by rfl) (by rfl) (by first | assumption | omega)) (by rfl) ?_ | refine sc_r (R_quo64 (by rfl) (by rfl) (by omega)) (by rfl) ?_ | refine sc_r (R_rem64 (by rfl) (by rfl) (by omega)) (by rfl) ?_)
    | (refine s1_call ?_; first | (refine sc_w (by rfl) (W_append1 (by rfl) (by rfl) (by focus ((repeat (first | exact Rem.here | apply Rem.there)); done)) (by infer_instance) (by rfl) (by rfl) (by first | assumption | omega)) (by rfl) ?_; rintro _ _ rfl) | refine sc_r (R_len (by rfl)) (by rfl) ?_ | refine sc_r (R_len_str (by rfl)) (by rfl) ?_)
    | (refine s1_indexAddr ?_; first | refine sc_r (R_indexAddr (by rfl) (by rfl) (by omega)) (by rfl) ?_ | refine sc_r (R_indexAddr_arr (by rfl) (by rfl) (by omega)) (by rfl) ?_)
    | (refine s1_store ?_; first | (refine sc_w (by rfl) (W_storeAll (by rfl) (by rfl) (by infer_instance) (by rfl) (by rfl) (by rfl)) (by rfl) ?_; rintro _ _ ⟨rfl, rfl⟩) | (refine sc_w (by rfl) (W_storeL (by rfl) (by rfl) (by infer_instance) (by rfl) (by rfl) (by rfl)) (by rfl) ?_; rintro _ _ ⟨rfl, rfl⟩) | (refine sc_w (by rfl) (W_store1 (by rfl) (by rfl) (by infer_instance) (by rfl) (by assumption) (by rfl)) (by rfl) ?_; rintro _ _ ⟨rfl, rfl⟩))
    | (refine s1_alloc ?_; first | (refine sc_w (by rfl) W_allocA (by rfl) ?_; rintro _ _ ⟨_, rfl, rfl⟩) | (refine sc_w (by rfl) (W_alloc1 (by rfl)) (by rfl) ?_; rintro _ _ ⟨_, rfl, rfl⟩))
    | (refine s1_box ?_; first | (refine sc_w (by rfl) (W_boxA (by rfl)) (by rfl) ?_; rintro _ _ ⟨_, rfl, rfl⟩) | (refine sc_w (by rfl) (W_box1 (by rfl) (by rfl)) (by rfl) ?_; rintro _ _ ⟨_, rfl, rfl⟩))
    | (refine s1_conv ?_; first | refine sc_r (R_conv64 (by rfl) (by omega)) (by rfl) ?_)
    | (refine s1_slice ?_; first | refine sc_r (R_slice_h (by rfl) (by rfl) (by omega)) (by rfl) ?_ | refine sc_r (R_slice_l (by rfl) (by rfl) (by omega)) (by rfl) ?_ | refine sc_r (R_slice_lh (by rfl) (by rfl) (by rfl) (by omega)) (by rfl) ?_)
    | (refine s1_any ?_; first | refine sc_r (R_not (by rfl)) (by rfl) ?_ | refine sc_r (R_extract (by rfl) (by rfl)) (by rfl) ?_ | (refine sc_w (by rfl) (W_buildSlice1 (by rfl) (by rfl) (by rfl) (by rfl) (by rfl)) (by rfl) ?_; rintro _ _ ⟨_, rfl, rfl⟩) | (refine sc_w (by rfl) (W_buildSlice1s (by rfl) (by rfl)) (by rfl) ?_; rintro _ _ ⟨_, rfl, rfl⟩) | (refine sc_w (by rfl) (W_buildSlice (by rfl) (by rfl) (by rfl) (by rfl)) (by rfl) ?_; rintro _ _ ⟨_, rfl, rfl⟩) | refine sc_r (R_build (by rfl) (by rfl)) (by rfl) ?_ | refine sc_r (R_nilCheck (by rfl)) (by rfl) ?_ | refine sc_r (R_nilCheck_func (by rfl)) (by rfl) ?_ | (refine sc_w (by rfl) W_makeMap (by rfl) ?_; rintro _ _ ⟨_, rfl, rfl⟩) | refine sc_r (R_makeInterface (by rfl)) (by rfl) ?_ | refine sc_r (R_makeFunc (by rfl) (by rfl)) (by rfl) ?_)
    | refine swl_nil ?_
    | refine sx_next ?_
    | refine sw_seq ?_
    | refine sw_region ?_
    | refine sw_block ?_
    | refine swl_g_on (by rfl) (by rfl) ?_
    | refine swl_g_off (by rfl) (by rfl) (by rfl) (by rfl) ?_
    | refine swl_g_un (by rfl) (by rfl) (by rfl) ?_
    | refine swl_g_pos (by rfl) (by rfl) (by first | assumption | omega) ?_
    | refine swl_g_neg (by rfl) (by rfl) (by first | assumption | omega) ?_
    | refine swl_g_npos (by rfl) (by rfl) (by first | assumption | omega) ?_
    | refine swl_g_nneg (by rfl) (by rfl) (by first | assumption | omega) ?_
    | refine swl_g_dec (by rfl) (by rfl) (fun hp => ?_) (fun hp => ?_)
    | refine swl_g_ndec (by rfl) (by rfl) (fun hp => ?_) (fun hp => ?_)
    | refine swl_g_bool (by rfl) (by rfl) (fun hp => ?_) (fun hp => ?_)
    | refine sx_past_ret ?_
    | refine sx_past_exit ?_
    | refine sx_block_normal ?_
    | refine sx_block_ret ?_
    | refine sx_block_here ?_
    | refine sx_block_past (by rfl) ?_
    | refine sw_cond_true (by rfl) ?_
    | refine sw_cond_false (by rfl) ?_
    | refine sw_cond_pos (by rfl) (by first | assumption | omega) ?_
    | refine sw_cond_neg (by rfl) (by first | assumption | omega) ?_
    | refine sw_cond_npos (by rfl) (by first | assumption | omega) ?_
    | refine sw_cond_nneg (by rfl) (by first | assumption | omega) ?_
    | refine sw_cond_dec (by rfl) (fun hp => ?_) (fun hp => ?_)
    | refine sw_cond_not (by rfl) (fun hp => ?_) (fun hp => ?_)
    | refine sw_cond_bool (by rfl) (fun hp => ?_) (fun hp => ?_)
    | refine sw_ret ?_
    | refine sw_exit ?_
    | refine sw_skip ?_
    | fail)
      refine sx_begin (by focus ((repeat (first | exact Rem.here | apply Rem.there)); done)) ?_
      repeat' (first
    | refine swl_op ?_
    | (refine s1_move ?_; refine sc_r (R_move (by rfl)) (by rfl) ?_)
    | (refine s1_load ?_; first | refine sc_r (L_load' (by rfl) (by infer_instance) (by rfl)) (by rfl) ?_ | refine sc_r (L_load_all (by rfl) (by infer_instance) (by rfl)) (by rfl) ?_ | refine sc_r (L_load_el (by rfl) (by infer_instance) (by infer_instance) (by omega) (by first | assumption | rfl)) (by rfl) ?_ | refine sc_r (L_load_el1 (by rfl) (by infer_instance) (by omega) (by first | assumption | rfl)) (by rfl) ?_ | refine sc_r (L_load_elf (by rfl) (by infer_instance) (by omega) (by first | assumption | rfl) (by rfl) (by rfl)) (by rfl) ?_ | refine sc_r (L_load_agg (by rfl) (by infer_instance) (by assumption) (by assumption)) (by rfl) ?_ | refine sc_r (L_load (by rfl) (by infer_instance) (by assumption)) (by rfl) ?_)
    | (refine s1_fieldAddr ?_; refine sc_r (R_fieldAddr (by rfl)) (by rfl) ?_)
    | (refine s1_assign ?_; refine sc_r (R_assign (by rfl)) (by rfl) ?_)
    | (refine s1_pick ?_; first | refine sc_r (R_pick_t (by rfl) (by rfl)) (by rfl) ?_ | refine sc_r (R_pick_f (by rfl) (by rfl)) (by rfl) ?_)
    | (refine s1_bin ?_; first | refine sc_r (R_lss (by rfl) (by rfl)) (by rfl) ?_ | refine sc_r (R_add64 (by rfl) (by rfl) (by omega)) (by rfl) ?_ | refine sc_r (R_gtr (by rfl) (by rfl)) (by rfl) ?_ | refine sc_r (R_leq (by rfl) (by rfl)) (by rfl) ?_ | refine sc_r (R_geq (by rfl) (by rfl)) (by rfl) ?_ | refine sc_r (R_eql (by rfl) (by rfl)) (by rfl) ?_ | refine sc_r (R_neq (by rfl) (by rfl)) (by rfl) ?_ | refine sc_r (R_sub64 (by rfl) (by rfl) (by omega)) (by rfl) ?_ | refine sc_r (R_mul64 (by rfl) (by rfl) (by first | assumption | omega)) (by rfl) ?_ | refine sc_r (R_quo64 (by rfl) (by rfl) (by omega)) (by rfl) ?_ | refine sc_r (R_rem64 (by rfl) (by rfl) (by omega)) (by rfl) ?_)
    | (refine s1_call ?_; first | (refine sc_w (by rfl) (W_append1 (by rfl) (by rfl) (by focus ((repeat (first | exact Rem.here | apply Rem.there)); done)) (by infer_instance) (by rfl) (by rfl) (by first | assumption | omega)) (by rfl) ?_; rintro _ _ rfl) | refine sc_r (R_len (by rfl)) (by rfl) ?_ | refine sc_r (R_len_str (by rfl)) (by rfl) ?_)
    | (refine s1_indexAddr ?_; first | refine sc_r (R_indexAddr (by rfl) (by rfl) (by omega)) (by rfl) ?_ | refine sc_r (R_indexAddr_arr (by rfl) (by rfl) (by omega)) (by rfl) ?_)
    | (refine s1_store ?_; first | (refine sc_w (by rfl) (W_storeAll (by rfl) (by rfl) (by infer_instance) (by rfl) (by rfl) (by rfl)) (by rfl) ?_; rintro _ _ ⟨rfl, rfl⟩) | (refine sc_w (by rfl) (W_storeL (by rfl) (by rfl) (by infer_instance) (by rfl) (by rfl) (by rfl)) (by rfl) ?_; rintro _ _ ⟨rfl, rfl⟩) | (refine sc_w (by rfl) (W_store1 (by rfl) (by rfl) (by infer_instance) (by rfl) (by assumption) (by rfl)) (by rfl) ?_; rintro _ _ ⟨rfl, rfl⟩))
    | (refine s1_alloc ?_; first | (refine sc_w (by rfl) W_allocA (by rfl) ?_; rintro _ _ ⟨_, rfl, rfl⟩) | (refine sc_w (by rfl) (W_alloc1 (by rfl)) (by rfl) ?_; rintro _ _ ⟨_, rfl, rfl⟩))
    | (refine s1_box ?_; first | (refine sc_w (by rfl) (W_boxA (by rfl)) (by rfl) ?_; rintro _ _ ⟨_, rfl, rfl⟩) | (refine sc_w (by rfl) (W_box1 (by rfl) (by rfl)) (by rfl) ?_; rintro _ _ ⟨_, rfl, rfl⟩))
    | (refine s1_conv ?_; first | refine sc_r (R_conv64 (by rfl) (by omega)) (by rfl) ?_)
    | (refine s1_slice ?_; first | refine sc_r (R_slice_h (by rfl) (by rfl) (by omega)) (by rfl) ?_ | refine sc_r (R_slice_l (by rfl) (by rfl) (by omega)) (by rfl) ?_ | refine sc_r (R_slice_lh (by rfl) (by rfl) (by rfl) (by omega)) (by rfl) ?_)
    | (refine s1_any ?_; first | refine sc_r (R_not (by rfl)) (by rfl) ?_ | refine sc_r (R_extract (by rfl) (by rfl)) (by rfl) ?_ | (refine sc_w (by rfl) (W_buildSlice1 (by rfl) (by rfl) (by rfl) (by rfl) (by rfl)) (by rfl) ?_; rintro _ _ ⟨_, rfl, rfl⟩) | (refine sc_w (by rfl) (W_buildSlice1s (by rfl) (by rfl)) (by rfl) ?_; rintro _ _ ⟨_, rfl, rfl⟩) | (refine sc_w (by rfl) (W_buildSlice (by rfl) (by rfl) (by rfl) (by rfl)) (by rfl) ?_; rintro _ _ ⟨_, rfl, rfl⟩) | refine sc_r (R_build (by rfl) (by rfl)) (by rfl) ?_ | refine sc_r (R_nilCheck (by rfl)) (by rfl) ?_ | refine sc_r (R_nilCheck_func (by rfl)) (by rfl) ?_ | (refine sc_w (by rfl) W_makeMap (by rfl) ?_; rintro _ _ ⟨_, rfl, rfl⟩) | refine sc_r (R_makeInterface (by rfl)) (by rfl) ?_ | refine sc_r (R_makeFunc (by rfl) (by rfl)) (by rfl) ?_)
    | refine swl_nil ?_
    | refine sx_next ?_
    | refine sw_seq ?_
    | refine sw_region ?_
    | refine sw_block ?_
    | refine swl_g_on (by rfl) (by rfl) ?_
    | refine swl_g_off (by rfl) (by rfl) (by rfl) (by rfl) ?_
    | refine swl_g_un (by rfl) (by rfl) (by rfl) ?_
    | refine swl_g_pos (by rfl) (by rfl) (by first | assumption | omega) ?_
    | refine swl_g_neg (by rfl) (by rfl) (by first | assumption | omega) ?_
    | refine swl_g_npos (by rfl) (by rfl) (by first | assumption | omega) ?_
    | refine swl_g_nneg (by rfl) (by rfl) (by first | assumption | omega) ?_
    | refine swl_g_dec (by rfl) (by rfl) (fun hp => ?_) (fun hp => ?_)
    | refine swl_g_ndec (by rfl) (by rfl) (fun hp => ?_) (fun hp => ?_)
    | refine swl_g_bool (by rfl) (by rfl) (fun hp => ?_) (fun hp => ?_)
    | refine sx_past_ret ?_
    | refine sx_past_exit ?_
    | refine sx_block_normal ?_
    | refine sx_block_ret ?_
    | refine sx_block_here ?_
    | refine sx_block_past (by rfl) ?_
    | refine sw_cond_true (by rfl) ?_
    | refine sw_cond_false (by rfl) ?_
    | refine sw_cond_pos (by rfl) (by first | assumption | omega) ?_
    | refine sw_cond_neg (by rfl) (by first | assumption | omega) ?_
    | refine sw_cond_npos (by rfl) (by first | assumption | omega) ?_
    | refine sw_cond_nneg (by rfl) (by first | assumption | omega) ?_
    | refine sw_cond_dec (by rfl) (fun hp => ?_) (fun hp => ?_)
    | refine sw_cond_not (by rfl) (fun hp => ?_) (fun hp => ?_)
    | refine sw_cond_bool (by rfl) (fun hp => ?_) (fun hp => ?_)
    | refine sw_ret ?_
    | refine sw_exit ?_
    | refine sw_skip ?_
    | fail)
      rotate_left 6
      · refine sx_round_on (by focus ((repeat (first | exact Rem.here | apply Rem.there)); done)) _ (.inl ⟨rfl, rfl⟩) ?_
        refine Ent.pick (by focus ((repeat (first | exact Rem.here | apply Rem.there)); done)) (Ent.pick (by focus ((repeat (first | exact Rem.here | apply Rem.there)); done)) (Ent.trans ?_ (Ent.fact_intro (by
          intro y hy
          rw [hts] at hy
          rcases List.mem_append.1 hy with hy | hy
          · exact hall y hy
          · rw [List.mem_singleton.1 hy]; exact hok (by omega)))))
        (repeat (first | exact Ent.refl _ | exact Ent.nil | (apply Ent.pick; focus ((repeat (first | exact Rem.here | apply Rem.there)); done)) | apply Ent.drop))
      all_goals
        refine sx_round_ret (by focus ((repeat (first | exact Rem.here | apply Rem.there)); done)) _ (Or.inr ⟨rfl, .ret, _, rfl, rfl, rfl, hbad (by omega)⟩) ?_
        (repeat (first | exact Ent.refl _ | exact Ent.nil | (apply Ent.pick; focus ((repeat (first | exact Rem.here | apply Rem.there)); done)) | apply Ent.drop))
    · intro D
      refine sx_fact (φ := ∀ x ∈ ents.take n, entMay x = true) (by focus ((repeat (first | exact Rem.here | apply Rem.there)); done)) fun hall => ?_
      rw [List.take_of_length_le (by omega)] at hall
      rw [hyes (by omega) hall]
      repeat' (first
    | refine swl_op ?_
    | (refine s1_move ?_; refine sc_r (R_move (by rfl)) (by rfl) ?_)
    | (refine s1_load ?_; first | refine sc_r (L_load' (by rfl) (by infer_instance) (by rfl)) (by rfl) ?_ | refine sc_r (L_load_all (by rfl) (by infer_instance) (by rfl)) (by rfl) ?_ | refine sc_r (L_load_el (by rfl) (by infer_instance) (by infer_instance) (by omega) (by first | assumption | rfl)) (by rfl) ?_ | refine sc_r (L_load_el1 (by rfl) (by infer_instance) (by omega) (by first | assumption | rfl)) (by rfl) ?_ | refine sc_r (L_load_elf (by rfl) (by infer_instance) (by omega) (by first | assumption | rfl) (by rfl) (by rfl)) (by rfl) ?_ | refine sc_r (L_load_agg (by rfl) (by infer_instance) (by assumption) (by assumption)) (by rfl) ?_ | refine sc_r (L_load (by rfl) (by infer_instance) (by assumption)) (by rfl) ?_)
    | (refine s1_fieldAddr ?_; refine sc_r (R_fieldAddr (by rfl)) (by rfl) ?_)
    | (refine s1_assign ?_; refine sc_r (R_assign (by rfl)) (by rfl) ?_)
    | (refine s1_pick ?_; first | refine sc_r (R_pick_t (by rfl) (by rfl)) (by rfl) ?_ | refine sc_r (R_pick_f (by rfl) (by rfl)) (by rfl) ?_)
    | (refine s1_bin ?_; first | refine sc_r (R_lss (by rfl) (by rfl)) (by rfl) ?_ | refine sc_r (R_add64 (by rfl) (by rfl) (by omega)) (by rfl) ?_ | refine sc_r (R_gtr (by rfl) (by rfl)) (by rfl) ?_ | refine sc_r (R_leq (by rfl) (by rfl)) (by rfl) ?_ | refine sc_r (R_geq (by rfl) (by rfl)) (by rfl) ?_ | refine sc_r (R_eql (by rfl) (by rfl)) (by rfl) ?_ | refine sc_r (R_neq (by rfl) (by rfl)) (by rfl) ?_ | refine sc_r (R_sub64 (by rfl) (by rfl) (by omega)) (by rfl) ?_ | refine sc_r (R_mul64 (by rfl) (by rfl) (by first | assumption | omega)) (by rfl) ?_ | refine sc_r (R_quo64 (by rfl) (by rfl) (by omega)) (by rfl) ?_ | refine sc_r (R_rem64 (by rfl) (by rfl) (by omega)) (by rfl) ?_)
    | (refine s1_call ?_; first | (refine sc_w (by rfl) (W_append1 (by rfl) (by rfl) (by focus ((repeat (first | exact Rem.here | apply Rem.there)); done)) (by infer_instance) (by rfl) (by rfl) (by first | assumption | omega)) (by rfl) ?_; rintro _ _ rfl) | refine sc_r (R_len (by rfl)) (by rfl) ?_ | refine sc_r (R_len_str (by rfl)) (by rfl) ?_)
    | (refine s1_indexAddr ?_; first | refine sc_r (R_indexAddr (by rfl) (by rfl) (by omega)) (by rfl) ?_ | refine sc_r (R_indexAddr_arr (by rfl) (by rfl) (by omega)) (by rfl) ?_)
    | (refine s1_store ?_; first | (refine sc_w (by rfl) (W_storeAll (by rfl) (by rfl) (by infer_instance) (by rfl) (by rfl) (by rfl)) (by rfl) ?_; rintro _ _ ⟨rfl, rfl⟩) | (refine sc_w (by rfl) (W_storeL (by rfl) (by rfl) (by infer_instance) (by rfl) (by rfl) (by rfl)) (by rfl) ?_; rintro _ _ ⟨rfl, rfl⟩) | (refine sc_w (by rfl) (W_store1 (by rfl) (by rfl) (by infer_instance) (by rfl) (by assumption) (by rfl)) (by rfl) ?_; rintro _ _ ⟨rfl, rfl⟩))
    | (refine s1_alloc ?_; first | (refine sc_w (by rfl) W_allocA (by rfl) ?_; rintro _ _ ⟨_, rfl, rfl⟩) | (refine sc_w (by rfl) (W_alloc1 (by rfl)) (by rfl) ?_; rintro _ _ ⟨_, rfl, rfl⟩))
    | (refine s1_box ?_; first | (refine sc_w (by rfl) (W_boxA (by rfl)) (by rfl) ?_; rintro _ _ ⟨_, rfl, rfl⟩) | (refine sc_w (by rfl) (W_box1 (by rfl) (by rfl)) (by rfl) ?_; rintro _ _ ⟨_, rfl, rfl⟩))
    | (refine s1_conv ?_; first | refine sc_r (R_conv64 (by rfl) (by omega)) (by rfl) ?_)
    | (refine s1_slice ?_; first | refine sc_r (R_slice_h (by rfl) (by rfl) (by omega)) (by rfl) ?_ | refine sc_r (R_slice_l (by rfl) (by rfl) (by omega)) (by rfl) ?_ | refine sc_r (R_slice_lh (by rfl) (by rfl) (by rfl) (by omega)) (by rfl) ?_)
    | (refine s1_any ?_; first | refine sc_r (R_not (by rfl)) (by rfl) ?_ | refine sc_r (R_extract (by rfl) (by rfl)) (by rfl) ?_ | (refine sc_w (by rfl) (W_buildSlice1 (by rfl) (by rfl) (by rfl) (by rfl) (by rfl)) (by rfl) ?_; rintro _ _ ⟨_, rfl, rfl⟩) | (refine sc_w (by rfl) (W_buildSlice1s (by rfl) (by rfl)) (by rfl) ?_; rintro _ _ ⟨_, rfl, rfl⟩) | (refine sc_w (by rfl) (W_buildSlice (by rfl) (by rfl) (by rfl) (by rfl)) (by rfl) ?_; rintro _ _ ⟨_, rfl, rfl⟩) | refine sc_r (R_build (by rfl) (by rfl)) (by rfl) ?_ | refine sc_r (R_nilCheck (by rfl)) (by rfl) ?_ | refine sc_r (R_nilCheck_func (by rfl)) (by rfl) ?_ | (refine sc_w (by rfl) W_makeMap (by rfl) ?_; rintro _ _ ⟨_, rfl, rfl⟩) | refine sc_r (R_makeInterface (by rfl)) (by rfl) ?_ | refine sc_r (R_makeFunc (by rfl) (by rfl)) (by rfl) ?_)
    | refine swl_nil ?_
    | refine sx_next ?_
    | refine sw_seq ?_
    | refine sw_region ?_
    | refine sw_block ?_
    | refine swl_g_on (by rfl) (by rfl) ?_
    | refine swl_g_off (by rfl) (by rfl) (by rfl) (by rfl) ?_
    | refine swl_g_un (by rfl) (by rfl) (by rfl) ?_
    | refine swl_g_pos (by rfl) (by rfl) (by first | assumption | omega) ?_
    | refine swl_g_neg (by rfl) (by rfl) (by first | assumption | omega) ?_
    | refine swl_g_npos (by rfl) (by rfl) (by first | assumption | omega) ?_
    | refine swl_g_nneg (by rfl) (by rfl) (by first | assumption | omega) ?_
    | refine swl_g_dec (by rfl) (by rfl) (fun hp => ?_) (fun hp => ?_)
    | refine swl_g_ndec (by rfl) (by rfl) (fun hp => ?_) (fun hp => ?_)
    | refine swl_g_bool (by rfl) (by rfl) (fun hp => ?_) (fun hp => ?_)
    | refine sx_past_ret ?_
    | refine sx_past_exit ?_
    | refine sx_block_normal ?_
    | refine sx_block_ret ?_
    | refine sx_block_here ?_
    | refine sx_block_past (by rfl) ?_
    | refine sw_cond_true (by rfl) ?_
    | refine sw_cond_false (by rfl) ?_
    | refine sw_cond_pos (by rfl) (by first | assumption | omega) ?_
    | refine sw_cond_neg (by rfl) (by first | assumption | omega) ?_
    | refine sw_cond_npos (by rfl) (by first | assumption | omega) ?_
    | refine sw_cond_nneg (by rfl) (by first | assumption | omega) ?_
    | refine sw_cond_dec (by rfl) (fun hp => ?_) (fun hp => ?_)
    | refine sw_cond_not (by rfl) (fun hp => ?_) (fun hp => ?_)
    | refine sw_cond_bool (by rfl) (fun hp => ?_) (fun hp => ?_)
    | refine sw_ret ?_
    | refine sw_exit ?_
    | refine sw_skip ?_
    | fail)
      exact sx_ret_m [D] (Rems.cons Rem.here Rems.nil) (res1 rfl (ResOne.cell1 (by rfl) (by infer_instance) (by rfl))) L ⟨rfl, rfl⟩ (by (repeat (first | exact Ent.refl _ | exact Ent.nil | (apply Ent.pick; focus ((repeat (first | exact Rem.here | apply Rem.there)); done)) | apply Ent.drop))) (.inr rfl)
    · rintro D c F ⟨rfl, rfl, rfl⟩
      repeat' (first
    | refine swl_op ?_
    | (refine s1_move ?_; refine sc_r (R_move (by rfl)) (by rfl) ?_)
    | (refine s1_load ?_; first | refine sc_r (L_load' (by rfl) (by infer_instance) (by rfl)) (by rfl) ?_ | refine sc_r (L_load_all (by rfl) (by infer_instance) (by rfl)) (by rfl) ?_ | refine sc_r (L_load_el (by rfl) (by infer_instance) (by infer_instance) (by omega) (by first | assumption | rfl)) (by rfl) ?_ | refine sc_r (L_load_el1 (by rfl) (by infer_instance) (by omega) (by first | assumption | rfl)) (by rfl) ?_ | refine sc_r (L_load_elf (by rfl) (by infer_instance) (by omega) (by first | assumption | rfl) (by rfl) (by rfl)) (by rfl) ?_ | refine sc_r (L_load_agg (by rfl) (by infer_instance) (by assumption) (by assumption)) (by rfl) ?_ | refine sc_r (L_load (by rfl) (by infer_instance) (by assumption)) (by rfl) ?_)
    | (refine s1_fieldAddr ?_; refine sc_r (R_fieldAddr (by rfl)) (by rfl) ?_)
    | (refine s1_assign ?_; refine sc_r (R_assign (by rfl)) (by rfl) ?_)
    | (refine s1_pick ?_; first | refine sc_r (R_pick_t (by rfl) (by rfl)) (by rfl) ?_ | refine sc_r (R_pick_f (by rfl) (by rfl)) (by rfl) ?_)
    | (refine s1_bin ?_; first | refine sc_r (R_lss (by rfl) (by rfl)) (by rfl) ?_ | refine sc_r (R_add64 (by rfl) (by rfl) (by omega)) (by rfl) ?_ | refine sc_r (R_gtr (by rfl) (by rfl)) (by rfl) ?_ | refine sc_r (R_leq (by rfl) (by rfl)) (by rfl) ?_ | refine sc_r (R_geq (by rfl) (by rfl)) (by rfl) ?_ | refine sc_r (R_eql (by rfl) (by rfl)) (by rfl) ?_ | refine sc_r (R_neq (by rfl) (by rfl)) (by rfl) ?_ | refine sc_r (R_sub64 (by rfl) (by rfl) (by omega)) (by rfl) ?_ | refine sc_r (R_mul64 (by rfl) (by rfl) (by first | assumption | omega)) (by rfl) ?_ | refine sc_r (R_quo64 (by rfl) (by rfl) (by omega)) (by rfl) ?_ | refine sc_r (R_rem64 (by rfl) (by rfl) (by omega)) (by rfl) ?_)
    | (refine s1_call ?_; first | (refine sc_w (by rfl) (W_append1 (by rfl) (by rfl) (by focus ((repeat (first | exact Rem.here | apply Rem.there)); done)) (by infer_instance) (by rfl) (by rfl) (by first | assumption | omega)) (by rfl) ?_; rintro _ _ rfl) | refine sc_r (R_len (by rfl)) (by rfl) ?_ | refine sc_r (R_len_str (by rfl)) (by rfl) ?_)
    | (refine s1_indexAddr ?_; first | refine sc_r (R_indexAddr (by rfl) (by rfl) (by omega)) (by rfl) ?_ | refine sc_r (R_indexAddr_arr (by rfl) (by rfl) (by omega)) (by rfl) ?_)
    | (refine s1_store ?_; first | (refine sc_w (by rfl) (W_storeAll (by rfl) (by rfl) (by infer_instance) (by rfl) (by rfl) (by rfl)) (by rfl) ?_; rintro _ _ ⟨rfl, rfl⟩) | (refine sc_w (by rfl) (W_storeL (by rfl) (by rfl) (by infer_instance) (by rfl) (by rfl) (by rfl)) (by rfl) ?_; rintro _ _ ⟨rfl, rfl⟩) | (refine sc_w (by rfl) (W_store1 (by rfl) (by rfl) (by infer_instance) (by rfl) (by assumption) (by rfl)) (by rfl) ?_; rintro _ _ ⟨rfl, rfl⟩))
    | (refine s1_alloc ?_; first | (refine sc_w (by rfl) W_allocA (by rfl) ?_; rintro _ _ ⟨_, rfl, rfl⟩) | (refine sc_w (by rfl) (W_alloc1 (by rfl)) (by rfl) ?_; rintro _ _ ⟨_, rfl, rfl⟩))
    | (refine s1_box ?_; first | (refine sc_w (by rfl) (W_boxA (by rfl)) (by rfl) ?_; rintro _ _ ⟨_, rfl, rfl⟩) | (refine sc_w (by rfl) (W_box1 (by rfl) (by rfl)) (by rfl) ?_; rintro _ _ ⟨_, rfl, rfl⟩))
    | (refine s1_conv ?_; first | refine sc_r (R_conv64 (by rfl) (by omega)) (by rfl) ?_)
    | (refine s1_slice ?_; first | refine sc_r (R_slice_h (by rfl) (by rfl) (by omega)) (by rfl) ?_ | refine sc_r (R_slice_l (by rfl) (by rfl) (by omega)) (by rfl) ?_ | refine sc_r (R_slice_lh (by rfl) (by rfl) (by rfl) (by omega)) (by rfl) ?_)
    | (refine s1_any ?_; first | refine sc_r (R_not (by rfl)) (by rfl) ?_ | refine sc_r (R_extract (by rfl) (by rfl)) (by rfl) ?_ | (refine sc_w (by rfl) (W_buildSlice1 (by rfl) (by rfl) (by rfl) (by rfl) (by rfl)) (by rfl) ?_; rintro _ _ ⟨_, rfl, rfl⟩) | (refine sc_w (by rfl) (W_buildSlice1s (by rfl) (by rfl)) (by rfl) ?_; rintro _ _ ⟨_, rfl, rfl⟩) | (refine sc_w (by rfl) (W_buildSlice (by rfl) (by rfl) (by rfl) (by rfl)) (by rfl) ?_; rintro _ _ ⟨_, rfl, rfl⟩) | refine sc_r (R_build (by rfl) (by rfl)) (by rfl) ?_ | refine sc_r (R_nilCheck (by rfl)) (by rfl) ?_ | refine sc_r (R_nilCheck_func (by rfl)) (by rfl) ?_ | (refine sc_w (by rfl) W_makeMap (by rfl) ?_; rintro _ _ ⟨_, rfl, rfl⟩) | refine sc_r (R_makeInterface (by rfl)) (by rfl) ?_ | refine sc_r (R_makeFunc (by rfl) (by rfl)) (by rfl) ?_)
    | refine swl_nil ?_
    | refine sx_next ?_
    | refine sw_seq ?_
    | refine sw_region ?_
    | refine sw_block ?_
    | refine swl_g_on (by rfl) (by rfl) ?_
    | refine swl_g_off (by rfl) (by rfl) (by rfl) (by rfl) ?_
    | refine swl_g_un (by rfl) (by rfl) (by rfl) ?_
    | refine swl_g_pos (by rfl) (by rfl) (by first | assumption | omega) ?_
    | refine swl_g_neg (by rfl) (by rfl) (by first | assumption | omega) ?_
    | refine swl_g_npos (by rfl) (by rfl) (by first | assumption | omega) ?_
    | refine swl_g_nneg (by rfl) (by rfl) (by first | assumption | omega) ?_
    | refine swl_g_dec (by rfl) (by rfl) (fun hp => ?_) (fun hp => ?_)
    | refine swl_g_ndec (by rfl) (by rfl) (fun hp => ?_) (fun hp => ?_)
    | refine swl_g_bool (by rfl) (by rfl) (fun hp => ?_) (fun hp => ?_)
    | refine sx_past_ret ?_
    | refine sx_past_exit ?_
    | refine sx_block_normal ?_
    | refine sx_block_ret ?_
    | refine sx_block_here ?_
    | refine sx_block_past (by rfl) ?_
    | refine sw_cond_true (by rfl) ?_
    | refine sw_cond_false (by rfl) ?_
    | refine sw_cond_pos (by rfl) (by first | assumption | omega) ?_
    | refine sw_cond_neg (by rfl) (by first | assumption | omega) ?_
    | refine sw_cond_npos (by rfl) (by first | assumption | omega) ?_
    | refine sw_cond_nneg (by rfl) (by first | assumption | omega) ?_
    | refine sw_cond_dec (by rfl) (fun hp => ?_) (fun hp => ?_)
    | refine sw_cond_not (by rfl) (fun hp => ?_) (fun hp => ?_)
    | refine sw_cond_bool (by rfl) (fun hp => ?_) (fun hp => ?_)
    | refine sw_ret ?_
    | refine sw_exit ?_
    | refine sw_skip ?_
    | fail)
      exact sx_ret_m [D] (Rems.cons Rem.here Rems.nil) (res1 rfl (ResOne.cell1 (by rfl) (by infer_instance) (by rfl))) L ⟨rfl, rfl⟩ (by (repeat (first | exact Ent.refl _ | exact Ent.nil | (apply Ent.pick; focus ((repeat (first | exact Rem.here | apply Rem.there)); done)) | apply Ent.drop))) (.inr rfl)
  all_goals
    rw [hno (by omega)]
    exact sx_ret_of (res1 rfl (ResOne.cell1 (by rfl) (by infer_instance) (by rfl))) L ⟨rfl, rfl⟩ (by (repeat (first | exact Ent.refl _ | exact Ent.nil | (apply Ent.pick; focus ((repeat (first | exact Rem.here | apply Rem.there)); done)) | apply Ent.drop)))
theorem summary_May' (p : PartS) (b : Bool) (h : mayP p = b) {pp : Option Addr} {n c : Nat} {L : List HP} (hl : SlC L pp 4 n c (p.l.map EntS.cells)) :
    Tr Tryd.prog 66 [.agg (p.cells (.slice pp n c))].toArray L (fun v L' => v = .bool b ∧ L = L') := h ▸ summary_May p hl
end Go.Proofs.YtjdnflhejfcgdaaDoor

/-
  Summaries: which blocks are a part's.
-/
namespace Go.Proofs.YtjdnflhejfcgdaaDoor
open Go Go.SL Go.Proofs

theorem eqIn_Ent (a b : EntS) (w : World) : (Op.equalIn 10000 72 (.agg a.cells) (.agg b.cells)).run Tryd.prog w = .ok (decide (a = b)) w := by
  rw [run_equalIn_st w 9999 72 _ _ _ Tryd.underlying72 Tryd.stoodInHeld72]
  obtain ⟨a1, a2, a3, a4⟩ := a
  obtain ⟨b1, b2, b3, b4⟩ := b
  simp only [Op.eqFields, EntS.cells, part]
  by_cases h1 : a1 = b1 <;> by_cases h2 : a2 = b2 <;> by_cases h3 : a3 = b3 <;> by_cases h4 : a4 = b4 <;>
    simp [h1, h2, h3, h4, run_equalIn_int (P := Tryd.prog) w 9998 3 .i64 .i64 _ _ Tryd.underlying3, run_equalIn_int (P := Tryd.prog) w 9998 70 .u32 .u32 _ _ Tryd.underlying70]

theorem summary_summed (e : EntS) (b : List Int) {L : List HP} {p : Option Addr} {n c : Nat} [HalvesC L] (hb : SlC L p 1 n c (b.map u8c)) :
    Tr Tryd.prog 68 [.agg e.cells, .slice p n c].toArray L (fun v L' => v = .agg (EntS.cells { e with sum := crcSum [b] }) ∧ L = L') := by
  refine tr_enter Tryd.func68 rfl Tryd.ntmps68 rfl fun w0 => ?_
  simp only [EntS.cells]
  repeat' (first
    | refine swl_op ?_
    | (refine s1_move ?_; refine sc_r (R_move (by rfl)) (by rfl) ?_)
    | (refine s1_load ?_; refine sc_r (L_load_all (by rfl) (by infer_instance) (by rfl)) (by rfl) ?_)
    | (refine s1_fieldAddr ?_; refine sc_r (R_fieldAddr (by rfl)) (by rfl) ?_)
    | (refine s1_call ?_; (refine sc_c (by rfl) (C_call (by rfl) (by infer_instance) (by rfl) (by rfl) (crc_Sum1 b (by infer_instance) (by rfl) (by infer_instance))) (by rfl) ?_; rintro _ _ ⟨rfl, rfl⟩))
    | (refine s1_store ?_; first | (refine sc_w (by rfl) (W_storeAll (by rfl) (by rfl) (by infer_instance) (by rfl) (by rfl) (by rfl)) (by rfl) ?_; rintro _ _ ⟨rfl, rfl⟩) | (refine sc_w (by rfl) (W_storeL (by rfl) (by rfl) (by infer_instance) (by rfl) (by rfl) (by rfl)) (by rfl) ?_; rintro _ _ ⟨rfl, rfl⟩))
    | (refine s1_alloc ?_; (refine sc_w (by rfl) W_allocA (by rfl) ?_; rintro _ _ ⟨_, rfl, rfl⟩))
    | (refine s1_box ?_; (refine sc_w (by rfl) (W_boxA (by rfl)) (by rfl) ?_; rintro _ _ ⟨_, rfl, rfl⟩))
    | (refine s1_any ?_; (refine sc_w (by rfl) (W_buildSliceV (by rfl) (by rfl) (by rfl) (by rfl) (by rfl) (by rfl) (by rfl)) (by rfl) ?_; rintro _ _ ⟨_, rfl, rfl, _, _⟩))
    | refine swl_nil ?_
    | refine sx_next ?_
    | refine sw_seq ?_
    | refine sw_region ?_
    | refine sw_ret ?_
    | fail)
  exact sx_ret_of (res1 rfl (ResOne.cellA (by rfl) (by infer_instance) (by rfl))) L ⟨rfl, rfl⟩ (by (repeat (first | exact Ent.refl _ | exact Ent.nil | (apply Ent.pick; focus ((repeat (first | exact Rem.here | apply Rem.there)); done)) | apply Ent.drop)))
theorem summary_num (w v : Int) (u : Int) (hu : IntKind.u64.wrap v = u) {L : List HP} : Tr Tryd.prog 69 [.int .i64 w, .int .i64 v].toArray L (fun r L' => r = .agg (Num.cells ⟨w, u⟩) ∧ L = L') := by
  refine tr_enter Tryd.func69 rfl Tryd.ntmps69 rfl fun w0 => ?_
  repeat' (first
    | refine swl_op ?_
    | (refine s1_move ?_; refine sc_r (R_move (by rfl)) (by rfl) ?_)
    | (refine s1_store ?_; (refine sc_w (by rfl) (W_storeAll (by rfl) (by rfl) (by infer_instance) (by rfl) (by rfl) (by rfl)) (by rfl) ?_; rintro _ _ ⟨rfl, rfl⟩))
    | (refine s1_alloc ?_; (refine sc_w (by rfl) W_allocA (by rfl) ?_; rintro _ _ ⟨_, rfl, rfl⟩))
    | (refine s1_conv ?_; refine sc_r (R_convk (by rfl) hu) (by rfl) ?_)
    | (refine s1_any ?_; refine sc_r (R_build (by rfl) (by rfl)) (by rfl) ?_)
    | refine swl_nil ?_
    | refine sx_next ?_
    | refine sw_seq ?_
    | refine sw_region ?_
    | refine sw_ret ?_
    | fail)
  exact sx_ret_of (res1 rfl (ResOne.cellA (by rfl) (by infer_instance) (by rfl))) L ⟨rfl, rfl⟩ (by (repeat (first | exact Ent.refl _ | exact Ent.nil | (apply Ent.pick; focus ((repeat (first | exact Rem.here | apply Rem.there)); done)) | apply Ent.drop)))

def sumOK (e : EntS) (b : List Int) : Bool := decide (b.length = 128 ∧ crcSum [b] = e.sum)
def wholeF (p : PartS) (bs : List (List Int)) : Bool := mayP p && decide (bs.length = p.l.length) && (p.l.zip bs).all fun x => sumOK x.1 x.2
theorem wholeF_yes {p : PartS} {bs : List (List Int)} (h1 : mayP p = true) (h2 : bs.length = p.l.length) (h3 : ∀ x ∈ p.l.zip bs, sumOK x.1 x.2 = true) : wholeF p bs = true := by
  simp only [wholeF, h1, h2, decide_true, Bool.true_and, List.all_eq_true]; exact h3
theorem wholeF_may {p : PartS} {bs : List (List Int)} (h1 : mayP p = false) : wholeF p bs = false := by simp [wholeF, h1]
theorem wholeF_len {p : PartS} {bs : List (List Int)} (h1 : bs.length ≠ p.l.length) : wholeF p bs = false := by simp [wholeF, h1]
theorem wholeF_at {p : PartS} {bs : List (List Int)} {i : Nat} (h1 : i < p.l.length) (h2 : i < bs.length) (h : sumOK p.l[i] bs[i] = false) : wholeF p bs = false := by
  have : ((p.l.zip bs).all fun x => sumOK x.1 x.2) = false := by
    rw [List.all_eq_false]
    refine ⟨(p.l[i], bs[i]), ?_, by simp [h]⟩
    rw [← List.getElem_zip (h := by simp; omega)]
    exact List.getElem_mem _
  simp only [wholeF, this, Bool.and_false]

set_option maxHeartbeats 2000000 in
theorem summary_Whole (p : PartS) (bs : List BS) {pp bp : Option Addr} {n c m cb : Nat} {L : List HP} [HalvesC L] (hl : SlC L pp 4 n c (p.l.map EntS.cells)) (hb : SlC L bp 1 m cb (bs.map BS.cell)) (hx : ∀ x ∈ bs, SlC L x.p 1 x.n x.c (x.l.map u8c)) :
    Tr Tryd.prog 29 [.agg (p.cells (.slice pp n c)), .slice bp m cb].toArray L (fun v L' => v = .bool (wholeF p (bs.map BS.l)) ∧ L = L') := by
  refine tr_enter Tryd.func29 rfl Tryd.ntmps29 rfl fun w0 => ?_
  have hlen : p.l.length = n := by simpa using hl.len
  have hlb : bs.length = m := by simpa using hb.len
  have hmay := summary_May' p
  have hyes := wholeF_yes (p := p) (bs := bs.map BS.l)
  have hno1 := wholeF_may (p := p) (bs := bs.map BS.l)
  have hno2 := wholeF_len (p := p) (bs := bs.map BS.l)
  have hat := fun i h1 h2 => wholeF_at (p := p) (bs := bs.map BS.l) (i := i) h1 h2
  rw [List.length_map] at hyes hno2
  generalize wholeF p (bs.map BS.l) = wh at *
  obtain ⟨seq, next, fin, ents⟩ := p
  dsimp only at hlen hno1 hno2 hyes hl hat
  cases hm : mayP ⟨seq, next, fin, ents⟩
  · rw [hno1 hm]
    replace hmay := fun (L : List HP) (pp : Option Addr) (n c : Nat) (h : SlC L pp 4 n c (ents.map EntS.cells)) => hmay false hm h
    simp only [PartS.cells] at *
    repeat' (first
    | refine swl_op ?_
    | (refine s1_move ?_; refine sc_r (R_move (by rfl)) (by rfl) ?_)
    | (refine s1_load ?_; refine sc_r (L_load_all (by rfl) (by infer_instance) (by rfl)) (by rfl) ?_)
    | (refine s1_pick ?_; refine sc_r (R_pick_t (by rfl) (by rfl)) (by rfl) ?_)
    | (refine s1_call ?_; (refine sc_c (by rfl) (C_call (by rfl) (by infer_instance) (by rfl) (by rfl) (hmay _ _ _ _ (by infer_instance))) (by rfl) ?_; rintro _ _ ⟨rfl, rfl⟩))
    | (refine s1_store ?_; (refine sc_w (by rfl) (W_storeL (by rfl) (by rfl) (by infer_instance) (by rfl) (by rfl) (by rfl)) (by rfl) ?_; rintro _ _ ⟨rfl, rfl⟩))
    | (refine s1_alloc ?_; (refine sc_w (by rfl) (W_alloc1 (by rfl)) (by rfl) ?_; rintro _ _ ⟨_, rfl, rfl⟩))
    | (refine s1_box ?_; first | (refine sc_w (by rfl) (W_boxA (by rfl)) (by rfl) ?_; rintro _ _ ⟨_, rfl, rfl⟩) | (refine sc_w (by rfl) (W_box1 (by rfl) (by rfl)) (by rfl) ?_; rintro _ _ ⟨_, rfl, rfl⟩))
    | (refine s1_any ?_; refine sc_r (R_not (by rfl)) (by rfl) ?_)
    | refine swl_nil ?_
    | refine sx_next ?_
    | refine sw_seq ?_
    | refine sw_region ?_
    | refine swl_g_off (by rfl) (by rfl) (by rfl) (by rfl) ?_
    | refine sx_past_ret ?_
    | refine sw_cond_true (by rfl) ?_
    | refine sw_ret ?_
    | fail)
    exact sx_ret_of (res1 rfl (ResOne.cell1 (by rfl) (by infer_instance) (by rfl))) L ⟨rfl, rfl⟩ (by (repeat (first | exact Ent.refl _ | exact Ent.nil | (apply Ent.pick; focus ((repeat (first | exact Rem.here | apply Rem.there)); done)) | apply Ent.drop)))
  · replace hmay := fun (L : List HP) (pp : Option Addr) (n c : Nat) (h : SlC L pp 4 n c (ents.map EntS.cells)) => hmay true hm h
    replace hyes := hyes hm
    simp only [PartS.cells] at *
    repeat' (first
    | refine swl_op ?_
    | (refine s1_move ?_; refine sc_r (R_move (by rfl)) (by rfl) ?_)
    | (refine s1_load ?_; first | refine sc_r (L_load' (by rfl) (by infer_instance) (by rfl)) (by rfl) ?_ | refine sc_r (L_load_all (by rfl) (by infer_instance) (by rfl)) (by rfl) ?_)
    | (refine s1_fieldAddr ?_; refine sc_r (R_fieldAddr (by rfl)) (by rfl) ?_)
    | (refine s1_pick ?_; refine sc_r (R_pick_f (by rfl) (by rfl)) (by rfl) ?_)
    | (refine s1_bin ?_; refine sc_r (R_neq (by rfl) (by rfl)) (by rfl) ?_)
    | (refine s1_call ?_; first | (refine sc_c (by rfl) (C_call (by rfl) (by infer_instance) (by rfl) (by rfl) (hmay _ _ _ _ (by infer_instance))) (by rfl) ?_; rintro _ _ ⟨rfl, rfl⟩) | (refine sc_c (by rfl) (C_call (by rfl) (by infer_instance) (by rfl) (by rfl) (summary_entries _ (by rfl))) (by rfl) ?_; rintro _ _ ⟨b, rfl, rfl⟩) | refine sc_r (R_len (by rfl)) (by rfl) ?_)
    | (refine s1_store ?_; (refine sc_w (by rfl) (W_storeL (by rfl) (by rfl) (by infer_instance) (by rfl) (by rfl) (by rfl)) (by rfl) ?_; rintro _ _ ⟨rfl, rfl⟩))
    | (refine s1_alloc ?_; (refine sc_w (by rfl) (W_alloc1 (by rfl)) (by rfl) ?_; rintro _ _ ⟨_, rfl, rfl⟩))
    | (refine s1_box ?_; first | (refine sc_w (by rfl) (W_boxA (by rfl)) (by rfl) ?_; rintro _ _ ⟨_, rfl, rfl⟩) | (refine sc_w (by rfl) (W_box1 (by rfl) (by rfl)) (by rfl) ?_; rintro _ _ ⟨_, rfl, rfl⟩))
    | (refine s1_any ?_; refine sc_r (R_not (by rfl)) (by rfl) ?_)
    | refine swl_nil ?_
    | refine sx_next ?_
    | refine sw_seq ?_
    | refine sw_region ?_
    | refine sw_block ?_
    | refine swl_g_on (by rfl) (by rfl) ?_
    | refine sx_past_ret ?_
    | refine sw_cond_not (by rfl) (fun hp => ?_) (fun hp => ?_)
    | refine sw_ret ?_
    | refine sw_skip ?_
    | fail)
    · rw [hno2 (by omega)]
      exact sx_ret_of (res1 rfl (ResOne.cell1 (by rfl) (by infer_instance) (by rfl))) L ⟨rfl, rfl⟩ (by (repeat (first | exact Ent.refl _ | exact Ent.nil | (apply Ent.pick; focus ((repeat (first | exact Rem.here | apply Rem.there)); done)) | apply Ent.drop)))
    · rename_i b1 b2 b3
      refine sw_entries b ents (by rfl) (fun i => fact (∀ x ∈ (ents.zip (bs.map BS.l)).take i, sumOK x.1 x.2 = true) :: pt b (.cells #[.slice pp n c] 32) :: pt b3 (.cells #[.bool false] 4) :: pt b2 (.cells #[.slice bp m cb] 35) :: L)
        (fun c F => c = .ret ∧ F = pt b3 (.cells #[.bool false] 4) :: L ∧ wh = false) (Ent.trans (by (repeat (first | exact Ent.refl _ | exact Ent.nil | (apply Ent.pick; focus ((repeat (first | exact Rem.here | apply Rem.there)); done)) | apply Ent.drop))) (Ent.fact_intro (by simp))) (fun i _ => by infer_instance) (fun i _ => by infer_instance) (by rfl) rfl ?_ ?_ ?_
      · intro l x i hi w0 _
        have hib : i < bs.length := by omega
        have hzl : i < (ents.zip (bs.map BS.l)).length := by simp; omega
        have hts := List.take_succ_eq_append_getElem hzl
        rw [List.getElem_zip, List.getElem_map] at hts
        have hai := hat i hi (by simpa using hib)
        rw [List.getElem_map] at hai
        have he1 := bs_get hib
        have hxi := hx bs[i] (List.getElem_mem hib)
        have hli : (bs[i]).l.length = (bs[i]).n := by simpa using hxi.len
        obtain ⟨b4, o4, rfl⟩ := hb.ptr (by omega)
        generalize ents[i] = e at *
        generalize bs[i] = bl at *
        obtain ⟨q, k, cq, l'⟩ := bl
        dsimp only at *
        have hsE := fun (L : List HP) (hg : HalvesC L) (h : SlC L q 1 k cq (l'.map u8c)) => summary_summed e l' h
        have hcm : ∀ w, (Op.equalIn 10000 72 (.agg (EntS.cells { e with sum := crcSum [l'] })) (.agg e.cells)).run Tryd.prog w = .ok (decide (crcSum [l'] = e.sum)) w := fun w => by
          rw [eqIn_Ent]; congr 1; apply decide_eq_decide.2; obtain ⟨e1, e2, e3, e4⟩ := e; simp
        have hyes2 : k = 128 → crcSum [l'] = e.sum → sumOK e l' = true := fun h1 h2 => by simp [sumOK, h2]; omega
        have hno3 : ¬ (k = 128 ∧ crcSum [l'] = e.sum) → wh = false := fun h => hai (by simp only [sumOK, decide_eq_false_iff_not]; intro h1; exact h ⟨by omega, h1.2⟩)
        obtain ⟨kind, ino, index, sum⟩ := e
        simp only [EntS.cells] at *
        refine sw_fact (φ := ∀ x ∈ (ents.zip (bs.map BS.l)).take i, sumOK x.1 x.2 = true) (by focus ((repeat (first | exact Rem.here | apply Rem.there)); done)) fun hall => ?_
        repeat' (first
    | refine swl_op ?_
    | (refine s1_assign ?_; refine sc_r (R_assign (by rfl)) (by rfl) ?_)
    | (refine s1_store ?_; (refine sc_w (by rfl) (W_storeAll (by rfl) (by rfl) (by infer_instance) (by rfl) (by rfl) (by rfl)) (by rfl) ?_; rintro _ _ ⟨rfl, rfl⟩))
    | (refine s1_alloc ?_; (refine sc_w (by rfl) W_allocA (by rfl) ?_; rintro _ _ ⟨_, rfl, rfl⟩))
    | refine swl_nil ?_
    | refine sx_next ?_
    | refine sw_seq ?_
    | refine sw_region ?_
    | fail)
        refine sx_begin (by focus ((repeat (first | exact Rem.here | apply Rem.there)); done)) ?_
        repeat' (first
    | refine swl_op ?_
    | (refine s1_move ?_; refine sc_r (R_move (by rfl)) (by rfl) ?_)
    | (refine s1_load ?_; first | refine sc_r (L_load' (by rfl) (by infer_instance) (by rfl)) (by rfl) ?_ | refine sc_r (L_load_all (by rfl) (by infer_instance) (by rfl)) (by rfl) ?_ | refine sc_r (L_load_el1 (by rfl) (by infer_instance) (by omega) (by first | assumption | rfl)) (by rfl) ?_)
    | (refine s1_assign ?_; refine sc_r (R_assign (by rfl)) (by rfl) ?_)
    | (refine s1_pick ?_; first | refine sc_r (R_pick_t (by rfl) (by rfl)) (by rfl) ?_ | refine sc_r (R_pick_f (by rfl) (by rfl)) (by rfl) ?_)
    | (refine s1_bin ?_; first | refine sc_r (R_neq (by rfl) (by rfl)) (by rfl) ?_ | refine sc_r (R_neq_st (by rfl) (by rfl) Tryd.eqGuardType72 hcm) (by rfl) ?_)
    | (refine s1_call ?_; first | (refine sc_c (by rfl) (C_call (by rfl) (by infer_instance) (by rfl) (by rfl) (hsE _ (by infer_instance) (by infer_instance))) (by rfl) ?_; rintro _ _ ⟨rfl, rfl⟩) | refine sc_r (R_len (by rfl)) (by rfl) ?_)
    | (refine s1_indexAddr ?_; refine sc_r (R_indexAddr (by rfl) (by rfl) (by omega)) (by rfl) ?_)
    | (refine s1_store ?_; (refine sc_w (by rfl) (W_storeL (by rfl) (by rfl) (by infer_instance) (by rfl) (by rfl) (by rfl)) (by rfl) ?_; rintro _ _ ⟨rfl, rfl⟩))
    | refine swl_nil ?_
    | refine sx_next ?_
    | refine sw_seq ?_
    | refine sw_region ?_
    | refine sw_block ?_
    | refine sx_block_normal ?_
    | refine sx_block_ret ?_
    | refine sw_cond_true (by rfl) ?_
    | refine sw_cond_not (by rfl) (fun hp => ?_) (fun hp => ?_)
    | refine sw_ret ?_
    | refine sw_skip ?_
    | refine swh_lt (by rfl) (fun _ _ => wanted_none) ?_
    | refine swh_lt (by rfl) (wanted_on (by rfl) (by rfl)) ?_
    | refine swh_off (by rfl) (by rfl) (by rfl) (by rfl) (by rfl) ?_
    | refine swh_heavy_off (by rfl) (by rfl) (by rfl) (by rfl) (by rfl) ?_
    | refine swh_hv (by rfl) (wanted_on (by rfl) (by rfl)) ?_
    | refine swh_g_ndec (by rfl) (by rfl) (by rfl) (fun hp => ?_) (fun hp => ?_)
    | refine swh_nil ?_
    | (apply And.intro; focus ((repeat (first | exact Ent.refl _ | exact Ent.nil | (apply Ent.pick; focus ((repeat (first | exact Rem.here | apply Rem.there)); done)) | apply Ent.drop)); done))
    | (refine sw_draw [(0, true), (1, true), (2, true), (3, true), (4, true), (5, true), (7, true), (6, false), (8, true), (9, true)] follows ?_ ?_ ?_; (focus rfl); (focus (decide +kernel)))
    | fail)
        rotate_left 2
        · refine sx_round_on (by focus ((repeat (first | exact Rem.here | apply Rem.there)); done)) _ (.inl ⟨rfl, rfl⟩) ?_
          refine Ent.pick (by focus ((repeat (first | exact Rem.here | apply Rem.there)); done)) (Ent.pick (by focus ((repeat (first | exact Rem.here | apply Rem.there)); done)) (Ent.trans ?_ (Ent.fact_intro (by
            intro y hy
            rw [hts] at hy
            rcases List.mem_append.1 hy with hy | hy
            · exact hall y hy
            · rw [List.mem_singleton.1 hy]; exact hyes2 (by omega) (by assumption)))))
          (repeat (first | exact Ent.refl _ | exact Ent.nil | (apply Ent.pick; focus ((repeat (first | exact Rem.here | apply Rem.there)); done)) | apply Ent.drop))
        all_goals
          refine sx_round_ret (by focus ((repeat (first | exact Rem.here | apply Rem.there)); done)) _ (Or.inr ⟨rfl, .ret, _, rfl, rfl, rfl, hno3 (by omega)⟩) ?_
          (repeat (first | exact Ent.refl _ | exact Ent.nil | (apply Ent.pick; focus ((repeat (first | exact Rem.here | apply Rem.there)); done)) | apply Ent.drop))
      · intro D
        refine sx_fact (φ := ∀ x ∈ (ents.zip (bs.map BS.l)).take n, sumOK x.1 x.2 = true) (by focus ((repeat (first | exact Rem.here | apply Rem.there)); done)) fun hall => ?_
        rw [List.take_of_length_le (by simp; omega)] at hall
        rw [hyes (by omega) hall]
        repeat' (first
    | refine swl_op ?_
    | (refine s1_store ?_; (refine sc_w (by rfl) (W_storeL (by rfl) (by rfl) (by infer_instance) (by rfl) (by rfl) (by rfl)) (by rfl) ?_; rintro _ _ ⟨rfl, rfl⟩))
    | refine swl_nil ?_
    | refine sx_next ?_
    | refine sw_seq ?_
    | refine sw_region ?_
    | refine sx_block_normal ?_
    | refine sw_ret ?_
    | fail)
        exact sx_ret_m [D] (Rems.cons Rem.here Rems.nil) (res1 rfl (ResOne.cell1 (by rfl) (by infer_instance) (by rfl))) L ⟨rfl, rfl⟩ (by (repeat (first | exact Ent.refl _ | exact Ent.nil | (apply Ent.pick; focus ((repeat (first | exact Rem.here | apply Rem.there)); done)) | apply Ent.drop))) (.inr rfl)
      · rintro D c F ⟨rfl, rfl, rfl⟩
        repeat' (first
    | refine sx_past_ret ?_
    | refine sx_block_ret ?_
    | refine sw_ret ?_
    | fail)
        exact sx_ret_m [D] (Rems.cons Rem.here Rems.nil) (res1 rfl (ResOne.cell1 (by rfl) (by infer_instance) (by rfl))) L ⟨rfl, rfl⟩ (by (repeat (first | exact Ent.refl _ | exact Ent.nil | (apply Ent.pick; focus ((repeat (first | exact Rem.here | apply Rem.there)); done)) | apply Ent.drop))) (.inr rfl)
theorem summary_Whole' (p : PartS) (bs : List BS) (t : Bool) (h : wholeF p (bs.map BS.l) = t) {pp bp : Option Addr} {n c m cb : Nat} {L : List HP} [HalvesC L] (hl : SlC L pp 4 n c (p.l.map EntS.cells)) (hb : SlC L bp 1 m cb (bs.map BS.cell)) (hx : ∀ x ∈ bs, SlC L x.p 1 x.n x.c (x.l.map u8c)) :
    Tr Tryd.prog 29 [.agg (p.cells (.slice pp n c)), .slice bp m cb].toArray L (fun v L' => v = .bool t ∧ L = L') := h ▸ summary_Whole p bs hl hb hx
end Go.Proofs.YtjdnflhejfcgdaaDoor

/-
  Summaries: encoded.
-/
namespace Go.Proofs.YtjdnflhejfcgdaaDoor
open Go Go.SL Go.Proofs

def finI (b : Bool) : Int := if b then 1 else 0
def headN (p : PartS) : List Num := [⟨4, 1752397165⟩, ⟨6, p.seq⟩, ⟨4, p.next⟩, ⟨1, p.l.length⟩, ⟨1, finI p.fin⟩]
def entN (e : EntS) : List Num := [⟨1, e.kind⟩, ⟨1, e.ino⟩, ⟨2, e.index⟩, ⟨4, e.sum⟩]
def encN (p : PartS) : List Num := headN p ++ p.l.flatMap entN
def encF (p : PartS) : List Int := sealF (packF (encN p))
def sumsOK (p : PartS) : Prop := ∀ e ∈ p.l, 0 ≤ e.sum ∧ e.sum ≤ 4294967295
theorem mayP_is {p : PartS} (h : mayP p = true) : (1 ≤ p.seq ∧ p.seq ≤ 281474976710655 ∧ 0 ≤ p.next ∧ p.next ≤ 2147483647 ∧ 1 ≤ p.l.length ∧ p.l.length ≤ 13) ∧ ∀ e ∈ p.l, 1 ≤ e.kind ∧ e.kind ≤ 4 ∧ 0 ≤ e.ino ∧ e.ino ≤ 255 ∧ 0 ≤ e.index ∧ e.index ≤ 65535 := by
  simp only [mayP, Bool.and_eq_true, decide_eq_true_eq, List.all_eq_true] at h
  exact ⟨h.1, fun e he => by simpa [entMay] using h.2 e he⟩
theorem num_ok1 {v : Int} (h : 0 ≤ v ∧ v < 256) : Num.ok ⟨1, v⟩ := num_ok (by omega) h
theorem num_ok2 {v : Int} (h : 0 ≤ v ∧ v < 65536) : Num.ok ⟨2, v⟩ := num_ok (by omega) h
theorem num_ok4 {v : Int} (h : 0 ≤ v ∧ v < 4294967296) : Num.ok ⟨4, v⟩ := num_ok (by omega) h
theorem num_ok6 {v : Int} (h : 0 ≤ v ∧ v < 281474976710656) : Num.ok ⟨6, v⟩ := num_ok (by omega) h
theorem encN_ok {p : PartS} (h : mayP p = true) (hs : sumsOK p) : ∀ x ∈ encN p, x.ok := by
  obtain ⟨h1, h2⟩ := mayP_is h
  intro x hx
  rcases List.mem_append.1 hx with hx | hx
  · simp only [headN, List.mem_cons, List.not_mem_nil, or_false] at hx
    rcases hx with rfl | rfl | rfl | rfl | rfl
    · exact num_ok4 (by omega)
    · exact num_ok6 (by omega)
    · exact num_ok4 (by omega)
    · exact num_ok1 (by omega)
    · exact num_ok1 (by unfold finI; split <;> omega)
  · obtain ⟨e, he, hx⟩ := List.mem_flatMap.1 hx
    have h3 := h2 e he
    have h4 := hs e he
    simp only [entN, List.mem_cons, List.not_mem_nil, or_false] at hx
    rcases hx with rfl | rfl | rfl | rfl
    · exact num_ok1 (by omega)
    · exact num_ok1 (by omega)
    · exact num_ok2 (by omega)
    · exact num_ok4 (by omega)
theorem entsN_len (l : List EntS) : (l.flatMap entN).length = 4 * l.length := by
  induction l with
  | nil => rfl
  | cons e r ih => simp [entN, ih] at *; omega
theorem entsN_size (l : List EntS) : sizeN (l.flatMap entN) = 8 * l.length := by
  induction l with
  | nil => rfl
  | cons e r ih =>
    simp only [sizeN, List.flatMap_cons, List.map_append, List.sum_append, List.length_cons] at *
    rw [ih]; simp [entN]; omega
theorem encN_len (p : PartS) : (encN p).length = 5 + 4 * p.l.length := by simp only [encN, List.length_append, entsN_len]; rfl
theorem encP_len {p : PartS} (h : mayP p = true) (hs : sumsOK p) : (packF (encN p)).length = 16 + 8 * p.l.length := by
  have h1 := (packF_len (encN_ok h hs)).1
  have h2 := entsN_size p.l
  have h3 : sizeN (encN p) = 16 + 8 * p.l.length := by
    simp only [sizeN, encN, List.map_append, List.sum_append] at *
    rw [h2]; simp [headN]
  omega
theorem encF_len {p : PartS} (h : mayP p = true) (hs : sumsOK p) : (encF p).length = 128 := by
  obtain ⟨h1, _⟩ := mayP_is h
  exact sealF_len (by rw [encP_len h hs]; omega)

theorem summary_Encode_no (p : PartS) (h : mayP p = false) {pp : Option Addr} {n c : Nat} {L : List HP} (hl : SlC L pp 4 n c (p.l.map EntS.cells)) :
    Tr Tryd.prog 30 [.agg (p.cells (.slice pp n c))].toArray L (fun v L' => v = .tuple #[.slice none 0 0, .int .i64 1] ∧ L = L') := by
  refine tr_enter Tryd.func30 rfl Tryd.ntmps30 rfl fun w0 => ?_
  have hmay := fun (L : List HP) (pp : Option Addr) (n c : Nat) (h' : SlC L pp 4 n c (p.l.map EntS.cells)) => summary_May' p _ h h'
  simp only [PartS.cells] at *
  repeat' (first
    | refine swl_op ?_
    | (refine s1_load ?_; refine sc_r (L_load_all (by rfl) (by infer_instance) (by rfl)) (by rfl) ?_)
    | (refine s1_assign ?_; refine sc_r (R_assign (by rfl)) (by rfl) ?_)
    | (refine s1_call ?_; (refine sc_c (by rfl) (C_call (by rfl) (by infer_instance) (by rfl) (by rfl) (hmay _ _ _ _ (by infer_instance))) (by rfl) ?_; rintro _ _ ⟨rfl, rfl⟩))
    | (refine s1_box ?_; (refine sc_w (by rfl) (W_boxA (by rfl)) (by rfl) ?_; rintro _ _ ⟨_, rfl, rfl⟩))
    | (refine s1_any ?_; refine sc_r (R_not (by rfl)) (by rfl) ?_)
    | refine swl_nil ?_
    | refine sx_next ?_
    | refine sw_seq ?_
    | refine sw_region ?_
    | refine sx_past_ret ?_
    | refine sw_cond_true (by rfl) ?_
    | refine sw_ret ?_
    | fail)
  exact sx_ret_of (res2 rfl (ResOne.tmp rfl) (ResOne.tmp rfl)) L ⟨rfl, rfl⟩ (by (repeat (first | exact Ent.refl _ | exact Ent.nil | (apply Ent.pick; focus ((repeat (first | exact Rem.here | apply Rem.there)); done)) | apply Ent.drop)))

set_option maxHeartbeats 4000000 in
theorem summary_Encode (p : PartS) (h : mayP p = true) (hs : sumsOK p) {pp : Option Addr} {n c : Nat} {L : List HP} [HalvesC L] (hl : SlC L pp 4 n c (p.l.map EntS.cells)) :
    Tr Tryd.prog 30 [.agg (p.cells (.slice pp n c))].toArray L (fun v L' => ∃ s, v = .tuple #[s, .int .i64 0] ∧ L' = vec 5 1 ((encF p).map u8c) s :: L) := by
  refine tr_enter Tryd.func30 rfl Tryd.ntmps30 rfl fun w0 => ?_
  have hmay := fun (L : List HP) (pp : Option Addr) (n c : Nat) (h' : SlC L pp 4 n c (p.l.map EntS.cells)) => summary_May' p _ h h'
  have hok := encN_ok h hs
  have hpl := encP_len h hs
  have hnl := encN_len p
  obtain ⟨hb1, hb2⟩ := mayP_is h
  have hlen : p.l.length = n := by simpa using hl.len
  have hE : encF p = sealF (packF (encN p)) := rfl
  have hhead : headN p = [⟨4, 1752397165⟩, ⟨6, p.seq⟩, ⟨4, p.next⟩, ⟨1, p.l.length⟩, ⟨1, finI p.fin⟩] := rfl
  have hN : encN p = headN p ++ p.l.flatMap entN := rfl
  rw [hE]
  generalize encN p = nums at *
  generalize headN p = hd at *
  obtain ⟨seq, next, fin, ents⟩ := p
  dsimp only at *
  simp only [PartS.cells] at *
  obtain ⟨fI, hfI⟩ : ∃ z : Int, z = finI fin := ⟨_, rfl⟩
  have hfb : 0 ≤ fI ∧ fI ≤ 1 := by rw [hfI]; unfold finI; split <;> omega
  rw [hlen, ← hfI] at hhead
  cases fin
  · repeat' (first
    | refine swl_op ?_
    | (refine s1_load ?_; first | refine sc_r (L_load' (by rfl) (by infer_instance) (by rfl)) (by rfl) ?_ | refine sc_r (L_load_all (by rfl) (by infer_instance) (by rfl)) (by rfl) ?_)
    | (refine s1_fieldAddr ?_; refine sc_r (R_fieldAddr (by rfl)) (by rfl) ?_)
    | (refine s1_assign ?_; refine sc_r (R_assign (by rfl)) (by rfl) ?_)
    | (refine s1_call ?_; (refine sc_c (by rfl) (C_call (by rfl) (by infer_instance) (by rfl) (by rfl) (hmay _ _ _ _ (by infer_instance))) (by rfl) ?_; rintro _ _ ⟨rfl, rfl⟩))
    | (refine s1_box ?_; (refine sc_w (by rfl) (W_boxA (by rfl)) (by rfl) ?_; rintro _ _ ⟨_, rfl, rfl⟩))
    | (refine s1_any ?_; refine sc_r (R_not (by rfl)) (by rfl) ?_)
    | refine swl_nil ?_
    | refine sx_next ?_
    | refine sw_seq ?_
    | refine sw_region ?_
    | refine sw_cond_false (by rfl) ?_
    | refine sw_skip ?_
    | fail)
    rename_i b1
    refine sw_sub (E := [(1, .pointer (some ⟨b1, 0, none⟩)), (4, .int .i64 fI)]) (subE.cons rfl (subE.cons (by rw [hfI]; rfl) subE.nil)) ?_
    clear hfI hmay
    refine sw_mid (γ := Nat × Nat) (fun g => [(1, .pointer (some ⟨b1, 0, none⟩)), (5, .pointer (some ⟨g.1, 0, none⟩))])
      (fun g => pt g.1 (.cells #[.slice (some ⟨g.2, 0, none⟩) 5 5] 133) :: vec 131 2 [Num.cells ⟨4, 1752397165⟩, Num.cells ⟨6, seq⟩, Num.cells ⟨4, next⟩, Num.cells ⟨1, n⟩, Num.cells ⟨1, fI⟩] (.slice (some ⟨g.2, 0, none⟩) 5 5) :: pt b1 (.cells #[.int .i64 seq, .int .i64 next, .bool false, .slice pp n c] 34) :: L)
      (fun _ => True) ?_ ?_
    · refine sw_openL (pt b1 (.cells #[.int .i64 seq, .int .i64 next, .bool false, .slice pp n c] 34) :: L) follows (by decide +kernel) (by (repeat (first | exact Ent.refl _ | exact Ent.nil | (apply Ent.pick; focus ((repeat (first | exact Rem.here | apply Rem.there)); done)) | apply Ent.drop))) ?_
      repeat' (first
    | (refine s1_move ?_; refine sc_r (R_move (by rfl)) (by rfl) ?_)
    | (refine s1_load ?_; refine sc_r (L_load' (by rfl) (by infer_instance) (by rfl)) (by rfl) ?_)
    | (refine s1_fieldAddr ?_; refine sc_r (R_fieldAddr (by rfl)) (by rfl) ?_)
    | (refine s1_call ?_; refine sc_r (R_len (by rfl)) (by rfl) ?_)
    | (refine swg_take 1 (by decide +kernel) (by rfl) (fun _ _ => wanted_none) ?_)
    | (refine swg_take 2 (by decide +kernel) (by rfl) (fun _ _ => wanted_none) ?_)
    | (refine swg_take 4 (by decide +kernel) (by rfl) (fun _ _ => wanted_none) ?_)
    | (refine swg_take 5 (by decide +kernel) (by rfl) (fun _ _ => wanted_none) ?_)
    | (refine swg_take 7 (by decide +kernel) (by rfl) (fun _ _ => wanted_none) ?_)
    | (refine swg_take 8 (by decide +kernel) (by rfl) (fun _ _ => wanted_none) ?_)
    | (refine swg_take 9 (by decide +kernel) (by rfl) (fun _ _ => wanted_none) ?_)
    | (refine swg_take 11 (by decide +kernel) (by rfl) (fun _ _ => wanted_none) ?_)
    | fail)
      refine swg_choice (rs := [0, 14]) (by decide +kernel) rfl ?_
      intro j hj
      simp only [List.mem_cons, List.not_mem_nil, or_false] at hj
      rcases hj with rfl | rfl
      · refine swc_op (by rfl) (fun _ _ => wanted_none) ?_
        repeat' (first
    | (refine s1_call ?_; (refine sc_c (by rfl) (C_call (by rfl) (by infer_instance) (by rfl) (by rfl) (summary_num _ _ _ (wrap_u64_of (by omega)))) (by rfl) ?_; rintro _ _ ⟨rfl, rfl⟩))
    | (apply And.intro; focus ((repeat (first | exact Ent.refl _ | exact Ent.nil | (apply Ent.pick; focus ((repeat (first | exact Rem.here | apply Rem.there)); done)) | apply Ent.drop)); done))
    | fail)
        refine swg_choice (rs := [3, 14]) (by decide +kernel) rfl ?_
        intro j hj
        simp only [List.mem_cons, List.not_mem_nil, or_false] at hj
        rcases hj with rfl | rfl
        · refine swc_op (by rfl) (fun _ _ => wanted_none) ?_
          repeat' (first
    | (refine s1_call ?_; (refine sc_c (by rfl) (C_call (by rfl) (by infer_instance) (by rfl) (by rfl) (summary_num _ _ _ (wrap_u64_of (by omega)))) (by rfl) ?_; rintro _ _ ⟨rfl, rfl⟩))
    | (apply And.intro; focus ((repeat (first | exact Ent.refl _ | exact Ent.nil | (apply Ent.pick; focus ((repeat (first | exact Rem.here | apply Rem.there)); done)) | apply Ent.drop)); done))
    | fail)
          refine swg_choice (rs := [6, 14]) (by decide +kernel) rfl ?_
          intro j hj
          simp only [List.mem_cons, List.not_mem_nil, or_false] at hj
          rcases hj with rfl | rfl
          · refine swc_op (by rfl) (fun _ _ => wanted_none) ?_
            repeat' (first
    | (refine s1_call ?_; (refine sc_c (by rfl) (C_call (by rfl) (by infer_instance) (by rfl) (by rfl) (summary_num _ _ _ (wrap_u64_of (by omega)))) (by rfl) ?_; rintro _ _ ⟨rfl, rfl⟩))
    | (apply And.intro; focus ((repeat (first | exact Ent.refl _ | exact Ent.nil | (apply Ent.pick; focus ((repeat (first | exact Rem.here | apply Rem.there)); done)) | apply Ent.drop)); done))
    | fail)
            refine swg_choice (rs := [10, 14]) (by decide +kernel) rfl ?_
            intro j hj
            simp only [List.mem_cons, List.not_mem_nil, or_false] at hj
            rcases hj with rfl | rfl
            · refine swc_op (by rfl) (fun _ _ => wanted_none) ?_
              repeat' (first
    | (refine s1_call ?_; (refine sc_c (by rfl) (C_call (by rfl) (by infer_instance) (by rfl) (by rfl) (summary_num _ _ _ (wrap_u64_of (by omega)))) (by rfl) ?_; rintro _ _ ⟨rfl, rfl⟩))
    | (apply And.intro; focus ((repeat (first | exact Ent.refl _ | exact Ent.nil | (apply Ent.pick; focus ((repeat (first | exact Rem.here | apply Rem.there)); done)) | apply Ent.drop)); done))
    | fail)
              refine swg_choice (rs := [12, 14]) (by decide +kernel) rfl ?_
              intro j hj
              simp only [List.mem_cons, List.not_mem_nil, or_false] at hj
              rcases hj with rfl | rfl
              · refine swc_op (by rfl) (fun _ _ => wanted_none) ?_
                repeat' (first
    | (refine s1_call ?_; (refine sc_c (by rfl) (C_call (by rfl) (by infer_instance) (by rfl) (by rfl) (summary_num _ _ _ (wrap_u64_of (by omega)))) (by rfl) ?_; rintro _ _ ⟨rfl, rfl⟩))
    | (apply And.intro; focus ((repeat (first | exact Ent.refl _ | exact Ent.nil | (apply Ent.pick; focus ((repeat (first | exact Rem.here | apply Rem.there)); done)) | apply Ent.drop)); done))
    | fail)
                refine swg_choice (rs := [13, 14]) (by decide +kernel) rfl ?_
                intro j hj
                simp only [List.mem_cons, List.not_mem_nil, or_false] at hj
                rcases hj with rfl | rfl
                · refine swc_op (by rfl) (fun _ _ => wanted_none) ?_
                  repeat' (first
    | (refine s1_any ?_; (refine sc_w (by rfl) (W_buildSliceV (by rfl) (by rfl) (by rfl) (by rfl) (by rfl) (by rfl) (by rfl)) (by rfl) ?_; rintro _ _ ⟨_, rfl, rfl, _, _⟩))
    | (apply And.intro; focus ((repeat (first | exact Ent.refl _ | exact Ent.nil | (apply Ent.pick; focus ((repeat (first | exact Rem.here | apply Rem.there)); done)) | apply Ent.drop)); done))
    | fail)
                  refine swg_order [(14, false), (15, false)] (by rfl) (by decide +kernel) ?_
                  repeat' (first
    | (refine s1_store ?_; (refine sc_w (by rfl) (W_storeL (by rfl) (by rfl) (by infer_instance) (by rfl) (by rfl) (by rfl)) (by rfl) ?_; rintro _ _ ⟨rfl, rfl⟩))
    | (refine s1_alloc ?_; (refine sc_w (by rfl) (W_alloc1 (by rfl)) (by rfl) ?_; rintro _ _ ⟨_, rfl, rfl⟩))
    | refine swh_hv (by rfl) (fun _ _ => wanted_none) ?_
    | refine swh_nil ?_
    | (apply And.intro; focus ((repeat (first | exact Ent.refl _ | exact Ent.nil | (apply Ent.pick; focus ((repeat (first | exact Rem.here | apply Rem.there)); done)) | apply Ent.drop)); done))
    | fail)
                  exact sx_mid (_, _) trivial (subE.cons rfl (subE.cons rfl subE.nil)) (by (repeat (first | exact Ent.refl _ | exact Ent.nil | (apply Ent.pick; focus ((repeat (first | exact Rem.here | apply Rem.there)); done)) | apply Ent.drop)))
                · refine swc_op (by rfl) (fun _ _ => wanted_none) ?_
                  repeat' (first
    | (refine s1_alloc ?_; (refine sc_w (by rfl) (W_alloc1 (by rfl)) (by rfl) ?_; rintro _ _ ⟨_, rfl, rfl⟩))
    | (apply And.intro; focus ((repeat (first | exact Ent.refl _ | exact Ent.nil | (apply Ent.pick; focus ((repeat (first | exact Rem.here | apply Rem.there)); done)) | apply Ent.drop)); done))
    | fail)
                  refine swg_order [(13, false), (15, false)] (by rfl) (by decide +kernel) ?_
                  repeat' (first
    | (refine s1_store ?_; (refine sc_w (by rfl) (W_storeL (by rfl) (by rfl) (by infer_instance) (by rfl) (by rfl) (by rfl)) (by rfl) ?_; rintro _ _ ⟨rfl, rfl⟩))
    | (refine s1_any ?_; (refine sc_w (by rfl) (W_buildSliceV (by rfl) (by rfl) (by rfl) (by rfl) (by rfl) (by rfl) (by rfl)) (by rfl) ?_; rintro _ _ ⟨_, rfl, rfl, _, _⟩))
    | refine swh_hv (by rfl) (fun _ _ => wanted_none) ?_
    | refine swh_nil ?_
    | (apply And.intro; focus ((repeat (first | exact Ent.refl _ | exact Ent.nil | (apply Ent.pick; focus ((repeat (first | exact Rem.here | apply Rem.there)); done)) | apply Ent.drop)); done))
    | fail)
                  exact sx_mid (_, _) trivial (subE.cons rfl (subE.cons rfl subE.nil)) (by (repeat (first | exact Ent.refl _ | exact Ent.nil | (apply Ent.pick; focus ((repeat (first | exact Rem.here | apply Rem.there)); done)) | apply Ent.drop)))
              · refine swc_op (by rfl) (fun _ _ => wanted_none) ?_
                repeat' (first
    | (refine s1_alloc ?_; (refine sc_w (by rfl) (W_alloc1 (by rfl)) (by rfl) ?_; rintro _ _ ⟨_, rfl, rfl⟩))
    | (apply And.intro; focus ((repeat (first | exact Ent.refl _ | exact Ent.nil | (apply Ent.pick; focus ((repeat (first | exact Rem.here | apply Rem.there)); done)) | apply Ent.drop)); done))
    | fail)
                refine swg_order [(12, false), (13, false), (15, false)] (by rfl) (by decide +kernel) ?_
                repeat' (first
    | (refine s1_call ?_; (refine sc_c (by rfl) (C_call (by rfl) (by infer_instance) (by rfl) (by rfl) (summary_num _ _ _ (wrap_u64_of (by omega)))) (by rfl) ?_; rintro _ _ ⟨rfl, rfl⟩))
    | (refine s1_store ?_; (refine sc_w (by rfl) (W_storeL (by rfl) (by rfl) (by infer_instance) (by rfl) (by rfl) (by rfl)) (by rfl) ?_; rintro _ _ ⟨rfl, rfl⟩))
    | (refine s1_any ?_; (refine sc_w (by rfl) (W_buildSliceV (by rfl) (by rfl) (by rfl) (by rfl) (by rfl) (by rfl) (by rfl)) (by rfl) ?_; rintro _ _ ⟨_, rfl, rfl, _, _⟩))
    | refine swh_hv (by rfl) (fun _ _ => wanted_none) ?_
    | refine swh_nil ?_
    | (apply And.intro; focus ((repeat (first | exact Ent.refl _ | exact Ent.nil | (apply Ent.pick; focus ((repeat (first | exact Rem.here | apply Rem.there)); done)) | apply Ent.drop)); done))
    | fail)
                exact sx_mid (_, _) trivial (subE.cons rfl (subE.cons rfl subE.nil)) (by (repeat (first | exact Ent.refl _ | exact Ent.nil | (apply Ent.pick; focus ((repeat (first | exact Rem.here | apply Rem.there)); done)) | apply Ent.drop)))
            · refine swc_op (by rfl) (fun _ _ => wanted_none) ?_
              repeat' (first
    | (refine s1_alloc ?_; (refine sc_w (by rfl) (W_alloc1 (by rfl)) (by rfl) ?_; rintro _ _ ⟨_, rfl, rfl⟩))
    | (apply And.intro; focus ((repeat (first | exact Ent.refl _ | exact Ent.nil | (apply Ent.pick; focus ((repeat (first | exact Rem.here | apply Rem.there)); done)) | apply Ent.drop)); done))
    | fail)
              refine swg_order [(10, false), (12, false), (13, false), (15, false)] (by rfl) (by decide +kernel) ?_
              repeat' (first
    | (refine s1_call ?_; (refine sc_c (by rfl) (C_call (by rfl) (by infer_instance) (by rfl) (by rfl) (summary_num _ _ _ (wrap_u64_of (by omega)))) (by rfl) ?_; rintro _ _ ⟨rfl, rfl⟩))
    | (refine s1_store ?_; (refine sc_w (by rfl) (W_storeL (by rfl) (by rfl) (by infer_instance) (by rfl) (by rfl) (by rfl)) (by rfl) ?_; rintro _ _ ⟨rfl, rfl⟩))
    | (refine s1_any ?_; (refine sc_w (by rfl) (W_buildSliceV (by rfl) (by rfl) (by rfl) (by rfl) (by rfl) (by rfl) (by rfl)) (by rfl) ?_; rintro _ _ ⟨_, rfl, rfl, _, _⟩))
    | refine swh_hv (by rfl) (fun _ _ => wanted_none) ?_
    | refine swh_nil ?_
    | (apply And.intro; focus ((repeat (first | exact Ent.refl _ | exact Ent.nil | (apply Ent.pick; focus ((repeat (first | exact Rem.here | apply Rem.there)); done)) | apply Ent.drop)); done))
    | fail)
              exact sx_mid (_, _) trivial (subE.cons rfl (subE.cons rfl subE.nil)) (by (repeat (first | exact Ent.refl _ | exact Ent.nil | (apply Ent.pick; focus ((repeat (first | exact Rem.here | apply Rem.there)); done)) | apply Ent.drop)))
          · refine swc_op (by rfl) (fun _ _ => wanted_none) ?_
            repeat' (first
    | (refine s1_alloc ?_; (refine sc_w (by rfl) (W_alloc1 (by rfl)) (by rfl) ?_; rintro _ _ ⟨_, rfl, rfl⟩))
    | (apply And.intro; focus ((repeat (first | exact Ent.refl _ | exact Ent.nil | (apply Ent.pick; focus ((repeat (first | exact Rem.here | apply Rem.there)); done)) | apply Ent.drop)); done))
    | fail)
            refine swg_order [(6, false), (10, false), (12, false), (13, false), (15, false)] (by rfl) (by decide +kernel) ?_
            repeat' (first
    | (refine s1_call ?_; (refine sc_c (by rfl) (C_call (by rfl) (by infer_instance) (by rfl) (by rfl) (summary_num _ _ _ (wrap_u64_of (by omega)))) (by rfl) ?_; rintro _ _ ⟨rfl, rfl⟩))
    | (refine s1_store ?_; (refine sc_w (by rfl) (W_storeL (by rfl) (by rfl) (by infer_instance) (by rfl) (by rfl) (by rfl)) (by rfl) ?_; rintro _ _ ⟨rfl, rfl⟩))
    | (refine s1_any ?_; (refine sc_w (by rfl) (W_buildSliceV (by rfl) (by rfl) (by rfl) (by rfl) (by rfl) (by rfl) (by rfl)) (by rfl) ?_; rintro _ _ ⟨_, rfl, rfl, _, _⟩))
    | refine swh_hv (by rfl) (fun _ _ => wanted_none) ?_
    | refine swh_nil ?_
    | (apply And.intro; focus ((repeat (first | exact Ent.refl _ | exact Ent.nil | (apply Ent.pick; focus ((repeat (first | exact Rem.here | apply Rem.there)); done)) | apply Ent.drop)); done))
    | fail)
            exact sx_mid (_, _) trivial (subE.cons rfl (subE.cons rfl subE.nil)) (by (repeat (first | exact Ent.refl _ | exact Ent.nil | (apply Ent.pick; focus ((repeat (first | exact Rem.here | apply Rem.there)); done)) | apply Ent.drop)))
        · refine swc_op (by rfl) (fun _ _ => wanted_none) ?_
          repeat' (first
    | (refine s1_alloc ?_; (refine sc_w (by rfl) (W_alloc1 (by rfl)) (by rfl) ?_; rintro _ _ ⟨_, rfl, rfl⟩))
    | (apply And.intro; focus ((repeat (first | exact Ent.refl _ | exact Ent.nil | (apply Ent.pick; focus ((repeat (first | exact Rem.here | apply Rem.there)); done)) | apply Ent.drop)); done))
    | fail)
          refine swg_order [(3, false), (6, false), (10, false), (12, false), (13, false), (15, false)] (by rfl) (by decide +kernel) ?_
          repeat' (first
    | (refine s1_call ?_; (refine sc_c (by rfl) (C_call (by rfl) (by infer_instance) (by rfl) (by rfl) (summary_num _ _ _ (wrap_u64_of (by omega)))) (by rfl) ?_; rintro _ _ ⟨rfl, rfl⟩))
    | (refine s1_store ?_; (refine sc_w (by rfl) (W_storeL (by rfl) (by rfl) (by infer_instance) (by rfl) (by rfl) (by rfl)) (by rfl) ?_; rintro _ _ ⟨rfl, rfl⟩))
    | (refine s1_any ?_; (refine sc_w (by rfl) (W_buildSliceV (by rfl) (by rfl) (by rfl) (by rfl) (by rfl) (by rfl) (by rfl)) (by rfl) ?_; rintro _ _ ⟨_, rfl, rfl, _, _⟩))
    | refine swh_hv (by rfl) (fun _ _ => wanted_none) ?_
    | refine swh_nil ?_
    | (apply And.intro; focus ((repeat (first | exact Ent.refl _ | exact Ent.nil | (apply Ent.pick; focus ((repeat (first | exact Rem.here | apply Rem.there)); done)) | apply Ent.drop)); done))
    | fail)
          exact sx_mid (_, _) trivial (subE.cons rfl (subE.cons rfl subE.nil)) (by (repeat (first | exact Ent.refl _ | exact Ent.nil | (apply Ent.pick; focus ((repeat (first | exact Rem.here | apply Rem.there)); done)) | apply Ent.drop)))
      · refine swc_op (by rfl) (fun _ _ => wanted_none) ?_
        repeat' (first
    | (refine s1_alloc ?_; (refine sc_w (by rfl) (W_alloc1 (by rfl)) (by rfl) ?_; rintro _ _ ⟨_, rfl, rfl⟩))
    | (apply And.intro; focus ((repeat (first | exact Ent.refl _ | exact Ent.nil | (apply Ent.pick; focus ((repeat (first | exact Rem.here | apply Rem.there)); done)) | apply Ent.drop)); done))
    | fail)
        refine swg_order [(0, false), (3, false), (6, false), (10, false), (12, false), (13, false), (15, false)] (by rfl) (by decide +kernel) ?_
        repeat' (first
    | (refine s1_call ?_; (refine sc_c (by rfl) (C_call (by rfl) (by infer_instance) (by rfl) (by rfl) (summary_num _ _ _ (wrap_u64_of (by omega)))) (by rfl) ?_; rintro _ _ ⟨rfl, rfl⟩))
    | (refine s1_store ?_; (refine sc_w (by rfl) (W_storeL (by rfl) (by rfl) (by infer_instance) (by rfl) (by rfl) (by rfl)) (by rfl) ?_; rintro _ _ ⟨rfl, rfl⟩))
    | (refine s1_any ?_; (refine sc_w (by rfl) (W_buildSliceV (by rfl) (by rfl) (by rfl) (by rfl) (by rfl) (by rfl) (by rfl)) (by rfl) ?_; rintro _ _ ⟨_, rfl, rfl, _, _⟩))
    | refine swh_hv (by rfl) (fun _ _ => wanted_none) ?_
    | refine swh_nil ?_
    | (apply And.intro; focus ((repeat (first | exact Ent.refl _ | exact Ent.nil | (apply Ent.pick; focus ((repeat (first | exact Rem.here | apply Rem.there)); done)) | apply Ent.drop)); done))
    | fail)
        exact sx_mid (_, _) trivial (subE.cons rfl (subE.cons rfl subE.nil)) (by (repeat (first | exact Ent.refl _ | exact Ent.nil | (apply Ent.pick; focus ((repeat (first | exact Rem.here | apply Rem.there)); done)) | apply Ent.drop)))
    · rintro ⟨b5, bn⟩ _
      dsimp only
      repeat' (first
    | refine swl_op ?_
    | (refine s1_load ?_; refine sc_r (L_load' (by rfl) (by infer_instance) (by rfl)) (by rfl) ?_)
    | (refine s1_fieldAddr ?_; refine sc_r (R_fieldAddr (by rfl)) (by rfl) ?_)
    | (refine s1_call ?_; (refine sc_c (by rfl) (C_call (by rfl) (by infer_instance) (by rfl) (by rfl) (summary_entries _ (by rfl))) (by rfl) ?_; rintro _ _ ⟨b, rfl, rfl⟩))
    | refine swl_nil ?_
    | refine sx_next ?_
    | refine sw_seq ?_
    | refine sw_region ?_
    | refine sw_block ?_
    | fail)
      have e0 : (hd ++ (ents.take 0).flatMap entN).map Num.cells = [Num.cells ⟨4, 1752397165⟩, Num.cells ⟨6, seq⟩, Num.cells ⟨4, next⟩, Num.cells ⟨1, n⟩, Num.cells ⟨1, fI⟩] := by rw [hhead]; rfl
      have hlen5 : hd.length = 5 := by rw [hhead]; rfl
      refine sw_entries b ents (by rfl) (fun i => ex (fun sv : Value => st [pt b5 (.cells #[sv] 133), vec 131 2 ((hd ++ (ents.take i).flatMap entN).map Num.cells) sv]) :: pt b (.cells #[.slice pp n c] 32) :: L) (fun _ _ => False)
        (by
          refine Ent.trans ?_ (Ent.ex_intro (.slice (some ⟨bn, 0, none⟩) 5 5))
          refine Ent.trans ?_ Ent.shut_st
          simp only [List.cons_append, List.nil_append]
          rw [e0]
          (repeat (first | exact Ent.refl _ | exact Ent.nil | (apply Ent.pick; focus ((repeat (first | exact Rem.here | apply Rem.there)); done)) | apply Ent.drop))) (fun i _ => by infer_instance) (fun i _ => by infer_instance) (by rfl) rfl ?_ ?_ (fun _ _ _ h => h.elim)
      · intro l x i hi w0 _
        have hsn : (hd ++ (ents.take (i + 1)).flatMap entN).map Num.cells = (hd ++ (ents.take i).flatMap entN).map Num.cells ++ (entN ents[i]).map Num.cells := by
          rw [List.take_succ_eq_append_getElem hi, List.flatMap_append, ← List.append_assoc, List.map_append]; simp
        have hll : ((hd ++ (ents.take i).flatMap entN).map Num.cells).length ≤ 100 := by
          rw [List.length_map, List.length_append, entsN_len, List.length_take]; omega
        have hbe := hb2 ents[i] (List.getElem_mem hi)
        have hse := hs ents[i] (List.getElem_mem hi)
        refine sw_ent (Rem.there (Rem.there Rem.here)).ent (sw_ex fun sv => sw_ent Ent.open_st ?_)
        simp only [List.cons_append, List.nil_append]
        refine sw_know (fun h H => vec_fact (Ent.own (show Ent _ [vec 131 2 ((hd ++ (ents.take i).flatMap entN).map Num.cells) sv] from by (repeat (first | exact Ent.refl _ | exact Ent.nil | (apply Ent.pick; focus ((repeat (first | exact Rem.here | apply Rem.there)); done)) | apply Ent.drop))) H)) ?_
        rintro ⟨p5, c5, rfl, hv5⟩
        generalize (hd ++ (ents.take i).flatMap entN).map Num.cells = els at *
        generalize ents[i] = e at *
        obtain ⟨kind, ino, index, sum⟩ := e
        dsimp only at hbe hse
        simp only [EntS.cells, entN, List.map_cons, List.map_nil, Num.cells] at hsn ⊢
        repeat' (first
    | refine swl_op ?_
    | (refine s1_store ?_; (refine sc_w (by rfl) (W_storeAll (by rfl) (by rfl) (by infer_instance) (by rfl) (by rfl) (by rfl)) (by rfl) ?_; rintro _ _ ⟨rfl, rfl⟩))
    | (refine s1_alloc ?_; (refine sc_w (by rfl) W_allocA (by rfl) ?_; rintro _ _ ⟨_, rfl, rfl⟩))
    | refine swl_nil ?_
    | refine sw_region ?_
    | fail)
        refine sx_begin (by focus ((repeat (first | exact Rem.here | apply Rem.there)); done)) ?_
        rename_i b7
        repeat' (first
    | refine sw_block ?_
    | fail)
        refine sw_mid (γ := Value) (fun _ => []) (fun sv => loopP l x .busy none :: markP x.D :: pt b5 (.cells #[sv] 133) :: vec 131 2 (els ++ [#[.int .i64 1, .int .u64 kind], #[.int .i64 1, .int .u64 ino], #[.int .i64 2, .int .u64 index], #[.int .i64 4, .int .u64 sum]]) sv :: pt b (.cells #[.slice pp n c] 32) :: L) (fun _ => True) ?_ ?_
        · refine sw_openL (pt b7 (.cells #[.int .i64 kind, .int .i64 ino, .int .i64 index, .int .u32 sum] 72) :: L) follows (by decide +kernel) (by (repeat (first | exact Ent.refl _ | exact Ent.nil | (apply Ent.pick; focus ((repeat (first | exact Rem.here | apply Rem.there)); done)) | apply Ent.drop))) ?_
          repeat' (first
    | (refine s1_load ?_; refine sc_r (L_load' (by rfl) (by infer_instance) (by rfl)) (by rfl) ?_)
    | (refine s1_fieldAddr ?_; refine sc_r (R_fieldAddr (by rfl)) (by rfl) ?_)
    | (refine s1_conv ?_; refine sc_r (R_conv64 (by rfl) (by omega)) (by rfl) ?_)
    | (refine swg_take 1 (by decide +kernel) (by rfl) (fun _ _ => wanted_none) ?_)
    | (refine swg_take 2 (by decide +kernel) (by rfl) (fun _ _ => wanted_none) ?_)
    | (refine swg_take 4 (by decide +kernel) (by rfl) (fun _ _ => wanted_none) ?_)
    | (refine swg_take 5 (by decide +kernel) (by rfl) (fun _ _ => wanted_none) ?_)
    | (refine swg_take 7 (by decide +kernel) (by rfl) (fun _ _ => wanted_none) ?_)
    | (refine swg_take 8 (by decide +kernel) (by rfl) (fun _ _ => wanted_none) ?_)
    | (refine swg_take 10 (by decide +kernel) (by rfl) (fun _ _ => wanted_none) ?_)
    | (refine swg_take 11 (by decide +kernel) (by rfl) (fun _ _ => wanted_none) ?_)
    | (refine swg_take 12 (by decide +kernel) (by rfl) (fun _ _ => wanted_none) ?_)
    | fail)
          refine swg_choice (rs := [0, 3]) (by decide +kernel) rfl ?_
          intro j hj
          simp only [List.mem_cons, List.not_mem_nil, or_false] at hj
          rcases hj with rfl | rfl
          · refine swc_op (by rfl) (fun _ _ => wanted_none) ?_
            repeat' (first
    | (refine s1_load ?_; refine sc_r (L_load' (by rfl) (by infer_instance) (by rfl)) (by rfl) ?_)
    | (apply And.intro; focus ((repeat (first | exact Ent.refl _ | exact Ent.nil | (apply Ent.pick; focus ((repeat (first | exact Rem.here | apply Rem.there)); done)) | apply Ent.drop)); done))
    | fail)
            refine swg_order [(3, false), (6, false), (9, false), (13, false), (14, false), (15, false), (16, false)] (by rfl) (by decide +kernel) ?_
            repeat' (first
    | (refine s1_call ?_; first | (refine sc_c (by rfl) (C_call (by rfl) (by infer_instance) (by rfl) (by rfl) (summary_num _ _ _ (wrap_u64_of (by omega)))) (by rfl) ?_; rintro _ _ ⟨rfl, rfl⟩) | (refine sc_w (by rfl) (W_appendA (by rfl) (by rfl) (by focus ((repeat (first | exact Rem.here | apply Rem.there)); done)) (by infer_instance) (sizesL_mem (by rfl)) (onesL_mem (by rfl)) (by omega)) (by rfl) ?_; rintro vv _ rfl; refine ⟨by (repeat (first | exact Ent.refl _ | exact Ent.nil | (apply Ent.pick; focus ((repeat (first | exact Rem.here | apply Rem.there)); done)) | apply Ent.drop)), ?_⟩; refine swh_know (fun h H => vec_fact H) ?_; rintro ⟨pw, cw, rfl, hw⟩))
    | (refine s1_store ?_; (refine sc_w (by rfl) (W_storeL (by rfl) (by rfl) (by infer_instance) (by rfl) (by rfl) (by rfl)) (by rfl) ?_; rintro _ _ ⟨rfl, rfl⟩))
    | (refine s1_any ?_; (refine sc_w (by rfl) (W_buildSliceV (by rfl) (by rfl) (by rfl) (by rfl) (by rfl) (by rfl) (by rfl)) (by rfl) ?_; rintro _ _ ⟨_, rfl, rfl, _, _⟩))
    | refine swh_hv (by rfl) (fun _ _ => wanted_none) ?_
    | refine swh_nil ?_
    | (apply And.intro; focus ((repeat (first | exact Ent.refl _ | exact Ent.nil | (apply Ent.pick; focus ((repeat (first | exact Rem.here | apply Rem.there)); done)) | apply Ent.drop)); done))
    | fail)
            exact sx_mid _ trivial (by exact subE.nil) (by (repeat (first | exact Ent.refl _ | exact Ent.nil | (apply Ent.pick; focus ((repeat (first | exact Rem.here | apply Rem.there)); done)) | apply Ent.drop)))
          · refine swc_op (by rfl) (fun _ _ => wanted_none) ?_
            repeat' (first
    | (refine s1_call ?_; (refine sc_c (by rfl) (C_call (by rfl) (by infer_instance) (by rfl) (by rfl) (summary_num _ _ _ (wrap_u64_of (by omega)))) (by rfl) ?_; rintro _ _ ⟨rfl, rfl⟩))
    | (apply And.intro; focus ((repeat (first | exact Ent.refl _ | exact Ent.nil | (apply Ent.pick; focus ((repeat (first | exact Rem.here | apply Rem.there)); done)) | apply Ent.drop)); done))
    | fail)
            refine swg_choice (rs := [0, 6]) (by decide +kernel) rfl ?_
            intro j hj
            simp only [List.mem_cons, List.not_mem_nil, or_false] at hj
            rcases hj with rfl | rfl
            · refine swc_op (by rfl) (fun _ _ => wanted_none) ?_
              repeat' (first
    | (refine s1_load ?_; refine sc_r (L_load' (by rfl) (by infer_instance) (by rfl)) (by rfl) ?_)
    | (apply And.intro; focus ((repeat (first | exact Ent.refl _ | exact Ent.nil | (apply Ent.pick; focus ((repeat (first | exact Rem.here | apply Rem.there)); done)) | apply Ent.drop)); done))
    | fail)
              refine swg_order [(6, false), (9, false), (13, false), (14, false), (15, false), (16, false)] (by rfl) (by decide +kernel) ?_
              repeat' (first
    | (refine s1_call ?_; first | (refine sc_c (by rfl) (C_call (by rfl) (by infer_instance) (by rfl) (by rfl) (summary_num _ _ _ (wrap_u64_of (by omega)))) (by rfl) ?_; rintro _ _ ⟨rfl, rfl⟩) | (refine sc_w (by rfl) (W_appendA (by rfl) (by rfl) (by focus ((repeat (first | exact Rem.here | apply Rem.there)); done)) (by infer_instance) (sizesL_mem (by rfl)) (onesL_mem (by rfl)) (by omega)) (by rfl) ?_; rintro vv _ rfl; refine ⟨by (repeat (first | exact Ent.refl _ | exact Ent.nil | (apply Ent.pick; focus ((repeat (first | exact Rem.here | apply Rem.there)); done)) | apply Ent.drop)), ?_⟩; refine swh_know (fun h H => vec_fact H) ?_; rintro ⟨pw, cw, rfl, hw⟩))
    | (refine s1_store ?_; (refine sc_w (by rfl) (W_storeL (by rfl) (by rfl) (by infer_instance) (by rfl) (by rfl) (by rfl)) (by rfl) ?_; rintro _ _ ⟨rfl, rfl⟩))
    | (refine s1_any ?_; (refine sc_w (by rfl) (W_buildSliceV (by rfl) (by rfl) (by rfl) (by rfl) (by rfl) (by rfl) (by rfl)) (by rfl) ?_; rintro _ _ ⟨_, rfl, rfl, _, _⟩))
    | refine swh_hv (by rfl) (fun _ _ => wanted_none) ?_
    | refine swh_nil ?_
    | (apply And.intro; focus ((repeat (first | exact Ent.refl _ | exact Ent.nil | (apply Ent.pick; focus ((repeat (first | exact Rem.here | apply Rem.there)); done)) | apply Ent.drop)); done))
    | fail)
              exact sx_mid _ trivial (by exact subE.nil) (by (repeat (first | exact Ent.refl _ | exact Ent.nil | (apply Ent.pick; focus ((repeat (first | exact Rem.here | apply Rem.there)); done)) | apply Ent.drop)))
            · refine swc_op (by rfl) (fun _ _ => wanted_none) ?_
              repeat' (first
    | (refine s1_call ?_; (refine sc_c (by rfl) (C_call (by rfl) (by infer_instance) (by rfl) (by rfl) (summary_num _ _ _ (wrap_u64_of (by omega)))) (by rfl) ?_; rintro _ _ ⟨rfl, rfl⟩))
    | (apply And.intro; focus ((repeat (first | exact Ent.refl _ | exact Ent.nil | (apply Ent.pick; focus ((repeat (first | exact Rem.here | apply Rem.there)); done)) | apply Ent.drop)); done))
    | fail)
              refine swg_choice (rs := [0, 9]) (by decide +kernel) rfl ?_
              intro j hj
              simp only [List.mem_cons, List.not_mem_nil, or_false] at hj
              rcases hj with rfl | rfl
              · refine swc_op (by rfl) (fun _ _ => wanted_none) ?_
                repeat' (first
    | (refine s1_load ?_; refine sc_r (L_load' (by rfl) (by infer_instance) (by rfl)) (by rfl) ?_)
    | (apply And.intro; focus ((repeat (first | exact Ent.refl _ | exact Ent.nil | (apply Ent.pick; focus ((repeat (first | exact Rem.here | apply Rem.there)); done)) | apply Ent.drop)); done))
    | fail)
                refine swg_order [(9, false), (13, false), (14, false), (15, false), (16, false)] (by rfl) (by decide +kernel) ?_
                repeat' (first
    | (refine s1_call ?_; first | (refine sc_c (by rfl) (C_call (by rfl) (by infer_instance) (by rfl) (by rfl) (summary_num _ _ _ (wrap_u64_of (by omega)))) (by rfl) ?_; rintro _ _ ⟨rfl, rfl⟩) | (refine sc_w (by rfl) (W_appendA (by rfl) (by rfl) (by focus ((repeat (first | exact Rem.here | apply Rem.there)); done)) (by infer_instance) (sizesL_mem (by rfl)) (onesL_mem (by rfl)) (by omega)) (by rfl) ?_; rintro vv _ rfl; refine ⟨by (repeat (first | exact Ent.refl _ | exact Ent.nil | (apply Ent.pick; focus ((repeat (first | exact Rem.here | apply Rem.there)); done)) | apply Ent.drop)), ?_⟩; refine swh_know (fun h H => vec_fact H) ?_; rintro ⟨pw, cw, rfl, hw⟩))
    | (refine s1_store ?_; (refine sc_w (by rfl) (W_storeL (by rfl) (by rfl) (by infer_instance) (by rfl) (by rfl) (by rfl)) (by rfl) ?_; rintro _ _ ⟨rfl, rfl⟩))
    | (refine s1_any ?_; (refine sc_w (by rfl) (W_buildSliceV (by rfl) (by rfl) (by rfl) (by rfl) (by rfl) (by rfl) (by rfl)) (by rfl) ?_; rintro _ _ ⟨_, rfl, rfl, _, _⟩))
    | refine swh_hv (by rfl) (fun _ _ => wanted_none) ?_
    | refine swh_nil ?_
    | (apply And.intro; focus ((repeat (first | exact Ent.refl _ | exact Ent.nil | (apply Ent.pick; focus ((repeat (first | exact Rem.here | apply Rem.there)); done)) | apply Ent.drop)); done))
    | fail)
                exact sx_mid _ trivial (by exact subE.nil) (by (repeat (first | exact Ent.refl _ | exact Ent.nil | (apply Ent.pick; focus ((repeat (first | exact Rem.here | apply Rem.there)); done)) | apply Ent.drop)))
              · refine swc_op (by rfl) (fun _ _ => wanted_none) ?_
                repeat' (first
    | (refine s1_call ?_; (refine sc_c (by rfl) (C_call (by rfl) (by infer_instance) (by rfl) (by rfl) (summary_num _ _ _ (wrap_u64_of (by omega)))) (by rfl) ?_; rintro _ _ ⟨rfl, rfl⟩))
    | (apply And.intro; focus ((repeat (first | exact Ent.refl _ | exact Ent.nil | (apply Ent.pick; focus ((repeat (first | exact Rem.here | apply Rem.there)); done)) | apply Ent.drop)); done))
    | fail)
                refine swg_choice (rs := [0, 13]) (by decide +kernel) rfl ?_
                intro j hj
                simp only [List.mem_cons, List.not_mem_nil, or_false] at hj
                rcases hj with rfl | rfl
                · refine swc_op (by rfl) (fun _ _ => wanted_none) ?_
                  repeat' (first
    | (refine s1_load ?_; refine sc_r (L_load' (by rfl) (by infer_instance) (by rfl)) (by rfl) ?_)
    | (apply And.intro; focus ((repeat (first | exact Ent.refl _ | exact Ent.nil | (apply Ent.pick; focus ((repeat (first | exact Rem.here | apply Rem.there)); done)) | apply Ent.drop)); done))
    | fail)
                  refine swg_order [(13, false), (14, false), (15, false), (16, false)] (by rfl) (by decide +kernel) ?_
                  repeat' (first
    | (refine s1_call ?_; first | (refine sc_c (by rfl) (C_call (by rfl) (by infer_instance) (by rfl) (by rfl) (summary_num _ _ _ (wrap_u64_of (by omega)))) (by rfl) ?_; rintro _ _ ⟨rfl, rfl⟩) | (refine sc_w (by rfl) (W_appendA (by rfl) (by rfl) (by focus ((repeat (first | exact Rem.here | apply Rem.there)); done)) (by infer_instance) (sizesL_mem (by rfl)) (onesL_mem (by rfl)) (by omega)) (by rfl) ?_; rintro vv _ rfl; refine ⟨by (repeat (first | exact Ent.refl _ | exact Ent.nil | (apply Ent.pick; focus ((repeat (first | exact Rem.here | apply Rem.there)); done)) | apply Ent.drop)), ?_⟩; refine swh_know (fun h H => vec_fact H) ?_; rintro ⟨pw, cw, rfl, hw⟩))
    | (refine s1_store ?_; (refine sc_w (by rfl) (W_storeL (by rfl) (by rfl) (by infer_instance) (by rfl) (by rfl) (by rfl)) (by rfl) ?_; rintro _ _ ⟨rfl, rfl⟩))
    | (refine s1_any ?_; (refine sc_w (by rfl) (W_buildSliceV (by rfl) (by rfl) (by rfl) (by rfl) (by rfl) (by rfl) (by rfl)) (by rfl) ?_; rintro _ _ ⟨_, rfl, rfl, _, _⟩))
    | refine swh_hv (by rfl) (fun _ _ => wanted_none) ?_
    | refine swh_nil ?_
    | (apply And.intro; focus ((repeat (first | exact Ent.refl _ | exact Ent.nil | (apply Ent.pick; focus ((repeat (first | exact Rem.here | apply Rem.there)); done)) | apply Ent.drop)); done))
    | fail)
                  exact sx_mid _ trivial (by exact subE.nil) (by (repeat (first | exact Ent.refl _ | exact Ent.nil | (apply Ent.pick; focus ((repeat (first | exact Rem.here | apply Rem.there)); done)) | apply Ent.drop)))
                · refine swc_op (by rfl) (fun _ _ => wanted_none) ?_
                  repeat' (first
    | (refine s1_call ?_; (refine sc_c (by rfl) (C_call (by rfl) (by infer_instance) (by rfl) (by rfl) (summary_num _ _ _ (wrap_u64_of (by omega)))) (by rfl) ?_; rintro _ _ ⟨rfl, rfl⟩))
    | (apply And.intro; focus ((repeat (first | exact Ent.refl _ | exact Ent.nil | (apply Ent.pick; focus ((repeat (first | exact Rem.here | apply Rem.there)); done)) | apply Ent.drop)); done))
    | fail)
                  refine swg_choice (rs := [0, 14]) (by decide +kernel) rfl ?_
                  intro j hj
                  simp only [List.mem_cons, List.not_mem_nil, or_false] at hj
                  rcases hj with rfl | rfl
                  · refine swc_op (by rfl) (fun _ _ => wanted_none) ?_
                    repeat' (first
    | (refine s1_load ?_; refine sc_r (L_load' (by rfl) (by infer_instance) (by rfl)) (by rfl) ?_)
    | (apply And.intro; focus ((repeat (first | exact Ent.refl _ | exact Ent.nil | (apply Ent.pick; focus ((repeat (first | exact Rem.here | apply Rem.there)); done)) | apply Ent.drop)); done))
    | fail)
                    refine swg_order [(14, false), (15, false), (16, false)] (by rfl) (by decide +kernel) ?_
                    repeat' (first
    | (refine s1_call ?_; (refine sc_w (by rfl) (W_appendA (by rfl) (by rfl) (by focus ((repeat (first | exact Rem.here | apply Rem.there)); done)) (by infer_instance) (sizesL_mem (by rfl)) (onesL_mem (by rfl)) (by omega)) (by rfl) ?_; rintro vv _ rfl; refine ⟨by (repeat (first | exact Ent.refl _ | exact Ent.nil | (apply Ent.pick; focus ((repeat (first | exact Rem.here | apply Rem.there)); done)) | apply Ent.drop)), ?_⟩; refine swh_know (fun h H => vec_fact H) ?_; rintro ⟨pw, cw, rfl, hw⟩))
    | (refine s1_store ?_; (refine sc_w (by rfl) (W_storeL (by rfl) (by rfl) (by infer_instance) (by rfl) (by rfl) (by rfl)) (by rfl) ?_; rintro _ _ ⟨rfl, rfl⟩))
    | (refine s1_any ?_; (refine sc_w (by rfl) (W_buildSliceV (by rfl) (by rfl) (by rfl) (by rfl) (by rfl) (by rfl) (by rfl)) (by rfl) ?_; rintro _ _ ⟨_, rfl, rfl, _, _⟩))
    | refine swh_hv (by rfl) (fun _ _ => wanted_none) ?_
    | refine swh_nil ?_
    | (apply And.intro; focus ((repeat (first | exact Ent.refl _ | exact Ent.nil | (apply Ent.pick; focus ((repeat (first | exact Rem.here | apply Rem.there)); done)) | apply Ent.drop)); done))
    | fail)
                    exact sx_mid _ trivial (by exact subE.nil) (by (repeat (first | exact Ent.refl _ | exact Ent.nil | (apply Ent.pick; focus ((repeat (first | exact Rem.here | apply Rem.there)); done)) | apply Ent.drop)))
                  · refine swc_op (by rfl) (fun _ _ => wanted_none) ?_
                    repeat' (first
    | (refine s1_any ?_; (refine sc_w (by rfl) (W_buildSliceV (by rfl) (by rfl) (by rfl) (by rfl) (by rfl) (by rfl) (by rfl)) (by rfl) ?_; rintro _ _ ⟨_, rfl, rfl, _, _⟩))
    | (apply And.intro; focus ((repeat (first | exact Ent.refl _ | exact Ent.nil | (apply Ent.pick; focus ((repeat (first | exact Rem.here | apply Rem.there)); done)) | apply Ent.drop)); done))
    | fail)
                    refine swg_order [(0, false), (15, false), (16, false)] (by rfl) (by decide +kernel) ?_
                    repeat' (first
    | (refine s1_load ?_; refine sc_r (L_load' (by rfl) (by infer_instance) (by rfl)) (by rfl) ?_)
    | (refine s1_call ?_; (refine sc_w (by rfl) (W_appendA (by rfl) (by rfl) (by focus ((repeat (first | exact Rem.here | apply Rem.there)); done)) (by infer_instance) (sizesL_mem (by rfl)) (onesL_mem (by rfl)) (by omega)) (by rfl) ?_; rintro vv _ rfl; refine ⟨by (repeat (first | exact Ent.refl _ | exact Ent.nil | (apply Ent.pick; focus ((repeat (first | exact Rem.here | apply Rem.there)); done)) | apply Ent.drop)), ?_⟩; refine swh_know (fun h H => vec_fact H) ?_; rintro ⟨pw, cw, rfl, hw⟩))
    | (refine s1_store ?_; (refine sc_w (by rfl) (W_storeL (by rfl) (by rfl) (by infer_instance) (by rfl) (by rfl) (by rfl)) (by rfl) ?_; rintro _ _ ⟨rfl, rfl⟩))
    | refine swh_hv (by rfl) (fun _ _ => wanted_none) ?_
    | refine swh_nil ?_
    | (apply And.intro; focus ((repeat (first | exact Ent.refl _ | exact Ent.nil | (apply Ent.pick; focus ((repeat (first | exact Rem.here | apply Rem.there)); done)) | apply Ent.drop)); done))
    | fail)
                    exact sx_mid _ trivial (by exact subE.nil) (by (repeat (first | exact Ent.refl _ | exact Ent.nil | (apply Ent.pick; focus ((repeat (first | exact Rem.here | apply Rem.there)); done)) | apply Ent.drop)))
        · intro sv' _
          repeat' (first
    | refine sx_block_normal ?_
    | fail)
          refine sx_round_on (by focus ((repeat (first | exact Rem.here | apply Rem.there)); done)) _ (.inl ⟨rfl, rfl⟩) ?_
          refine Ent.pick (by focus ((repeat (first | exact Rem.here | apply Rem.there)); done)) (Ent.pick (by focus ((repeat (first | exact Rem.here | apply Rem.there)); done)) (Ent.trans ?_ (Ent.ex_intro sv')))
          refine Ent.trans ?_ Ent.shut_st
          simp only [List.cons_append, List.nil_append]
          rw [hsn]
          (repeat (first | exact Ent.refl _ | exact Ent.nil | (apply Ent.pick; focus ((repeat (first | exact Rem.here | apply Rem.there)); done)) | apply Ent.drop))
      · intro D
        rw [List.take_of_length_le (by omega), ← hN]
        refine sx_ent (Rem.there Rem.here).ent (sx_ex fun sv => sx_ent Ent.open_st ?_)
        simp only [List.cons_append, List.nil_append]
        refine sx_know (fun h H => vec_fact (Ent.own (show Ent _ [vec 131 2 (nums.map Num.cells) sv] from by (repeat (first | exact Ent.refl _ | exact Ent.nil | (apply Ent.pick; focus ((repeat (first | exact Rem.here | apply Rem.there)); done)) | apply Ent.drop))) H)) ?_
        rintro ⟨p5, c5, rfl, hv5⟩
        have hf1 : Fact' (((packF nums).map u8c).length = (packF nums).length) := ⟨by simp⟩
        repeat' (first
    | refine swl_op ?_
    | (refine s1_move ?_; refine sc_r (R_move (by rfl)) (by rfl) ?_)
    | (refine s1_load ?_; refine sc_r (L_load' (by rfl) (by infer_instance) (by rfl)) (by rfl) ?_)
    | (refine s1_assign ?_; refine sc_r (R_assign (by rfl)) (by rfl) ?_)
    | (refine s1_bin ?_; refine sc_r (R_neq (by rfl) (by rfl)) (by rfl) ?_)
    | (refine s1_call ?_; first | (refine sc_c (by rfl) (C_call (by rfl) (by infer_instance) (by rfl) (by rfl) (pack_Pack nums hok (by omega) (by infer_instance))) (by rfl) ?_; rintro _ _ ⟨vc, rfl, rfl⟩; refine swl_know (fun h H => vec_fact H) ?_; rintro ⟨pc, cc, rfl, hf⟩; rw [List.length_map] at hf ⊢; obtain ⟨b9, o9, rfl⟩ := hf.ptr (by omega)) | (refine sc_c (by rfl) (C_call (by rfl) (by infer_instance) (by rfl) (by rfl) (crc_Seal (packF nums) (by omega) (by infer_instance))) (by rfl) ?_; rintro _ _ ⟨vc2, rfl, rfl⟩))
    | (refine s1_any ?_; refine sc_r (R_extract (by rfl) (by rfl)) (by rfl) ?_)
    | refine swl_nil ?_
    | refine sx_next ?_
    | refine sw_seq ?_
    | refine sw_region ?_
    | refine sx_block_normal ?_
    | refine sw_cond_false (by rfl) ?_
    | refine sw_ret ?_
    | refine sw_skip ?_
    | fail)
        exact sx_ret_m [D] (Rems.cons (by focus ((repeat (first | exact Rem.here | apply Rem.there)); done)) Rems.nil) (res2 rfl (ResOne.tmp rfl) (ResOne.tmp rfl)) _ ⟨_, rfl, rfl⟩ (by (repeat (first | exact Ent.refl _ | exact Ent.nil | (apply Ent.pick; focus ((repeat (first | exact Rem.here | apply Rem.there)); done)) | apply Ent.drop))) (.inr rfl)
  · repeat' (first
    | refine swl_op ?_
    | (refine s1_load ?_; first | refine sc_r (L_load' (by rfl) (by infer_instance) (by rfl)) (by rfl) ?_ | refine sc_r (L_load_all (by rfl) (by infer_instance) (by rfl)) (by rfl) ?_)
    | (refine s1_fieldAddr ?_; refine sc_r (R_fieldAddr (by rfl)) (by rfl) ?_)
    | (refine s1_assign ?_; refine sc_r (R_assign (by rfl)) (by rfl) ?_)
    | (refine s1_call ?_; (refine sc_c (by rfl) (C_call (by rfl) (by infer_instance) (by rfl) (by rfl) (hmay _ _ _ _ (by infer_instance))) (by rfl) ?_; rintro _ _ ⟨rfl, rfl⟩))
    | (refine s1_box ?_; (refine sc_w (by rfl) (W_boxA (by rfl)) (by rfl) ?_; rintro _ _ ⟨_, rfl, rfl⟩))
    | (refine s1_any ?_; refine sc_r (R_not (by rfl)) (by rfl) ?_)
    | refine swl_nil ?_
    | refine sx_next ?_
    | refine sw_seq ?_
    | refine sw_region ?_
    | refine sw_cond_true (by rfl) ?_
    | refine sw_cond_false (by rfl) ?_
    | refine sw_skip ?_
    | fail)
    rename_i b1
    refine sw_sub (E := [(1, .pointer (some ⟨b1, 0, none⟩)), (4, .int .i64 fI)]) (subE.cons rfl (subE.cons (by rw [hfI]; rfl) subE.nil)) ?_
    clear hfI hmay
    refine sw_mid (γ := Nat × Nat) (fun g => [(1, .pointer (some ⟨b1, 0, none⟩)), (5, .pointer (some ⟨g.1, 0, none⟩))])
      (fun g => pt g.1 (.cells #[.slice (some ⟨g.2, 0, none⟩) 5 5] 133) :: vec 131 2 [Num.cells ⟨4, 1752397165⟩, Num.cells ⟨6, seq⟩, Num.cells ⟨4, next⟩, Num.cells ⟨1, n⟩, Num.cells ⟨1, fI⟩] (.slice (some ⟨g.2, 0, none⟩) 5 5) :: pt b1 (.cells #[.int .i64 seq, .int .i64 next, .bool true, .slice pp n c] 34) :: L)
      (fun _ => True) ?_ ?_
    · refine sw_openL (pt b1 (.cells #[.int .i64 seq, .int .i64 next, .bool true, .slice pp n c] 34) :: L) follows (by decide +kernel) (by (repeat (first | exact Ent.refl _ | exact Ent.nil | (apply Ent.pick; focus ((repeat (first | exact Rem.here | apply Rem.there)); done)) | apply Ent.drop))) ?_
      repeat' (first
    | (refine s1_move ?_; refine sc_r (R_move (by rfl)) (by rfl) ?_)
    | (refine s1_load ?_; refine sc_r (L_load' (by rfl) (by infer_instance) (by rfl)) (by rfl) ?_)
    | (refine s1_fieldAddr ?_; refine sc_r (R_fieldAddr (by rfl)) (by rfl) ?_)
    | (refine s1_call ?_; refine sc_r (R_len (by rfl)) (by rfl) ?_)
    | (refine swg_take 1 (by decide +kernel) (by rfl) (fun _ _ => wanted_none) ?_)
    | (refine swg_take 2 (by decide +kernel) (by rfl) (fun _ _ => wanted_none) ?_)
    | (refine swg_take 4 (by decide +kernel) (by rfl) (fun _ _ => wanted_none) ?_)
    | (refine swg_take 5 (by decide +kernel) (by rfl) (fun _ _ => wanted_none) ?_)
    | (refine swg_take 7 (by decide +kernel) (by rfl) (fun _ _ => wanted_none) ?_)
    | (refine swg_take 8 (by decide +kernel) (by rfl) (fun _ _ => wanted_none) ?_)
    | (refine swg_take 9 (by decide +kernel) (by rfl) (fun _ _ => wanted_none) ?_)
    | (refine swg_take 11 (by decide +kernel) (by rfl) (fun _ _ => wanted_none) ?_)
    | fail)
      refine swg_choice (rs := [0, 14]) (by decide +kernel) rfl ?_
      intro j hj
      simp only [List.mem_cons, List.not_mem_nil, or_false] at hj
      rcases hj with rfl | rfl
      · refine swc_op (by rfl) (fun _ _ => wanted_none) ?_
        repeat' (first
    | (refine s1_call ?_; (refine sc_c (by rfl) (C_call (by rfl) (by infer_instance) (by rfl) (by rfl) (summary_num _ _ _ (wrap_u64_of (by omega)))) (by rfl) ?_; rintro _ _ ⟨rfl, rfl⟩))
    | (apply And.intro; focus ((repeat (first | exact Ent.refl _ | exact Ent.nil | (apply Ent.pick; focus ((repeat (first | exact Rem.here | apply Rem.there)); done)) | apply Ent.drop)); done))
    | fail)
        refine swg_choice (rs := [3, 14]) (by decide +kernel) rfl ?_
        intro j hj
        simp only [List.mem_cons, List.not_mem_nil, or_false] at hj
        rcases hj with rfl | rfl
        · refine swc_op (by rfl) (fun _ _ => wanted_none) ?_
          repeat' (first
    | (refine s1_call ?_; (refine sc_c (by rfl) (C_call (by rfl) (by infer_instance) (by rfl) (by rfl) (summary_num _ _ _ (wrap_u64_of (by omega)))) (by rfl) ?_; rintro _ _ ⟨rfl, rfl⟩))
    | (apply And.intro; focus ((repeat (first | exact Ent.refl _ | exact Ent.nil | (apply Ent.pick; focus ((repeat (first | exact Rem.here | apply Rem.there)); done)) | apply Ent.drop)); done))
    | fail)
          refine swg_choice (rs := [6, 14]) (by decide +kernel) rfl ?_
          intro j hj
          simp only [List.mem_cons, List.not_mem_nil, or_false] at hj
          rcases hj with rfl | rfl
          · refine swc_op (by rfl) (fun _ _ => wanted_none) ?_
            repeat' (first
    | (refine s1_call ?_; (refine sc_c (by rfl) (C_call (by rfl) (by infer_instance) (by rfl) (by rfl) (summary_num _ _ _ (wrap_u64_of (by omega)))) (by rfl) ?_; rintro _ _ ⟨rfl, rfl⟩))
    | (apply And.intro; focus ((repeat (first | exact Ent.refl _ | exact Ent.nil | (apply Ent.pick; focus ((repeat (first | exact Rem.here | apply Rem.there)); done)) | apply Ent.drop)); done))
    | fail)
            refine swg_choice (rs := [10, 14]) (by decide +kernel) rfl ?_
            intro j hj
            simp only [List.mem_cons, List.not_mem_nil, or_false] at hj
            rcases hj with rfl | rfl
            · refine swc_op (by rfl) (fun _ _ => wanted_none) ?_
              repeat' (first
    | (refine s1_call ?_; (refine sc_c (by rfl) (C_call (by rfl) (by infer_instance) (by rfl) (by rfl) (summary_num _ _ _ (wrap_u64_of (by omega)))) (by rfl) ?_; rintro _ _ ⟨rfl, rfl⟩))
    | (apply And.intro; focus ((repeat (first | exact Ent.refl _ | exact Ent.nil | (apply Ent.pick; focus ((repeat (first | exact Rem.here | apply Rem.there)); done)) | apply Ent.drop)); done))
    | fail)
              refine swg_choice (rs := [12, 14]) (by decide +kernel) rfl ?_
              intro j hj
              simp only [List.mem_cons, List.not_mem_nil, or_false] at hj
              rcases hj with rfl | rfl
              · refine swc_op (by rfl) (fun _ _ => wanted_none) ?_
                repeat' (first
    | (refine s1_call ?_; (refine sc_c (by rfl) (C_call (by rfl) (by infer_instance) (by rfl) (by rfl) (summary_num _ _ _ (wrap_u64_of (by omega)))) (by rfl) ?_; rintro _ _ ⟨rfl, rfl⟩))
    | (apply And.intro; focus ((repeat (first | exact Ent.refl _ | exact Ent.nil | (apply Ent.pick; focus ((repeat (first | exact Rem.here | apply Rem.there)); done)) | apply Ent.drop)); done))
    | fail)
                refine swg_choice (rs := [13, 14]) (by decide +kernel) rfl ?_
                intro j hj
                simp only [List.mem_cons, List.not_mem_nil, or_false] at hj
                rcases hj with rfl | rfl
                · refine swc_op (by rfl) (fun _ _ => wanted_none) ?_
                  repeat' (first
    | (refine s1_any ?_; (refine sc_w (by rfl) (W_buildSliceV (by rfl) (by rfl) (by rfl) (by rfl) (by rfl) (by rfl) (by rfl)) (by rfl) ?_; rintro _ _ ⟨_, rfl, rfl, _, _⟩))
    | (apply And.intro; focus ((repeat (first | exact Ent.refl _ | exact Ent.nil | (apply Ent.pick; focus ((repeat (first | exact Rem.here | apply Rem.there)); done)) | apply Ent.drop)); done))
    | fail)
                  refine swg_order [(14, false), (15, false)] (by rfl) (by decide +kernel) ?_
                  repeat' (first
    | (refine s1_store ?_; (refine sc_w (by rfl) (W_storeL (by rfl) (by rfl) (by infer_instance) (by rfl) (by rfl) (by rfl)) (by rfl) ?_; rintro _ _ ⟨rfl, rfl⟩))
    | (refine s1_alloc ?_; (refine sc_w (by rfl) (W_alloc1 (by rfl)) (by rfl) ?_; rintro _ _ ⟨_, rfl, rfl⟩))
    | refine swh_hv (by rfl) (fun _ _ => wanted_none) ?_
    | refine swh_nil ?_
    | (apply And.intro; focus ((repeat (first | exact Ent.refl _ | exact Ent.nil | (apply Ent.pick; focus ((repeat (first | exact Rem.here | apply Rem.there)); done)) | apply Ent.drop)); done))
    | fail)
                  exact sx_mid (_, _) trivial (subE.cons rfl (subE.cons rfl subE.nil)) (by (repeat (first | exact Ent.refl _ | exact Ent.nil | (apply Ent.pick; focus ((repeat (first | exact Rem.here | apply Rem.there)); done)) | apply Ent.drop)))
                · refine swc_op (by rfl) (fun _ _ => wanted_none) ?_
                  repeat' (first
    | (refine s1_alloc ?_; (refine sc_w (by rfl) (W_alloc1 (by rfl)) (by rfl) ?_; rintro _ _ ⟨_, rfl, rfl⟩))
    | (apply And.intro; focus ((repeat (first | exact Ent.refl _ | exact Ent.nil | (apply Ent.pick; focus ((repeat (first | exact Rem.here | apply Rem.there)); done)) | apply Ent.drop)); done))
    | fail)
                  refine swg_order [(13, false), (15, false)] (by rfl) (by decide +kernel) ?_
                  repeat' (first
    | (refine s1_store ?_; (refine sc_w (by rfl) (W_storeL (by rfl) (by rfl) (by infer_instance) (by rfl) (by rfl) (by rfl)) (by rfl) ?_; rintro _ _ ⟨rfl, rfl⟩))
    | (refine s1_any ?_; (refine sc_w (by rfl) (W_buildSliceV (by rfl) (by rfl) (by rfl) (by rfl) (by rfl) (by rfl) (by rfl)) (by rfl) ?_; rintro _ _ ⟨_, rfl, rfl, _, _⟩))
    | refine swh_hv (by rfl) (fun _ _ => wanted_none) ?_
    | refine swh_nil ?_
    | (apply And.intro; focus ((repeat (first | exact Ent.refl _ | exact Ent.nil | (apply Ent.pick; focus ((repeat (first | exact Rem.here | apply Rem.there)); done)) | apply Ent.drop)); done))
    | fail)
                  exact sx_mid (_, _) trivial (subE.cons rfl (subE.cons rfl subE.nil)) (by (repeat (first | exact Ent.refl _ | exact Ent.nil | (apply Ent.pick; focus ((repeat (first | exact Rem.here | apply Rem.there)); done)) | apply Ent.drop)))
              · refine swc_op (by rfl) (fun _ _ => wanted_none) ?_
                repeat' (first
    | (refine s1_alloc ?_; (refine sc_w (by rfl) (W_alloc1 (by rfl)) (by rfl) ?_; rintro _ _ ⟨_, rfl, rfl⟩))
    | (apply And.intro; focus ((repeat (first | exact Ent.refl _ | exact Ent.nil | (apply Ent.pick; focus ((repeat (first | exact Rem.here | apply Rem.there)); done)) | apply Ent.drop)); done))
    | fail)
                refine swg_order [(12, false), (13, false), (15, false)] (by rfl) (by decide +kernel) ?_
                repeat' (first
    | (refine s1_call ?_; (refine sc_c (by rfl) (C_call (by rfl) (by infer_instance) (by rfl) (by rfl) (summary_num _ _ _ (wrap_u64_of (by omega)))) (by rfl) ?_; rintro _ _ ⟨rfl, rfl⟩))
    | (refine s1_store ?_; (refine sc_w (by rfl) (W_storeL (by rfl) (by rfl) (by infer_instance) (by rfl) (by rfl) (by rfl)) (by rfl) ?_; rintro _ _ ⟨rfl, rfl⟩))
    | (refine s1_any ?_; (refine sc_w (by rfl) (W_buildSliceV (by rfl) (by rfl) (by rfl) (by rfl) (by rfl) (by rfl) (by rfl)) (by rfl) ?_; rintro _ _ ⟨_, rfl, rfl, _, _⟩))
    | refine swh_hv (by rfl) (fun _ _ => wanted_none) ?_
    | refine swh_nil ?_
    | (apply And.intro; focus ((repeat (first | exact Ent.refl _ | exact Ent.nil | (apply Ent.pick; focus ((repeat (first | exact Rem.here | apply Rem.there)); done)) | apply Ent.drop)); done))
    | fail)
                exact sx_mid (_, _) trivial (subE.cons rfl (subE.cons rfl subE.nil)) (by (repeat (first | exact Ent.refl _ | exact Ent.nil | (apply Ent.pick; focus ((repeat (first | exact Rem.here | apply Rem.there)); done)) | apply Ent.drop)))
            · refine swc_op (by rfl) (fun _ _ => wanted_none) ?_
              repeat' (first
    | (refine s1_alloc ?_; (refine sc_w (by rfl) (W_alloc1 (by rfl)) (by rfl) ?_; rintro _ _ ⟨_, rfl, rfl⟩))
    | (apply And.intro; focus ((repeat (first | exact Ent.refl _ | exact Ent.nil | (apply Ent.pick; focus ((repeat (first | exact Rem.here | apply Rem.there)); done)) | apply Ent.drop)); done))
    | fail)
              refine swg_order [(10, false), (12, false), (13, false), (15, false)] (by rfl) (by decide +kernel) ?_
              repeat' (first
    | (refine s1_call ?_; (refine sc_c (by rfl) (C_call (by rfl) (by infer_instance) (by rfl) (by rfl) (summary_num _ _ _ (wrap_u64_of (by omega)))) (by rfl) ?_; rintro _ _ ⟨rfl, rfl⟩))
    | (refine s1_store ?_; (refine sc_w (by rfl) (W_storeL (by rfl) (by rfl) (by infer_instance) (by rfl) (by rfl) (by rfl)) (by rfl) ?_; rintro _ _ ⟨rfl, rfl⟩))
    | (refine s1_any ?_; (refine sc_w (by rfl) (W_buildSliceV (by rfl) (by rfl) (by rfl) (by rfl) (by rfl) (by rfl) (by rfl)) (by rfl) ?_; rintro _ _ ⟨_, rfl, rfl, _, _⟩))
    | refine swh_hv (by rfl) (fun _ _ => wanted_none) ?_
    | refine swh_nil ?_
    | (apply And.intro; focus ((repeat (first | exact Ent.refl _ | exact Ent.nil | (apply Ent.pick; focus ((repeat (first | exact Rem.here | apply Rem.there)); done)) | apply Ent.drop)); done))
    | fail)
              exact sx_mid (_, _) trivial (subE.cons rfl (subE.cons rfl subE.nil)) (by (repeat (first | exact Ent.refl _ | exact Ent.nil | (apply Ent.pick; focus ((repeat (first | exact Rem.here | apply Rem.there)); done)) | apply Ent.drop)))
          · refine swc_op (by rfl) (fun _ _ => wanted_none) ?_
            repeat' (first
    | (refine s1_alloc ?_; (refine sc_w (by rfl) (W_alloc1 (by rfl)) (by rfl) ?_; rintro _ _ ⟨_, rfl, rfl⟩))
    | (apply And.intro; focus ((repeat (first | exact Ent.refl _ | exact Ent.nil | (apply Ent.pick; focus ((repeat (first | exact Rem.here | apply Rem.there)); done)) | apply Ent.drop)); done))
    | fail)
            refine swg_order [(6, false), (10, false), (12, false), (13, false), (15, false)] (by rfl) (by decide +kernel) ?_
            repeat' (first
    | (refine s1_call ?_; (refine sc_c (by rfl) (C_call (by rfl) (by infer_instance) (by rfl) (by rfl) (summary_num _ _ _ (wrap_u64_of (by omega)))) (by rfl) ?_; rintro _ _ ⟨rfl, rfl⟩))
    | (refine s1_store ?_; (refine sc_w (by rfl) (W_storeL (by rfl) (by rfl) (by infer_instance) (by rfl) (by rfl) (by rfl)) (by rfl) ?_; rintro _ _ ⟨rfl, rfl⟩))
    | (refine s1_any ?_; (refine sc_w (by rfl) (W_buildSliceV (by rfl) (by rfl) (by rfl) (by rfl) (by rfl) (by rfl) (by rfl)) (by rfl) ?_; rintro _ _ ⟨_, rfl, rfl, _, _⟩))
    | refine swh_hv (by rfl) (fun _ _ => wanted_none) ?_
    | refine swh_nil ?_
    | (apply And.intro; focus ((repeat (first | exact Ent.refl _ | exact Ent.nil | (apply Ent.pick; focus ((repeat (first | exact Rem.here | apply Rem.there)); done)) | apply Ent.drop)); done))
    | fail)
            exact sx_mid (_, _) trivial (subE.cons rfl (subE.cons rfl subE.nil)) (by (repeat (first | exact Ent.refl _ | exact Ent.nil | (apply Ent.pick; focus ((repeat (first | exact Rem.here | apply Rem.there)); done)) | apply Ent.drop)))
        · refine swc_op (by rfl) (fun _ _ => wanted_none) ?_
          repeat' (first
    | (refine s1_alloc ?_; (refine sc_w (by rfl) (W_alloc1 (by rfl)) (by rfl) ?_; rintro _ _ ⟨_, rfl, rfl⟩))
    | (apply And.intro; focus ((repeat (first | exact Ent.refl _ | exact Ent.nil | (apply Ent.pick; focus ((repeat (first | exact Rem.here | apply Rem.there)); done)) | apply Ent.drop)); done))
    | fail)
          refine swg_order [(3, false), (6, false), (10, false), (12, false), (13, false), (15, false)] (by rfl) (by decide +kernel) ?_
          repeat' (first
    | (refine s1_call ?_; (refine sc_c (by rfl) (C_call (by rfl) (by infer_instance) (by rfl) (by rfl) (summary_num _ _ _ (wrap_u64_of (by omega)))) (by rfl) ?_; rintro _ _ ⟨rfl, rfl⟩))
    | (refine s1_store ?_; (refine sc_w (by rfl) (W_storeL (by rfl) (by rfl) (by infer_instance) (by rfl) (by rfl) (by rfl)) (by rfl) ?_; rintro _ _ ⟨rfl, rfl⟩))
    | (refine s1_any ?_; (refine sc_w (by rfl) (W_buildSliceV (by rfl) (by rfl) (by rfl) (by rfl) (by rfl) (by rfl) (by rfl)) (by rfl) ?_; rintro _ _ ⟨_, rfl, rfl, _, _⟩))
    | refine swh_hv (by rfl) (fun _ _ => wanted_none) ?_
    | refine swh_nil ?_
    | (apply And.intro; focus ((repeat (first | exact Ent.refl _ | exact Ent.nil | (apply Ent.pick; focus ((repeat (first | exact Rem.here | apply Rem.there)); done)) | apply Ent.drop)); done))
    | fail)
          exact sx_mid (_, _) trivial (subE.cons rfl (subE.cons rfl subE.nil)) (by (repeat (first | exact Ent.refl _ | exact Ent.nil | (apply Ent.pick; focus ((repeat (first | exact Rem.here | apply Rem.there)); done)) | apply Ent.drop)))
      · refine swc_op (by rfl) (fun _ _ => wanted_none) ?_
        repeat' (first
    | (refine s1_alloc ?_; (refine sc_w (by rfl) (W_alloc1 (by rfl)) (by rfl) ?_; rintro _ _ ⟨_, rfl, rfl⟩))
    | (apply And.intro; focus ((repeat (first | exact Ent.refl _ | exact Ent.nil | (apply Ent.pick; focus ((repeat (first | exact Rem.here | apply Rem.there)); done)) | apply Ent.drop)); done))
    | fail)
        refine swg_order [(0, false), (3, false), (6, false), (10, false), (12, false), (13, false), (15, false)] (by rfl) (by decide +kernel) ?_
        repeat' (first
    | (refine s1_call ?_; (refine sc_c (by rfl) (C_call (by rfl) (by infer_instance) (by rfl) (by rfl) (summary_num _ _ _ (wrap_u64_of (by omega)))) (by rfl) ?_; rintro _ _ ⟨rfl, rfl⟩))
    | (refine s1_store ?_; (refine sc_w (by rfl) (W_storeL (by rfl) (by rfl) (by infer_instance) (by rfl) (by rfl) (by rfl)) (by rfl) ?_; rintro _ _ ⟨rfl, rfl⟩))
    | (refine s1_any ?_; (refine sc_w (by rfl) (W_buildSliceV (by rfl) (by rfl) (by rfl) (by rfl) (by rfl) (by rfl) (by rfl)) (by rfl) ?_; rintro _ _ ⟨_, rfl, rfl, _, _⟩))
    | refine swh_hv (by rfl) (fun _ _ => wanted_none) ?_
    | refine swh_nil ?_
    | (apply And.intro; focus ((repeat (first | exact Ent.refl _ | exact Ent.nil | (apply Ent.pick; focus ((repeat (first | exact Rem.here | apply Rem.there)); done)) | apply Ent.drop)); done))
    | fail)
        exact sx_mid (_, _) trivial (subE.cons rfl (subE.cons rfl subE.nil)) (by (repeat (first | exact Ent.refl _ | exact Ent.nil | (apply Ent.pick; focus ((repeat (first | exact Rem.here | apply Rem.there)); done)) | apply Ent.drop)))
    · rintro ⟨b5, bn⟩ _
      dsimp only
      repeat' (first
    | refine swl_op ?_
    | (refine s1_load ?_; refine sc_r (L_load' (by rfl) (by infer_instance) (by rfl)) (by rfl) ?_)
    | (refine s1_fieldAddr ?_; refine sc_r (R_fieldAddr (by rfl)) (by rfl) ?_)
    | (refine s1_call ?_; (refine sc_c (by rfl) (C_call (by rfl) (by infer_instance) (by rfl) (by rfl) (summary_entries _ (by rfl))) (by rfl) ?_; rintro _ _ ⟨b, rfl, rfl⟩))
    | refine swl_nil ?_
    | refine sx_next ?_
    | refine sw_seq ?_
    | refine sw_region ?_
    | refine sw_block ?_
    | fail)
      have e0 : (hd ++ (ents.take 0).flatMap entN).map Num.cells = [Num.cells ⟨4, 1752397165⟩, Num.cells ⟨6, seq⟩, Num.cells ⟨4, next⟩, Num.cells ⟨1, n⟩, Num.cells ⟨1, fI⟩] := by rw [hhead]; rfl
      have hlen5 : hd.length = 5 := by rw [hhead]; rfl
      refine sw_entries b ents (by rfl) (fun i => ex (fun sv : Value => st [pt b5 (.cells #[sv] 133), vec 131 2 ((hd ++ (ents.take i).flatMap entN).map Num.cells) sv]) :: pt b (.cells #[.slice pp n c] 32) :: L) (fun _ _ => False)
        (by
          refine Ent.trans ?_ (Ent.ex_intro (.slice (some ⟨bn, 0, none⟩) 5 5))
          refine Ent.trans ?_ Ent.shut_st
          simp only [List.cons_append, List.nil_append]
          rw [e0]
          (repeat (first | exact Ent.refl _ | exact Ent.nil | (apply Ent.pick; focus ((repeat (first | exact Rem.here | apply Rem.there)); done)) | apply Ent.drop))) (fun i _ => by infer_instance) (fun i _ => by infer_instance) (by rfl) rfl ?_ ?_ (fun _ _ _ h => h.elim)
      · intro l x i hi w0 _
        have hsn : (hd ++ (ents.take (i + 1)).flatMap entN).map Num.cells = (hd ++ (ents.take i).flatMap entN).map Num.cells ++ (entN ents[i]).map Num.cells := by
          rw [List.take_succ_eq_append_getElem hi, List.flatMap_append, ← List.append_assoc, List.map_append]; simp
        have hll : ((hd ++ (ents.take i).flatMap entN).map Num.cells).length ≤ 100 := by
          rw [List.length_map, List.length_append, entsN_len, List.length_take]; omega
        have hbe := hb2 ents[i] (List.getElem_mem hi)
        have hse := hs ents[i] (List.getElem_mem hi)
        refine sw_ent (Rem.there (Rem.there Rem.here)).ent (sw_ex fun sv => sw_ent Ent.open_st ?_)
        simp only [List.cons_append, List.nil_append]
        refine sw_know (fun h H => vec_fact (Ent.own (show Ent _ [vec 131 2 ((hd ++ (ents.take i).flatMap entN).map Num.cells) sv] from by (repeat (first | exact Ent.refl _ | exact Ent.nil | (apply Ent.pick; focus ((repeat (first | exact Rem.here | apply Rem.there)); done)) | apply Ent.drop))) H)) ?_
        rintro ⟨p5, c5, rfl, hv5⟩
        generalize (hd ++ (ents.take i).flatMap entN).map Num.cells = els at *
        generalize ents[i] = e at *
        obtain ⟨kind, ino, index, sum⟩ := e
        dsimp only at hbe hse
        simp only [EntS.cells, entN, List.map_cons, List.map_nil, Num.cells] at hsn ⊢
        repeat' (first
    | refine swl_op ?_
    | (refine s1_store ?_; (refine sc_w (by rfl) (W_storeAll (by rfl) (by rfl) (by infer_instance) (by rfl) (by rfl) (by rfl)) (by rfl) ?_; rintro _ _ ⟨rfl, rfl⟩))
    | (refine s1_alloc ?_; (refine sc_w (by rfl) W_allocA (by rfl) ?_; rintro _ _ ⟨_, rfl, rfl⟩))
    | refine swl_nil ?_
    | refine sw_region ?_
    | fail)
        refine sx_begin (by focus ((repeat (first | exact Rem.here | apply Rem.there)); done)) ?_
        rename_i b7
        repeat' (first
    | refine sw_block ?_
    | fail)
        refine sw_mid (γ := Value) (fun _ => []) (fun sv => loopP l x .busy none :: markP x.D :: pt b5 (.cells #[sv] 133) :: vec 131 2 (els ++ [#[.int .i64 1, .int .u64 kind], #[.int .i64 1, .int .u64 ino], #[.int .i64 2, .int .u64 index], #[.int .i64 4, .int .u64 sum]]) sv :: pt b (.cells #[.slice pp n c] 32) :: L) (fun _ => True) ?_ ?_
        · refine sw_openL (pt b7 (.cells #[.int .i64 kind, .int .i64 ino, .int .i64 index, .int .u32 sum] 72) :: L) follows (by decide +kernel) (by (repeat (first | exact Ent.refl _ | exact Ent.nil | (apply Ent.pick; focus ((repeat (first | exact Rem.here | apply Rem.there)); done)) | apply Ent.drop))) ?_
          repeat' (first
    | (refine s1_load ?_; refine sc_r (L_load' (by rfl) (by infer_instance) (by rfl)) (by rfl) ?_)
    | (refine s1_fieldAddr ?_; refine sc_r (R_fieldAddr (by rfl)) (by rfl) ?_)
    | (refine s1_conv ?_; refine sc_r (R_conv64 (by rfl) (by omega)) (by rfl) ?_)
    | (refine swg_take 1 (by decide +kernel) (by rfl) (fun _ _ => wanted_none) ?_)
    | (refine swg_take 2 (by decide +kernel) (by rfl) (fun _ _ => wanted_none) ?_)
    | (refine swg_take 4 (by decide +kernel) (by rfl) (fun _ _ => wanted_none) ?_)
    | (refine swg_take 5 (by decide +kernel) (by rfl) (fun _ _ => wanted_none) ?_)
    | (refine swg_take 7 (by decide +kernel) (by rfl) (fun _ _ => wanted_none) ?_)
    | (refine swg_take 8 (by decide +kernel) (by rfl) (fun _ _ => wanted_none) ?_)
    | (refine swg_take 10 (by decide +kernel) (by rfl) (fun _ _ => wanted_none) ?_)
    | (refine swg_take 11 (by decide +kernel) (by rfl) (fun _ _ => wanted_none) ?_)
    | (refine swg_take 12 (by decide +kernel) (by rfl) (fun _ _ => wanted_none) ?_)
    | fail)
          refine swg_choice (rs := [0, 3]) (by decide +kernel) rfl ?_
          intro j hj
          simp only [List.mem_cons, List.not_mem_nil, or_false] at hj
          rcases hj with rfl | rfl
          · refine swc_op (by rfl) (fun _ _ => wanted_none) ?_
            repeat' (first
    | (refine s1_load ?_; refine sc_r (L_load' (by rfl) (by infer_instance) (by rfl)) (by rfl) ?_)
    | (apply And.intro; focus ((repeat (first | exact Ent.refl _ | exact Ent.nil | (apply Ent.pick; focus ((repeat (first | exact Rem.here | apply Rem.there)); done)) | apply Ent.drop)); done))
    | fail)
            refine swg_order [(3, false), (6, false), (9, false), (13, false), (14, false), (15, false), (16, false)] (by rfl) (by decide +kernel) ?_
            repeat' (first
    | (refine s1_call ?_; first | (refine sc_c (by rfl) (C_call (by rfl) (by infer_instance) (by rfl) (by rfl) (summary_num _ _ _ (wrap_u64_of (by omega)))) (by rfl) ?_; rintro _ _ ⟨rfl, rfl⟩) | (refine sc_w (by rfl) (W_appendA (by rfl) (by rfl) (by focus ((repeat (first | exact Rem.here | apply Rem.there)); done)) (by infer_instance) (sizesL_mem (by rfl)) (onesL_mem (by rfl)) (by omega)) (by rfl) ?_; rintro vv _ rfl; refine ⟨by (repeat (first | exact Ent.refl _ | exact Ent.nil | (apply Ent.pick; focus ((repeat (first | exact Rem.here | apply Rem.there)); done)) | apply Ent.drop)), ?_⟩; refine swh_know (fun h H => vec_fact H) ?_; rintro ⟨pw, cw, rfl, hw⟩))
    | (refine s1_store ?_; (refine sc_w (by rfl) (W_storeL (by rfl) (by rfl) (by infer_instance) (by rfl) (by rfl) (by rfl)) (by rfl) ?_; rintro _ _ ⟨rfl, rfl⟩))
    | (refine s1_any ?_; (refine sc_w (by rfl) (W_buildSliceV (by rfl) (by rfl) (by rfl) (by rfl) (by rfl) (by rfl) (by rfl)) (by rfl) ?_; rintro _ _ ⟨_, rfl, rfl, _, _⟩))
    | refine swh_hv (by rfl) (fun _ _ => wanted_none) ?_
    | refine swh_nil ?_
    | (apply And.intro; focus ((repeat (first | exact Ent.refl _ | exact Ent.nil | (apply Ent.pick; focus ((repeat (first | exact Rem.here | apply Rem.there)); done)) | apply Ent.drop)); done))
    | fail)
            exact sx_mid _ trivial (by exact subE.nil) (by (repeat (first | exact Ent.refl _ | exact Ent.nil | (apply Ent.pick; focus ((repeat (first | exact Rem.here | apply Rem.there)); done)) | apply Ent.drop)))
          · refine swc_op (by rfl) (fun _ _ => wanted_none) ?_
            repeat' (first
    | (refine s1_call ?_; (refine sc_c (by rfl) (C_call (by rfl) (by infer_instance) (by rfl) (by rfl) (summary_num _ _ _ (wrap_u64_of (by omega)))) (by rfl) ?_; rintro _ _ ⟨rfl, rfl⟩))
    | (apply And.intro; focus ((repeat (first | exact Ent.refl _ | exact Ent.nil | (apply Ent.pick; focus ((repeat (first | exact Rem.here | apply Rem.there)); done)) | apply Ent.drop)); done))
    | fail)
            refine swg_choice (rs := [0, 6]) (by decide +kernel) rfl ?_
            intro j hj
            simp only [List.mem_cons, List.not_mem_nil, or_false] at hj
            rcases hj with rfl | rfl
            · refine swc_op (by rfl) (fun _ _ => wanted_none) ?_
              repeat' (first
    | (refine s1_load ?_; refine sc_r (L_load' (by rfl) (by infer_instance) (by rfl)) (by rfl) ?_)
    | (apply And.intro; focus ((repeat (first | exact Ent.refl _ | exact Ent.nil | (apply Ent.pick; focus ((repeat (first | exact Rem.here | apply Rem.there)); done)) | apply Ent.drop)); done))
    | fail)
              refine swg_order [(6, false), (9, false), (13, false), (14, false), (15, false), (16, false)] (by rfl) (by decide +kernel) ?_
              repeat' (first
    | (refine s1_call ?_; first | (refine sc_c (by rfl) (C_call (by rfl) (by infer_instance) (by rfl) (by rfl) (summary_num _ _ _ (wrap_u64_of (by omega)))) (by rfl) ?_; rintro _ _ ⟨rfl, rfl⟩) | (refine sc_w (by rfl) (W_appendA (by rfl) (by rfl) (by focus ((repeat (first | exact Rem.here | apply Rem.there)); done)) (by infer_instance) (sizesL_mem (by rfl)) (onesL_mem (by rfl)) (by omega)) (by rfl) ?_; rintro vv _ rfl; refine ⟨by (repeat (first | exact Ent.refl _ | exact Ent.nil | (apply Ent.pick; focus ((repeat (first | exact Rem.here | apply Rem.there)); done)) | apply Ent.drop)), ?_⟩; refine swh_know (fun h H => vec_fact H) ?_; rintro ⟨pw, cw, rfl, hw⟩))
    | (refine s1_store ?_; (refine sc_w (by rfl) (W_storeL (by rfl) (by rfl) (by infer_instance) (by rfl) (by rfl) (by rfl)) (by rfl) ?_; rintro _ _ ⟨rfl, rfl⟩))
    | (refine s1_any ?_; (refine sc_w (by rfl) (W_buildSliceV (by rfl) (by rfl) (by rfl) (by rfl) (by rfl) (by rfl) (by rfl)) (by rfl) ?_; rintro _ _ ⟨_, rfl, rfl, _, _⟩))
    | refine swh_hv (by rfl) (fun _ _ => wanted_none) ?_
    | refine swh_nil ?_
    | (apply And.intro; focus ((repeat (first | exact Ent.refl _ | exact Ent.nil | (apply Ent.pick; focus ((repeat (first | exact Rem.here | apply Rem.there)); done)) | apply Ent.drop)); done))
    | fail)
              exact sx_mid _ trivial (by exact subE.nil) (by (repeat (first | exact Ent.refl _ | exact Ent.nil | (apply Ent.pick; focus ((repeat (first | exact Rem.here | apply Rem.there)); done)) | apply Ent.drop)))
            · refine swc_op (by rfl) (fun _ _ => wanted_none) ?_
              repeat' (first
    | (refine s1_call ?_; (refine sc_c (by rfl) (C_call (by rfl) (by infer_instance) (by rfl) (by rfl) (summary_num _ _ _ (wrap_u64_of (by omega)))) (by rfl) ?_; rintro _ _ ⟨rfl, rfl⟩))
    | (apply And.intro; focus ((repeat (first | exact Ent.refl _ | exact Ent.nil | (apply Ent.pick; focus ((repeat (first | exact Rem.here | apply Rem.there)); done)) | apply Ent.drop)); done))
    | fail)
              refine swg_choice (rs := [0, 9]) (by decide +kernel) rfl ?_
              intro j hj
              simp only [List.mem_cons, List.not_mem_nil, or_false] at hj
              rcases hj with rfl | rfl
              · refine swc_op (by rfl) (fun _ _ => wanted_none) ?_
                repeat' (first
    | (refine s1_load ?_; refine sc_r (L_load' (by rfl) (by infer_instance) (by rfl)) (by rfl) ?_)
    | (apply And.intro; focus ((repeat (first | exact Ent.refl _ | exact Ent.nil | (apply Ent.pick; focus ((repeat (first | exact Rem.here | apply Rem.there)); done)) | apply Ent.drop)); done))
    | fail)
                refine swg_order [(9, false), (13, false), (14, false), (15, false), (16, false)] (by rfl) (by decide +kernel) ?_
                repeat' (first
    | (refine s1_call ?_; first | (refine sc_c (by rfl) (C_call (by rfl) (by infer_instance) (by rfl) (by rfl) (summary_num _ _ _ (wrap_u64_of (by omega)))) (by rfl) ?_; rintro _ _ ⟨rfl, rfl⟩) | (refine sc_w (by rfl) (W_appendA (by rfl) (by rfl) (by focus ((repeat (first | exact Rem.here | apply Rem.there)); done)) (by infer_instance) (sizesL_mem (by rfl)) (onesL_mem (by rfl)) (by omega)) (by rfl) ?_; rintro vv _ rfl; refine ⟨by (repeat (first | exact Ent.refl _ | exact Ent.nil | (apply Ent.pick; focus ((repeat (first | exact Rem.here | apply Rem.there)); done)) | apply Ent.drop)), ?_⟩; refine swh_know (fun h H => vec_fact H) ?_; rintro ⟨pw, cw, rfl, hw⟩))
    | (refine s1_store ?_; (refine sc_w (by rfl) (W_storeL (by rfl) (by rfl) (by infer_instance) (by rfl) (by rfl) (by rfl)) (by rfl) ?_; rintro _ _ ⟨rfl, rfl⟩))
    | (refine s1_any ?_; (refine sc_w (by rfl) (W_buildSliceV (by rfl) (by rfl) (by rfl) (by rfl) (by rfl) (by rfl) (by rfl)) (by rfl) ?_; rintro _ _ ⟨_, rfl, rfl, _, _⟩))
    | refine swh_hv (by rfl) (fun _ _ => wanted_none) ?_
    | refine swh_nil ?_
    | (apply And.intro; focus ((repeat (first | exact Ent.refl _ | exact Ent.nil | (apply Ent.pick; focus ((repeat (first | exact Rem.here | apply Rem.there)); done)) | apply Ent.drop)); done))
    | fail)
                exact sx_mid _ trivial (by exact subE.nil) (by (repeat (first | exact Ent.refl _ | exact Ent.nil | (apply Ent.pick; focus ((repeat (first | exact Rem.here | apply Rem.there)); done)) | apply Ent.drop)))
              · refine swc_op (by rfl) (fun _ _ => wanted_none) ?_
                repeat' (first
    | (refine s1_call ?_; (refine sc_c (by rfl) (C_call (by rfl) (by infer_instance) (by rfl) (by rfl) (summary_num _ _ _ (wrap_u64_of (by omega)))) (by rfl) ?_; rintro _ _ ⟨rfl, rfl⟩))
    | (apply And.intro; focus ((repeat (first | exact Ent.refl _ | exact Ent.nil | (apply Ent.pick; focus ((repeat (first | exact Rem.here | apply Rem.there)); done)) | apply Ent.drop)); done))
    | fail)
                refine swg_choice (rs := [0, 13]) (by decide +kernel) rfl ?_
                intro j hj
                simp only [List.mem_cons, List.not_mem_nil, or_false] at hj
                rcases hj with rfl | rfl
                · refine swc_op (by rfl) (fun _ _ => wanted_none) ?_
                  repeat' (first
    | (refine s1_load ?_; refine sc_r (L_load' (by rfl) (by infer_instance) (by rfl)) (by rfl) ?_)
    | (apply And.intro; focus ((repeat (first | exact Ent.refl _ | exact Ent.nil | (apply Ent.pick; focus ((repeat (first | exact Rem.here | apply Rem.there)); done)) | apply Ent.drop)); done))
    | fail)
                  refine swg_order [(13, false), (14, false), (15, false), (16, false)] (by rfl) (by decide +kernel) ?_
                  repeat' (first
    | (refine s1_call ?_; first | (refine sc_c (by rfl) (C_call (by rfl) (by infer_instance) (by rfl) (by rfl) (summary_num _ _ _ (wrap_u64_of (by omega)))) (by rfl) ?_; rintro _ _ ⟨rfl, rfl⟩) | (refine sc_w (by rfl) (W_appendA (by rfl) (by rfl) (by focus ((repeat (first | exact Rem.here | apply Rem.there)); done)) (by infer_instance) (sizesL_mem (by rfl)) (onesL_mem (by rfl)) (by omega)) (by rfl) ?_; rintro vv _ rfl; refine ⟨by (repeat (first | exact Ent.refl _ | exact Ent.nil | (apply Ent.pick; focus ((repeat (first | exact Rem.here | apply Rem.there)); done)) | apply Ent.drop)), ?_⟩; refine swh_know (fun h H => vec_fact H) ?_; rintro ⟨pw, cw, rfl, hw⟩))
    | (refine s1_store ?_; (refine sc_w (by rfl) (W_storeL (by rfl) (by rfl) (by infer_instance) (by rfl) (by rfl) (by rfl)) (by rfl) ?_; rintro _ _ ⟨rfl, rfl⟩))
    | (refine s1_any ?_; (refine sc_w (by rfl) (W_buildSliceV (by rfl) (by rfl) (by rfl) (by rfl) (by rfl) (by rfl) (by rfl)) (by rfl) ?_; rintro _ _ ⟨_, rfl, rfl, _, _⟩))
    | refine swh_hv (by rfl) (fun _ _ => wanted_none) ?_
    | refine swh_nil ?_
    | (apply And.intro; focus ((repeat (first | exact Ent.refl _ | exact Ent.nil | (apply Ent.pick; focus ((repeat (first | exact Rem.here | apply Rem.there)); done)) | apply Ent.drop)); done))
    | fail)
                  exact sx_mid _ trivial (by exact subE.nil) (by (repeat (first | exact Ent.refl _ | exact Ent.nil | (apply Ent.pick; focus ((repeat (first | exact Rem.here | apply Rem.there)); done)) | apply Ent.drop)))
                · refine swc_op (by rfl) (fun _ _ => wanted_none) ?_
                  repeat' (first
    | (refine s1_call ?_; (refine sc_c (by rfl) (C_call (by rfl) (by infer_instance) (by rfl) (by rfl) (summary_num _ _ _ (wrap_u64_of (by omega)))) (by rfl) ?_; rintro _ _ ⟨rfl, rfl⟩))
    | (apply And.intro; focus ((repeat (first | exact Ent.refl _ | exact Ent.nil | (apply Ent.pick; focus ((repeat (first | exact Rem.here | apply Rem.there)); done)) | apply Ent.drop)); done))
    | fail)
                  refine swg_choice (rs := [0, 14]) (by decide +kernel) rfl ?_
                  intro j hj
                  simp only [List.mem_cons, List.not_mem_nil, or_false] at hj
                  rcases hj with rfl | rfl
                  · refine swc_op (by rfl) (fun _ _ => wanted_none) ?_
                    repeat' (first
    | (refine s1_load ?_; refine sc_r (L_load' (by rfl) (by infer_instance) (by rfl)) (by rfl) ?_)
    | (apply And.intro; focus ((repeat (first | exact Ent.refl _ | exact Ent.nil | (apply Ent.pick; focus ((repeat (first | exact Rem.here | apply Rem.there)); done)) | apply Ent.drop)); done))
    | fail)
                    refine swg_order [(14, false), (15, false), (16, false)] (by rfl) (by decide +kernel) ?_
                    repeat' (first
    | (refine s1_call ?_; (refine sc_w (by rfl) (W_appendA (by rfl) (by rfl) (by focus ((repeat (first | exact Rem.here | apply Rem.there)); done)) (by infer_instance) (sizesL_mem (by rfl)) (onesL_mem (by rfl)) (by omega)) (by rfl) ?_; rintro vv _ rfl; refine ⟨by (repeat (first | exact Ent.refl _ | exact Ent.nil | (apply Ent.pick; focus ((repeat (first | exact Rem.here | apply Rem.there)); done)) | apply Ent.drop)), ?_⟩; refine swh_know (fun h H => vec_fact H) ?_; rintro ⟨pw, cw, rfl, hw⟩))
    | (refine s1_store ?_; (refine sc_w (by rfl) (W_storeL (by rfl) (by rfl) (by infer_instance) (by rfl) (by rfl) (by rfl)) (by rfl) ?_; rintro _ _ ⟨rfl, rfl⟩))
    | (refine s1_any ?_; (refine sc_w (by rfl) (W_buildSliceV (by rfl) (by rfl) (by rfl) (by rfl) (by rfl) (by rfl) (by rfl)) (by rfl) ?_; rintro _ _ ⟨_, rfl, rfl, _, _⟩))
    | refine swh_hv (by rfl) (fun _ _ => wanted_none) ?_
    | refine swh_nil ?_
    | (apply And.intro; focus ((repeat (first | exact Ent.refl _ | exact Ent.nil | (apply Ent.pick; focus ((repeat (first | exact Rem.here | apply Rem.there)); done)) | apply Ent.drop)); done))
    | fail)
                    exact sx_mid _ trivial (by exact subE.nil) (by (repeat (first | exact Ent.refl _ | exact Ent.nil | (apply Ent.pick; focus ((repeat (first | exact Rem.here | apply Rem.there)); done)) | apply Ent.drop)))
                  · refine swc_op (by rfl) (fun _ _ => wanted_none) ?_
                    repeat' (first
    | (refine s1_any ?_; (refine sc_w (by rfl) (W_buildSliceV (by rfl) (by rfl) (by rfl) (by rfl) (by rfl) (by rfl) (by rfl)) (by rfl) ?_; rintro _ _ ⟨_, rfl, rfl, _, _⟩))
    | (apply And.intro; focus ((repeat (first | exact Ent.refl _ | exact Ent.nil | (apply Ent.pick; focus ((repeat (first | exact Rem.here | apply Rem.there)); done)) | apply Ent.drop)); done))
    | fail)
                    refine swg_order [(0, false), (15, false), (16, false)] (by rfl) (by decide +kernel) ?_
                    repeat' (first
    | (refine s1_load ?_; refine sc_r (L_load' (by rfl) (by infer_instance) (by rfl)) (by rfl) ?_)
    | (refine s1_call ?_; (refine sc_w (by rfl) (W_appendA (by rfl) (by rfl) (by focus ((repeat (first | exact Rem.here | apply Rem.there)); done)) (by infer_instance) (sizesL_mem (by rfl)) (onesL_mem (by rfl)) (by omega)) (by rfl) ?_; rintro vv _ rfl; refine ⟨by (repeat (first | exact Ent.refl _ | exact Ent.nil | (apply Ent.pick; focus ((repeat (first | exact Rem.here | apply Rem.there)); done)) | apply Ent.drop)), ?_⟩; refine swh_know (fun h H => vec_fact H) ?_; rintro ⟨pw, cw, rfl, hw⟩))
    | (refine s1_store ?_; (refine sc_w (by rfl) (W_storeL (by rfl) (by rfl) (by infer_instance) (by rfl) (by rfl) (by rfl)) (by rfl) ?_; rintro _ _ ⟨rfl, rfl⟩))
    | refine swh_hv (by rfl) (fun _ _ => wanted_none) ?_
    | refine swh_nil ?_
    | (apply And.intro; focus ((repeat (first | exact Ent.refl _ | exact Ent.nil | (apply Ent.pick; focus ((repeat (first | exact Rem.here | apply Rem.there)); done)) | apply Ent.drop)); done))
    | fail)
                    exact sx_mid _ trivial (by exact subE.nil) (by (repeat (first | exact Ent.refl _ | exact Ent.nil | (apply Ent.pick; focus ((repeat (first | exact Rem.here | apply Rem.there)); done)) | apply Ent.drop)))
        · intro sv' _
          repeat' (first
    | refine sx_block_normal ?_
    | fail)
          refine sx_round_on (by focus ((repeat (first | exact Rem.here | apply Rem.there)); done)) _ (.inl ⟨rfl, rfl⟩) ?_
          refine Ent.pick (by focus ((repeat (first | exact Rem.here | apply Rem.there)); done)) (Ent.pick (by focus ((repeat (first | exact Rem.here | apply Rem.there)); done)) (Ent.trans ?_ (Ent.ex_intro sv')))
          refine Ent.trans ?_ Ent.shut_st
          simp only [List.cons_append, List.nil_append]
          rw [hsn]
          (repeat (first | exact Ent.refl _ | exact Ent.nil | (apply Ent.pick; focus ((repeat (first | exact Rem.here | apply Rem.there)); done)) | apply Ent.drop))
      · intro D
        rw [List.take_of_length_le (by omega), ← hN]
        refine sx_ent (Rem.there Rem.here).ent (sx_ex fun sv => sx_ent Ent.open_st ?_)
        simp only [List.cons_append, List.nil_append]
        refine sx_know (fun h H => vec_fact (Ent.own (show Ent _ [vec 131 2 (nums.map Num.cells) sv] from by (repeat (first | exact Ent.refl _ | exact Ent.nil | (apply Ent.pick; focus ((repeat (first | exact Rem.here | apply Rem.there)); done)) | apply Ent.drop))) H)) ?_
        rintro ⟨p5, c5, rfl, hv5⟩
        have hf1 : Fact' (((packF nums).map u8c).length = (packF nums).length) := ⟨by simp⟩
        repeat' (first
    | refine swl_op ?_
    | (refine s1_move ?_; refine sc_r (R_move (by rfl)) (by rfl) ?_)
    | (refine s1_load ?_; refine sc_r (L_load' (by rfl) (by infer_instance) (by rfl)) (by rfl) ?_)
    | (refine s1_assign ?_; refine sc_r (R_assign (by rfl)) (by rfl) ?_)
    | (refine s1_bin ?_; refine sc_r (R_neq (by rfl) (by rfl)) (by rfl) ?_)
    | (refine s1_call ?_; first | (refine sc_c (by rfl) (C_call (by rfl) (by infer_instance) (by rfl) (by rfl) (pack_Pack nums hok (by omega) (by infer_instance))) (by rfl) ?_; rintro _ _ ⟨vc, rfl, rfl⟩; refine swl_know (fun h H => vec_fact H) ?_; rintro ⟨pc, cc, rfl, hf⟩; rw [List.length_map] at hf ⊢; obtain ⟨b9, o9, rfl⟩ := hf.ptr (by omega)) | (refine sc_c (by rfl) (C_call (by rfl) (by infer_instance) (by rfl) (by rfl) (crc_Seal (packF nums) (by omega) (by infer_instance))) (by rfl) ?_; rintro _ _ ⟨vc2, rfl, rfl⟩))
    | (refine s1_any ?_; refine sc_r (R_extract (by rfl) (by rfl)) (by rfl) ?_)
    | refine swl_nil ?_
    | refine sx_next ?_
    | refine sw_seq ?_
    | refine sw_region ?_
    | refine sx_block_normal ?_
    | refine sw_cond_false (by rfl) ?_
    | refine sw_ret ?_
    | refine sw_skip ?_
    | fail)
        exact sx_ret_m [D] (Rems.cons (by focus ((repeat (first | exact Rem.here | apply Rem.there)); done)) Rems.nil) (res2 rfl (ResOne.tmp rfl) (ResOne.tmp rfl)) _ ⟨_, rfl, rfl⟩ (by (repeat (first | exact Ent.refl _ | exact Ent.nil | (apply Ent.pick; focus ((repeat (first | exact Rem.here | apply Rem.there)); done)) | apply Ent.drop))) (.inr rfl)
end Go.Proofs.YtjdnflhejfcgdaaDoor

/-
  Summaries: decoded.
-/
namespace Go.Proofs.YtjdnflhejfcgdaaDoor
open Go Go.SL Go.Proofs

def zeroP : PartS := ⟨0, 0, false, []⟩
def decH (b : List Int) (k : Nat) : Int := (unpackF b [4, 6, 4, 1, 1]).getD k 0
def decE (b : List Int) (k : Nat) : EntS := ⟨IntKind.i64.wrap ((unpackF (b.drop (16 + 8 * k)) [1, 1, 2, 4]).getD 0 0), IntKind.i64.wrap ((unpackF (b.drop (16 + 8 * k)) [1, 1, 2, 4]).getD 1 0), IntKind.i64.wrap ((unpackF (b.drop (16 + 8 * k)) [1, 1, 2, 4]).getD 2 0), IntKind.u32.wrap ((unpackF (b.drop (16 + 8 * k)) [1, 1, 2, 4]).getD 3 0)⟩
def decP (b : List Int) : PartS := ⟨IntKind.i64.wrap (decH b 1), IntKind.i64.wrap (decH b 2), decide (decH b 4 = 1), (List.range (decH b 3).toNat).map (decE b)⟩
def decA (b : List Int) : Bool := decide (decH b 0 = 1752397165 ∧ decH b 3 ≤ 13 ∧ decH b 4 ≤ 1)
def decodeF (b : List Int) : PartS × Int := if heldF b then (if decA b then (if clearF (b.take 124) (16 + 8 * (decH b 3)) && mayP (decP b) then (decP b, 0) else (zeroP, 3)) else (zeroP, 3)) else (zeroP, 5)
theorem getN_bd : ∀ (l : List Int) (v : Int), 0 ≤ v ∧ v ≤ 18446744073709551615 → 0 ≤ getN v l ∧ getN v l ≤ 18446744073709551615
  | [], _, h => h
  | z :: r, v, _ => getN_bd r (bOr .u64 (bShl .u64 v 8) (IntKind.u64.wrap z)) (wrap_u64_bd _)
theorem list5 {l : List Int} (h : l.length = 5) : ∃ a b c d e, l = [a, b, c, d, e] := by
  match l, h with
  | [a, b, c, d, e], _ => exact ⟨a, b, c, d, e, rfl⟩
theorem list4' {l : List Int} (h : l.length = 4) : ∃ a b c d, l = [a, b, c, d] := by
  match l, h with
  | [a, b, c, d], _ => exact ⟨a, b, c, d, rfl⟩

set_option maxHeartbeats 4000000 in
theorem summary_Decode (b : List Int) {L : List HP} {p : Option Addr} {n c : Nat} [HalvesC L] (hb : SlC L p 1 n c (b.map u8c)) :
    Tr Tryd.prog 35 [.slice p n c].toArray L (fun v L' => ∃ sv, v = .tuple #[.agg ((decodeF b).1.cells sv), .int .i64 (decodeF b).2] ∧ L' = vec 72 4 ((decodeF b).1.l.map EntS.cells) sv :: L) := by
  have hlen : b.length = n := by simpa using hb.len
  refine tr_enter Tryd.func35 rfl Tryd.ntmps35 rfl fun w0 => ?_
  unfold decodeF
  cases hh : heldF b
  · rw [if_neg (by simp)]
    repeat' (first
    | refine swl_op ?_
    | (refine s1_move ?_; refine sc_r (R_move (by rfl)) (by rfl) ?_)
    | (refine s1_assign ?_; refine sc_r (R_assign (by rfl)) (by rfl) ?_)
    | (refine s1_call ?_; (refine sc_c (by rfl) (C_call (by rfl) (by infer_instance) (by rfl) (by rfl) (crc_Held' b _ hh (by infer_instance))) (by rfl) ?_; rintro _ _ ⟨rfl, rfl⟩))
    | (refine s1_store ?_; (refine sc_w (by rfl) (W_storeAll (by rfl) (by rfl) (by infer_instance) (by rfl) (by rfl) (by rfl)) (by rfl) ?_; rintro _ _ ⟨rfl, rfl⟩))
    | (refine s1_alloc ?_; (refine sc_w (by rfl) W_allocA (by rfl) ?_; rintro _ _ ⟨_, rfl, rfl⟩))
    | (refine s1_any ?_; first | refine sc_r (R_buildL (by rfl) (by rfl)) (by rfl) ?_ | refine sc_r (R_not (by rfl)) (by rfl) ?_)
    | refine swl_nil ?_
    | refine sx_next ?_
    | refine sw_seq ?_
    | refine sw_region ?_
    | refine sx_past_ret ?_
    | refine sw_cond_true (by rfl) ?_
    | refine sw_ret ?_
    | fail)
    exact sx_ret_of (res2 rfl (ResOne.cellA (by rfl) (by infer_instance) (by rfl)) (ResOne.tmp rfl)) _ ⟨_, rfl, rfl⟩ (by (repeat (first | apply Ent.drop | exact Ent.vec_nil)))
  · have h128 : n = 128 := by simp only [heldF, decide_eq_true_eq] at hh; omega
    subst h128
    rw [if_pos rfl]
    have hle := hb.le
    obtain ⟨b0, o0, rfl⟩ := hb.ptr (by omega)
    have hU1 := fun (L : List HP) (hb : SlC L (some ⟨b0, o0, none⟩) 1 128 c (b.map u8c)) (q : Option Addr) (m cp : Nat) (els : List (Array Value)) (hw : SlC L q 1 m cp els) (he : els = [4, 6, 4, 1, 1].map i64c) => pack_Unpack' b [4, 6, 4, 1, 1] (by simp) (by simp) (by simp; omega) hb hw he
    have hul := unpackF_len [4, 6, 4, 1, 1] b
    have hbd0 : ∀ k, 0 ≤ decH b k := fun k => by
      unfold decH
      rcases (by omega : k = 0 ∨ k = 1 ∨ k = 2 ∨ k = 3 ∨ k = 4 ∨ 5 ≤ k) with rfl | rfl | rfl | rfl | rfl | hk
      · exact (getN_bd _ 0 (by omega)).1
      · exact (getN_bd _ 0 (by omega)).1
      · exact (getN_bd _ 0 (by omega)).1
      · exact (getN_bd _ 0 (by omega)).1
      · exact (getN_bd _ 0 (by omega)).1
      · simp [List.getD, hul, show 5 ≤ k by omega]
    have hH : ∀ k, decH b k = (unpackF b [4, 6, 4, 1, 1]).getD k 0 := fun k => rfl
    have hU2 := fun (k : Nat) (hk : k < 13) (L : List HP) (hb : SlC L (some ⟨b0, o0, none⟩) 1 128 c (b.map u8c)) (q : Option Addr) (m cp : Nat) (els : List (Array Value)) (hw : SlC L q 1 m cp els) (he : els = [1, 1, 2, 4].map i64c) => pack_Unpack' (b.drop (16 + 8 * k)) [1, 1, 2, 4] (by simp) (by simp) (by simp; omega) (show SlC L (some ⟨b0, o0 + (16 + 8 * k) * 1, none⟩) 1 (128 - (16 + 8 * k)) (c - (16 + 8 * k)) ((b.drop (16 + 8 * k)).map u8c) from by rw [List.map_drop]; exact hb.drop (16 + 8 * k) (by omega)) hw he
    have hmay := summary_May' (decP b)
    have hP : decP b = ⟨IntKind.i64.wrap (decH b 1), IntKind.i64.wrap (decH b 2), decide (decH b 4 = 1), (List.range (decH b 3).toNat).map (decE b)⟩ := rfl
    have hA : decA b = decide (decH b 0 = 1752397165 ∧ decH b 3 ≤ 13 ∧ decH b 4 ≤ 1) := rfl
    rw [hP] at hmay ⊢
    generalize unpackF b [4, 6, 4, 1, 1] = H at *
    obtain ⟨h0, h1, h2, h3, h4, rfl⟩ := list5 hul
    have e0 : decH b 0 = h0 := hH 0
    have e1 : decH b 1 = h1 := hH 1
    have e2 : decH b 2 = h2 := hH 2
    have e3 : decH b 3 = h3 := hH 3
    have e4 : decH b 4 = h4 := hH 4
    have hb3 := hbd0 3
    have hb4 := hbd0 4
    rw [e0, e3, e4] at hA
    rw [e1, e2, e3, e4] at hmay
    rw [e1, e2, e3, e4] 
    rw [e3] at hb3
    rw [e4] at hb4
    clear hH hbd0 hP e0 e1 e2 e3 e4
    have el5 : ([h0, h1, h2, h3, h4].map u64c).length = 5 := rfl
    have hf5 : Fact' (([h0, h1, h2, h3, h4].map u64c).length = 5) := ⟨rfl⟩
    cases hAb : decA b
    · rw [if_neg (by simp)]
      rw [hAb] at hA
      have hAn := of_decide_eq_false hA.symm
      repeat' (first
    | refine swl_op ?_
    | (refine s1_move ?_; refine sc_r (R_move (by rfl)) (by rfl) ?_)
    | (refine s1_load ?_; refine sc_r (L_load_el1 (by rfl) (by infer_instance) (by omega) (by first | assumption | rfl)) (by rfl) ?_)
    | (refine s1_assign ?_; refine sc_r (R_assign (by rfl)) (by rfl) ?_)
    | (refine s1_pick ?_; first | refine sc_r (R_pick_t (by rfl) (by rfl)) (by rfl) ?_ | refine sc_r (R_pick_f (by rfl) (by rfl)) (by rfl) ?_)
    | (refine s1_bin ?_; first | refine sc_r (R_gtr (by rfl) (by rfl)) (by rfl) ?_ | refine sc_r (R_neq (by rfl) (by rfl)) (by rfl) ?_)
    | (refine s1_call ?_; first | (refine sc_c (by rfl) (C_call (by rfl) (by infer_instance) (by rfl) (by rfl) (crc_Held' b _ hh (by infer_instance))) (by rfl) ?_; rintro _ _ ⟨rfl, rfl⟩) | (refine sc_c (by rfl) (C_call (by rfl) (by infer_instance) (by rfl) (by rfl) (hU1 _ (by infer_instance) _ _ _ _ (by infer_instance) (by rfl))) (by rfl) ?_; rintro _ _ ⟨vc, rfl, rfl⟩; refine swl_know (fun h H => vec_fact H) ?_; rintro ⟨pc, cc, rfl, hf⟩; rw [el5] at hf ⊢; obtain ⟨b1, o1, rfl⟩ := hf.ptr (by omega)))
    | (refine s1_indexAddr ?_; refine sc_r (R_indexAddr (by rfl) (by rfl) (by omega)) (by rfl) ?_)
    | (refine s1_store ?_; (refine sc_w (by rfl) (W_storeAll (by rfl) (by rfl) (by infer_instance) (by rfl) (by rfl) (by rfl)) (by rfl) ?_; rintro _ _ ⟨rfl, rfl⟩))
    | (refine s1_alloc ?_; (refine sc_w (by rfl) W_allocA (by rfl) ?_; rintro _ _ ⟨_, rfl, rfl⟩))
    | (refine s1_any ?_; first | refine sc_r (R_buildL (by rfl) (by rfl)) (by rfl) ?_ | (refine sc_w (by rfl) (W_buildSliceV (by rfl) (by rfl) (by rfl) (by rfl) (by rfl) (by rfl) (by rfl)) (by rfl) ?_; rintro _ _ ⟨_, rfl, rfl, _, _⟩) | refine sc_r (R_not (by rfl)) (by rfl) ?_ | refine sc_r (R_extract (by rfl) (by rfl)) (by rfl) ?_)
    | refine swl_nil ?_
    | refine sx_next ?_
    | refine sw_seq ?_
    | refine sw_region ?_
    | refine swl_g_on (by rfl) (by rfl) ?_
    | refine swl_g_off (by rfl) (by rfl) (by rfl) (by rfl) ?_
    | refine swl_g_dec (by rfl) (by rfl) (fun hp => ?_) (fun hp => ?_)
    | refine swl_g_ndec (by rfl) (by rfl) (fun hp => ?_) (fun hp => ?_)
    | refine sx_past_ret ?_
    | refine sw_cond_true (by rfl) ?_
    | refine sw_cond_false (by rfl) ?_
    | refine sw_cond_pos (by rfl) (by first | assumption | omega) ?_
    | refine sw_ret ?_
    | refine sw_skip ?_
    | fail)
      all_goals first
        | (exfalso; omega)
        | exact sx_ret_of (res2 rfl (ResOne.cellA (by rfl) (by infer_instance) (by rfl)) (ResOne.tmp rfl)) _ ⟨_, rfl, rfl⟩ (by (repeat (first | apply Ent.drop | exact Ent.vec_nil)))
    · rw [if_pos rfl]
      rw [hAb] at hA
      obtain ⟨hA0, hA3, hA4⟩ := of_decide_eq_true hA.symm
      obtain ⟨N, rfl⟩ := Int.eq_ofNat_of_zero_le hb3
      rw [Int.toNat_natCast] at *
      clear hA
      have hN : N ≤ 13 := by omega
      repeat' (first
    | refine swl_op ?_
    | (refine s1_move ?_; refine sc_r (R_move (by rfl)) (by rfl) ?_)
    | (refine s1_load ?_; refine sc_r (L_load_el1 (by rfl) (by infer_instance) (by omega) (by first | assumption | rfl)) (by rfl) ?_)
    | (refine s1_assign ?_; refine sc_r (R_assign (by rfl)) (by rfl) ?_)
    | (refine s1_pick ?_; refine sc_r (R_pick_f (by rfl) (by rfl)) (by rfl) ?_)
    | (refine s1_bin ?_; first | refine sc_r (R_gtr (by rfl) (by rfl)) (by rfl) ?_ | refine sc_r (R_eql (by rfl) (by rfl)) (by rfl) ?_ | refine sc_r (R_neq (by rfl) (by rfl)) (by rfl) ?_)
    | (refine s1_call ?_; first | (refine sc_c (by rfl) (C_call (by rfl) (by infer_instance) (by rfl) (by rfl) (crc_Held' b _ hh (by infer_instance))) (by rfl) ?_; rintro _ _ ⟨rfl, rfl⟩) | (refine sc_c (by rfl) (C_call (by rfl) (by infer_instance) (by rfl) (by rfl) (hU1 _ (by infer_instance) _ _ _ _ (by infer_instance) (by rfl))) (by rfl) ?_; rintro _ _ ⟨vc, rfl, rfl⟩; refine swl_know (fun h H => vec_fact H) ?_; rintro ⟨pc, cc, rfl, hf⟩; rw [el5] at hf ⊢; obtain ⟨b1, o1, rfl⟩ := hf.ptr (by omega)))
    | (refine s1_indexAddr ?_; refine sc_r (R_indexAddr (by rfl) (by rfl) (by omega)) (by rfl) ?_)
    | (refine s1_store ?_; (refine sc_w (by rfl) (W_storeAll (by rfl) (by rfl) (by infer_instance) (by rfl) (by rfl) (by rfl)) (by rfl) ?_; rintro _ _ ⟨rfl, rfl⟩))
    | (refine s1_alloc ?_; (refine sc_w (by rfl) W_allocA (by rfl) ?_; rintro _ _ ⟨_, rfl, rfl⟩))
    | (refine s1_conv ?_; refine sc_r (R_conv (by rfl)) (by rfl) ?_)
    | (refine s1_any ?_; first | refine sc_r (R_buildL (by rfl) (by rfl)) (by rfl) ?_ | (refine sc_w (by rfl) (W_buildSliceV (by rfl) (by rfl) (by rfl) (by rfl) (by rfl) (by rfl) (by rfl)) (by rfl) ?_; rintro _ _ ⟨_, rfl, rfl, _, _⟩) | refine sc_r (R_not (by rfl)) (by rfl) ?_ | refine sc_r (R_extract (by rfl) (by rfl)) (by rfl) ?_)
    | refine swl_nil ?_
    | refine sx_next ?_
    | refine sw_seq ?_
    | refine sw_region ?_
    | refine sw_block ?_
    | refine swl_g_on (by rfl) (by rfl) ?_
    | refine swl_g_neg (by rfl) (by rfl) (by first | assumption | omega) ?_
    | refine swl_g_npos (by rfl) (by rfl) (by first | assumption | omega) ?_
    | refine sw_cond_false (by rfl) ?_
    | refine sw_cond_neg (by rfl) (by first | assumption | omega) ?_
    | refine sw_skip ?_
    | refine swh_lt (by rfl) (fun _ _ => wanted_none) ?_
    | refine swh_hv (by rfl) (fun _ _ => wanted_none) ?_
    | refine swh_nil ?_
    | (apply And.intro; focus ((repeat (first | exact Ent.refl _ | exact Ent.nil | (apply Ent.pick; focus ((repeat (first | exact Rem.here | apply Rem.there)); done)) | apply Ent.drop)); done))
    | (refine sw_draw [(0, true), (1, true), (2, true), (3, true), (4, true), (5, true), (6, true), (7, true), (8, true), (9, true), (10, true), (11, true), (12, true), (13, false), (14, false)] follows ?_ ?_ ?_; (focus rfl); (focus (decide +kernel)))
    | fail)
      rename_i b2 bs _ _ b6
      clear hU1
      refine sw_loop (γ := Nat × Value) (fun g => N - g.1) (fun g => [(0, .slice (some ⟨b0, o0, none⟩) 128 c), (2, .pointer (some ⟨b2, 0, none⟩)), (6, .pointer (some ⟨b6, 0, none⟩)), (7, .int .i64 (16 + 8 * (g.1 : Int))), (56, .int .u64 (N : Int)), (57, .int .u64 (g.1 : Int))])
        (fun g => pt b6 (.cells #[.int .i64 (IntKind.i64.wrap h1), .int .i64 (IntKind.i64.wrap h2), .bool (decide (h4 = 1)), g.2] 34) :: vec 72 4 (((List.range g.1).map (decE b)).map EntS.cells) g.2 :: pt b2 (.cells #[.int .i64 0, .int .i64 0, .bool false, .slice none 0 0] 34) :: L)
        (fun g => g.1 ≤ N) (0, .slice none 0 0) (by simp) (subE.cons rfl (subE.cons rfl (subE.cons rfl (subE.cons rfl (subE.cons rfl (subE.cons rfl subE.nil)))))) (Ent.pick (by focus ((repeat (first | exact Rem.here | apply Rem.there)); done)) (Ent.trans (by (repeat (first | exact Ent.refl _ | exact Ent.nil | (apply Ent.pick; focus ((repeat (first | exact Rem.here | apply Rem.there)); done)) | apply Ent.drop))) Ent.vec_nil)) ?_
      rintro ⟨k, sv⟩ hk
      dsimp only at hk ⊢
      refine sw_know (fun h H => vec_fact (Ent.own (show Ent _ [vec 72 4 (((List.range k).map (decE b)).map EntS.cells) sv] from by (repeat (first | exact Ent.refl _ | exact Ent.nil | (apply Ent.pick; focus ((repeat (first | exact Rem.here | apply Rem.there)); done)) | apply Ent.drop))) H)) ?_
      rintro ⟨ps, cs, rfl, hvs⟩
      have hlk : (((List.range k).map (decE b)).map EntS.cells).length = k := by simp
      have hfk : Fact' ((((List.range k).map (decE b)).map EntS.cells).length = k) := ⟨hlk⟩
      rw [hlk] at hvs ⊢
      by_cases hlt : k < N
      · have hU := hU2 k (by omega)
        have hts : ((List.range (k + 1)).map (decE b)).map EntS.cells = ((List.range k).map (decE b)).map EntS.cells ++ [(decE b k).cells] := by rw [List.range_succ]; simp
        have hdk : decE b k = ⟨IntKind.i64.wrap ((unpackF (b.drop (16 + 8 * k)) [1, 1, 2, 4]).getD 0 0), IntKind.i64.wrap ((unpackF (b.drop (16 + 8 * k)) [1, 1, 2, 4]).getD 1 0), IntKind.i64.wrap ((unpackF (b.drop (16 + 8 * k)) [1, 1, 2, 4]).getD 2 0), IntKind.u32.wrap ((unpackF (b.drop (16 + 8 * k)) [1, 1, 2, 4]).getD 3 0)⟩ := rfl
        have hul4 := unpackF_len [1, 1, 2, 4] (b.drop (16 + 8 * k))
        generalize unpackF (b.drop (16 + 8 * k)) [1, 1, 2, 4] = U at *
        obtain ⟨u0, u1, u2, u3, rfl⟩ := list4' hul4
        have el4 : ([u0, u1, u2, u3].map u64c).length = 4 := rfl
        have hf4 : Fact' (([u0, u1, u2, u3].map u64c).length = 4) := ⟨rfl⟩
        have hnat : (16 + 8 * (k : Int)).toNat = 16 + 8 * k := by omega
        simp only [List.getD_cons_zero, List.getD_cons_succ] at hdk
        rw [hdk] at hts
        simp only [EntS.cells] at hts hlk hfk ⊢
        repeat' (first
    | (refine s1_slice ?_; refine sc_r (R_slice_l (by rfl) (by rfl) (by omega)) (by rfl) ?_; rw [hnat])
    | refine swl_op ?_
    | (refine s1_move ?_; refine sc_r (R_move (by rfl)) (by rfl) ?_)
    | (refine s1_assign ?_; refine sc_r (R_assign (by rfl)) (by rfl) ?_)
    | (refine s1_bin ?_; first | refine sc_r (R_lss (by rfl) (by rfl)) (by rfl) ?_ | refine sc_r (R_neq (by rfl) (by rfl)) (by rfl) ?_)
    | (refine s1_call ?_; (refine sc_c (by rfl) (C_call (by rfl) (by infer_instance) (by rfl) (by rfl) (hU _ (by infer_instance) _ _ _ _ (by infer_instance) (by rfl))) (by rfl) ?_; rintro _ _ ⟨vc, rfl, rfl⟩; refine swl_know (fun h H => vec_fact H) ?_; rintro ⟨pc2, cc2, rfl, hfc⟩; rw [el4] at hfc ⊢; obtain ⟨b8, o8, rfl⟩ := hfc.ptr (by omega)))
    | (refine s1_any ?_; first | (refine sc_w (by rfl) (W_buildSliceV (by rfl) (by rfl) (by rfl) (by rfl) (by rfl) (by rfl) (by rfl)) (by rfl) ?_; rintro _ _ ⟨_, rfl, rfl, _, _⟩) | refine sc_r (R_extract (by rfl) (by rfl)) (by rfl) ?_)
    | refine swl_nil ?_
    | refine sx_next ?_
    | refine sw_seq ?_
    | refine sw_region ?_
    | refine sw_block ?_
    | refine sw_cond_false (by rfl) ?_
    | refine sw_cond_pos (by rfl) (by first | assumption | omega) ?_
    | refine sw_skip ?_
    | fail)
        refine sw_mid (γ := Value) (fun _ => [(0, .slice (some ⟨b0, o0, none⟩) 128 c), (2, .pointer (some ⟨b2, 0, none⟩)), (6, .pointer (some ⟨b6, 0, none⟩)), (7, .int .i64 (16 + 8 * (k : Int))), (56, .int .u64 (N : Int)), (57, .int .u64 (k : Int))])
          (fun v => pt b6 (.cells #[.int .i64 (IntKind.i64.wrap h1), .int .i64 (IntKind.i64.wrap h2), .bool (decide (h4 = 1)), v] 34) :: vec 72 4 (((List.range k).map (decE b)).map EntS.cells ++ [#[.int .i64 (IntKind.i64.wrap u0), .int .i64 (IntKind.i64.wrap u1), .int .i64 (IntKind.i64.wrap u2), .int .u32 (IntKind.u32.wrap u3)]]) v :: pt b2 (.cells #[.int .i64 0, .int .i64 0, .bool false, .slice none 0 0] 34) :: L) (fun _ => True) ?_ ?_
        · generalize ((List.range k).map (decE b)).map EntS.cells = els at *
          refine sw_openL (vec 129 1 ([u0, u1, u2, u3].map u64c) (.slice (some ⟨b8, o8, none⟩) 4 cc2) :: L) follows (by decide +kernel) (by (repeat (first | exact Ent.refl _ | exact Ent.nil | (apply Ent.pick; focus ((repeat (first | exact Rem.here | apply Rem.there)); done)) | apply Ent.drop))) ?_
          repeat' (first
    | (refine s1_move ?_; refine sc_r (R_move (by rfl)) (by rfl) ?_)
    | (refine s1_load ?_; refine sc_r (L_load_el1 (by rfl) (by infer_instance) (by omega) (by first | assumption | rfl)) (by rfl) ?_)
    | (refine s1_fieldAddr ?_; refine sc_r (R_fieldAddr (by rfl)) (by rfl) ?_)
    | (refine s1_indexAddr ?_; refine sc_r (R_indexAddr (by rfl) (by rfl) (by omega)) (by rfl) ?_)
    | (refine s1_conv ?_; refine sc_r (R_conv (by rfl)) (by rfl) ?_)
    | (refine s1_any ?_; refine sc_r (R_buildL (by rfl) (by rfl)) (by rfl) ?_)
    | (refine swg_take 0 (by decide +kernel) (by rfl) (fun _ _ => wanted_none) ?_)
    | (refine swg_take 2 (by decide +kernel) (by rfl) (fun _ _ => wanted_none) ?_)
    | (refine swg_take 3 (by decide +kernel) (by rfl) (fun _ _ => wanted_none) ?_)
    | (refine swg_take 4 (by decide +kernel) (by rfl) (fun _ _ => wanted_none) ?_)
    | (refine swg_take 5 (by decide +kernel) (by rfl) (fun _ _ => wanted_none) ?_)
    | (refine swg_take 6 (by decide +kernel) (by rfl) (fun _ _ => wanted_none) ?_)
    | (refine swg_take 7 (by decide +kernel) (by rfl) (fun _ _ => wanted_none) ?_)
    | (refine swg_take 8 (by decide +kernel) (by rfl) (fun _ _ => wanted_none) ?_)
    | (refine swg_take 9 (by decide +kernel) (by rfl) (fun _ _ => wanted_none) ?_)
    | (refine swg_take 10 (by decide +kernel) (by rfl) (fun _ _ => wanted_none) ?_)
    | (refine swg_take 11 (by decide +kernel) (by rfl) (fun _ _ => wanted_none) ?_)
    | (refine swg_take 12 (by decide +kernel) (by rfl) (fun _ _ => wanted_none) ?_)
    | (refine swg_take 13 (by decide +kernel) (by rfl) (fun _ _ => wanted_none) ?_)
    | (refine swg_take 14 (by decide +kernel) (by rfl) (fun _ _ => wanted_none) ?_)
    | (refine swg_take 15 (by decide +kernel) (by rfl) (fun _ _ => wanted_none) ?_)
    | (refine swg_take 16 (by decide +kernel) (by rfl) (fun _ _ => wanted_none) ?_)
    | (refine swg_take 17 (by decide +kernel) (by rfl) (fun _ _ => wanted_none) ?_)
    | (refine swg_take 18 (by decide +kernel) (by rfl) (fun _ _ => wanted_none) ?_)
    | fail)
          refine swg_choice (rs := [1, 19]) (by decide +kernel) rfl ?_
          intro j hj
          simp only [List.mem_cons, List.not_mem_nil, or_false] at hj
          rcases hj with rfl | rfl
          · refine swc_op (by rfl) (fun _ _ => wanted_none) ?_
            repeat' (first
    | (refine s1_load ?_; refine sc_r (L_load' (by rfl) (by infer_instance) (by rfl)) (by rfl) ?_)
    | (apply And.intro; focus ((repeat (first | exact Ent.refl _ | exact Ent.nil | (apply Ent.pick; focus ((repeat (first | exact Rem.here | apply Rem.there)); done)) | apply Ent.drop)); done))
    | fail)
            refine swg_order [(19, false), (20, false), (21, true), (22, false)] (by rfl) (by decide +kernel) ?_
            repeat' (first
    | (refine s1_fieldAddr ?_; refine sc_r (R_fieldAddr (by rfl)) (by rfl) ?_)
    | (refine s1_call ?_; (refine sc_w (by rfl) (W_appendA (by rfl) (by rfl) (by focus ((repeat (first | exact Rem.here | apply Rem.there)); done)) (by infer_instance) (sizesL_mem (by rfl)) (onesL_mem (by rfl)) (by omega)) (by rfl) ?_; rintro vv _ rfl; refine ⟨by (repeat (first | exact Ent.refl _ | exact Ent.nil | (apply Ent.pick; focus ((repeat (first | exact Rem.here | apply Rem.there)); done)) | apply Ent.drop)), ?_⟩; refine swh_know (fun h H => vec_fact H) ?_; rintro ⟨pw, cw, rfl, hw⟩))
    | (refine s1_store ?_; (refine sc_w (by rfl) (W_storeL (by rfl) (by rfl) (by infer_instance) (by rfl) (by rfl) (by rfl)) (by rfl) ?_; rintro _ _ ⟨rfl, rfl⟩))
    | (refine s1_any ?_; (refine sc_w (by rfl) (W_buildSliceV (by rfl) (by rfl) (by rfl) (by rfl) (by rfl) (by rfl) (by rfl)) (by rfl) ?_; rintro _ _ ⟨_, rfl, rfl, _, _⟩))
    | refine swh_lt (by rfl) (fun _ _ => wanted_none) ?_
    | refine swh_hv (by rfl) (fun _ _ => wanted_none) ?_
    | refine swh_nil ?_
    | (apply And.intro; focus ((repeat (first | exact Ent.refl _ | exact Ent.nil | (apply Ent.pick; focus ((repeat (first | exact Rem.here | apply Rem.there)); done)) | apply Ent.drop)); done))
    | fail)
            exact sx_mid _ trivial (subE.cons rfl (subE.cons rfl (subE.cons rfl (subE.cons rfl (subE.cons rfl (subE.cons rfl subE.nil)))))) (by (repeat (first | exact Ent.refl _ | exact Ent.nil | (apply Ent.pick; focus ((repeat (first | exact Rem.here | apply Rem.there)); done)) | apply Ent.drop)))
          · refine swc_op (by rfl) (fun _ _ => wanted_none) ?_
            repeat' (first
    | (refine s1_any ?_; (refine sc_w (by rfl) (W_buildSliceV (by rfl) (by rfl) (by rfl) (by rfl) (by rfl) (by rfl) (by rfl)) (by rfl) ?_; rintro _ _ ⟨_, rfl, rfl, _, _⟩))
    | (apply And.intro; focus ((repeat (first | exact Ent.refl _ | exact Ent.nil | (apply Ent.pick; focus ((repeat (first | exact Rem.here | apply Rem.there)); done)) | apply Ent.drop)); done))
    | fail)
            refine swg_order [(1, false), (20, false), (21, true), (22, false)] (by rfl) (by decide +kernel) ?_
            repeat' (first
    | (refine s1_load ?_; refine sc_r (L_load' (by rfl) (by infer_instance) (by rfl)) (by rfl) ?_)
    | (refine s1_fieldAddr ?_; refine sc_r (R_fieldAddr (by rfl)) (by rfl) ?_)
    | (refine s1_call ?_; (refine sc_w (by rfl) (W_appendA (by rfl) (by rfl) (by focus ((repeat (first | exact Rem.here | apply Rem.there)); done)) (by infer_instance) (sizesL_mem (by rfl)) (onesL_mem (by rfl)) (by omega)) (by rfl) ?_; rintro vv _ rfl; refine ⟨by (repeat (first | exact Ent.refl _ | exact Ent.nil | (apply Ent.pick; focus ((repeat (first | exact Rem.here | apply Rem.there)); done)) | apply Ent.drop)), ?_⟩; refine swh_know (fun h H => vec_fact H) ?_; rintro ⟨pw, cw, rfl, hw⟩))
    | (refine s1_store ?_; (refine sc_w (by rfl) (W_storeL (by rfl) (by rfl) (by infer_instance) (by rfl) (by rfl) (by rfl)) (by rfl) ?_; rintro _ _ ⟨rfl, rfl⟩))
    | refine swh_lt (by rfl) (fun _ _ => wanted_none) ?_
    | refine swh_hv (by rfl) (fun _ _ => wanted_none) ?_
    | refine swh_nil ?_
    | (apply And.intro; focus ((repeat (first | exact Ent.refl _ | exact Ent.nil | (apply Ent.pick; focus ((repeat (first | exact Rem.here | apply Rem.there)); done)) | apply Ent.drop)); done))
    | fail)
            exact sx_mid _ trivial (subE.cons rfl (subE.cons rfl (subE.cons rfl (subE.cons rfl (subE.cons rfl (subE.cons rfl subE.nil)))))) (by (repeat (first | exact Ent.refl _ | exact Ent.nil | (apply Ent.pick; focus ((repeat (first | exact Rem.here | apply Rem.there)); done)) | apply Ent.drop)))
        · intro v _
          repeat' (first
    | refine swl_op ?_
    | (refine s1_move ?_; refine sc_r (R_move (by rfl)) (by rfl) ?_)
    | (refine s1_assign ?_; refine sc_r (R_assign (by rfl)) (by rfl) ?_)
    | (refine s1_bin ?_; first | refine sc_r (R_add64 (by rfl) (by rfl) (by omega)) (by rfl) ?_ | refine sc_r (R_addu64 (by rfl) (by rfl) (by omega)) (by rfl) ?_)
    | refine swl_nil ?_
    | refine sx_next ?_
    | refine sw_region ?_
    | refine sx_block_normal ?_
    | fail)
          refine sx_back (k + 1, v) (by simp only; omega) (by simp only; omega) (subE.cons rfl (subE.cons rfl (subE.cons rfl (subE.cons (by refine congrArg (fun z => some (Value.int .i64 z)) ?_; simp only; omega) (subE.cons rfl (subE.cons rfl subE.nil)))))) ?_
          dsimp only
          rw [hts]
          (repeat (first | exact Ent.refl _ | exact Ent.nil | (apply Ent.pick; focus ((repeat (first | exact Rem.here | apply Rem.there)); done)) | apply Ent.drop))
      · obtain rfl : k = N := by omega
        have hb3' : ∀ (L : List HP), SlC L (some ⟨b0, o0, none⟩) 1 128 c (b.map u8c) → SlC L (some ⟨b0, o0, none⟩) 1 124 c ((b.take 124).map u8c) := fun L h => by
          have := h.take 124 (by omega)
          rwa [← List.map_take] at this
        cases hcl : clearF (b.take 124) (16 + 8 * (k : Int))
        · rw [if_neg (by simp)]
          repeat' (first
    | refine swl_op ?_
    | (refine s1_move ?_; refine sc_r (R_move (by rfl)) (by rfl) ?_)
    | (refine s1_assign ?_; refine sc_r (R_assign (by rfl)) (by rfl) ?_)
    | (refine s1_pick ?_; refine sc_r (R_pick_t (by rfl) (by rfl)) (by rfl) ?_)
    | (refine s1_bin ?_; refine sc_r (R_lss (by rfl) (by rfl)) (by rfl) ?_)
    | (refine s1_call ?_; (refine sc_c (by rfl) (C_call (by rfl) (by infer_instance) (by rfl) (by rfl) (pack_Clear' _ _ _ hcl (hb3' _ (by infer_instance)))) (by rfl) ?_; rintro _ _ ⟨rfl, rfl⟩))
    | (refine s1_store ?_; (refine sc_w (by rfl) (W_storeAll (by rfl) (by rfl) (by infer_instance) (by rfl) (by rfl) (by rfl)) (by rfl) ?_; rintro _ _ ⟨rfl, rfl⟩))
    | (refine s1_slice ?_; refine sc_r (R_slice_h (by rfl) (by rfl) (by omega)) (by rfl) ?_)
    | (refine s1_any ?_; first | refine sc_r (R_buildL (by rfl) (by rfl)) (by rfl) ?_ | refine sc_r (R_not (by rfl)) (by rfl) ?_)
    | refine swl_nil ?_
    | refine sx_next ?_
    | refine sw_seq ?_
    | refine sw_region ?_
    | refine swl_g_off (by rfl) (by rfl) (by rfl) (by rfl) ?_
    | refine sx_past_ret ?_
    | refine sx_past_exit ?_
    | refine sx_block_here ?_
    | refine sw_cond_true (by rfl) ?_
    | refine sw_cond_neg (by rfl) (by first | assumption | omega) ?_
    | refine sw_ret ?_
    | refine sw_exit ?_
    | fail)
          exact sx_ret_of (res2 rfl (ResOne.cellA (by rfl) (by infer_instance) (by rfl)) (ResOne.tmp rfl)) _ ⟨_, rfl, rfl⟩ (by (repeat (first | apply Ent.drop | exact Ent.vec_nil)))
        · cases hm : mayP ⟨IntKind.i64.wrap h1, IntKind.i64.wrap h2, decide (h4 = 1), (List.range k).map (decE b)⟩
          · replace hmay := fun (L : List HP) (pp : Option Addr) (n c : Nat) (h : SlC L pp 4 n c (((List.range k).map (decE b)).map EntS.cells)) => hmay false hm h
            rw [if_neg (by simp)]
            simp only [PartS.cells] at hmay
            repeat' (first
    | refine swl_op ?_
    | (refine s1_move ?_; refine sc_r (R_move (by rfl)) (by rfl) ?_)
    | (refine s1_load ?_; refine sc_r (L_load_all (by rfl) (by infer_instance) (by rfl)) (by rfl) ?_)
    | (refine s1_assign ?_; refine sc_r (R_assign (by rfl)) (by rfl) ?_)
    | (refine s1_pick ?_; refine sc_r (R_pick_f (by rfl) (by rfl)) (by rfl) ?_)
    | (refine s1_bin ?_; refine sc_r (R_lss (by rfl) (by rfl)) (by rfl) ?_)
    | (refine s1_call ?_; first | (refine sc_c (by rfl) (C_call (by rfl) (by infer_instance) (by rfl) (by rfl) (pack_Clear' _ _ _ hcl (hb3' _ (by infer_instance)))) (by rfl) ?_; rintro _ _ ⟨rfl, rfl⟩) | (refine sc_c (by rfl) (C_call (by rfl) (by infer_instance) (by rfl) (by rfl) (hmay _ _ _ _ (by infer_instance))) (by rfl) ?_; rintro _ _ ⟨rfl, rfl⟩))
    | (refine s1_store ?_; (refine sc_w (by rfl) (W_storeAll (by rfl) (by rfl) (by infer_instance) (by rfl) (by rfl) (by rfl)) (by rfl) ?_; rintro _ _ ⟨rfl, rfl⟩))
    | (refine s1_slice ?_; refine sc_r (R_slice_h (by rfl) (by rfl) (by omega)) (by rfl) ?_)
    | (refine s1_any ?_; first | refine sc_r (R_buildL (by rfl) (by rfl)) (by rfl) ?_ | refine sc_r (R_not (by rfl)) (by rfl) ?_)
    | refine swl_nil ?_
    | refine sx_next ?_
    | refine sw_seq ?_
    | refine sw_region ?_
    | refine swl_g_on (by rfl) (by rfl) ?_
    | refine sx_past_ret ?_
    | refine sx_past_exit ?_
    | refine sx_block_here ?_
    | refine sw_cond_true (by rfl) ?_
    | refine sw_cond_neg (by rfl) (by first | assumption | omega) ?_
    | refine sw_ret ?_
    | refine sw_exit ?_
    | fail)
            exact sx_ret_of (res2 rfl (ResOne.cellA (by rfl) (by infer_instance) (by rfl)) (ResOne.tmp rfl)) _ ⟨_, rfl, rfl⟩ (by (repeat (first | apply Ent.drop | exact Ent.vec_nil)))
          · replace hmay := fun (L : List HP) (pp : Option Addr) (n c : Nat) (h : SlC L pp 4 n c (((List.range k).map (decE b)).map EntS.cells)) => hmay true hm h
            rw [if_pos (by simp)]
            simp only [PartS.cells] at hmay ⊢
            repeat' (first
    | refine swl_op ?_
    | (refine s1_move ?_; refine sc_r (R_move (by rfl)) (by rfl) ?_)
    | (refine s1_load ?_; refine sc_r (L_load_all (by rfl) (by infer_instance) (by rfl)) (by rfl) ?_)
    | (refine s1_assign ?_; refine sc_r (R_assign (by rfl)) (by rfl) ?_)
    | (refine s1_pick ?_; refine sc_r (R_pick_f (by rfl) (by rfl)) (by rfl) ?_)
    | (refine s1_bin ?_; refine sc_r (R_lss (by rfl) (by rfl)) (by rfl) ?_)
    | (refine s1_call ?_; first | (refine sc_c (by rfl) (C_call (by rfl) (by infer_instance) (by rfl) (by rfl) (pack_Clear' _ _ _ hcl (hb3' _ (by infer_instance)))) (by rfl) ?_; rintro _ _ ⟨rfl, rfl⟩) | (refine sc_c (by rfl) (C_call (by rfl) (by infer_instance) (by rfl) (by rfl) (hmay _ _ _ _ (by infer_instance))) (by rfl) ?_; rintro _ _ ⟨rfl, rfl⟩))
    | (refine s1_store ?_; (refine sc_w (by rfl) (W_storeAll (by rfl) (by rfl) (by infer_instance) (by rfl) (by rfl) (by rfl)) (by rfl) ?_; rintro _ _ ⟨rfl, rfl⟩))
    | (refine s1_slice ?_; refine sc_r (R_slice_h (by rfl) (by rfl) (by omega)) (by rfl) ?_)
    | (refine s1_any ?_; refine sc_r (R_not (by rfl)) (by rfl) ?_)
    | refine swl_nil ?_
    | refine sx_next ?_
    | refine sw_seq ?_
    | refine sw_region ?_
    | refine swl_g_on (by rfl) (by rfl) ?_
    | refine sx_past_exit ?_
    | refine sx_block_here ?_
    | refine sw_cond_false (by rfl) ?_
    | refine sw_cond_neg (by rfl) (by first | assumption | omega) ?_
    | refine sw_ret ?_
    | refine sw_exit ?_
    | refine sw_skip ?_
    | fail)
            exact sx_ret_of (res2 rfl (ResOne.cellA (by rfl) (by infer_instance) (by rfl)) (ResOne.tmp rfl)) _ ⟨_, rfl, rfl⟩ (by (repeat (first | exact Ent.refl _ | exact Ent.nil | (apply Ent.pick; focus ((repeat (first | exact Rem.here | apply Rem.there)); done)) | apply Ent.drop)))
end Go.Proofs.YtjdnflhejfcgdaaDoor

/-
  Vaults: where a segment begins; parts against one another; writes one behind the other.
-/
namespace Go.Proofs.YtjdnflhejfcgdaaDoor
open Go Go.SL Go.Proofs

def volF (g : Geo) (seg : Int) : Int × Int × Int := if (firstOf g seg).2 = 0 ∧ tierOf g (firstOf g seg).1 = 2 then ((firstOf g seg).1, (whereOf g (firstOf g seg).1).1.vol, 0) else (0, 0, 4)
theorem tier2_where {g : Geo} {a : Int} (h : tierOf g a = 2) : (whereOf g a).2 = 0 ∧ 0 ≤ (whereOf g a).1.vol := by
  have h0 : (segOf g a).2 = 0 ∧ ¬ (segOf g a).1 < g.disk := by
    unfold tierOf at h
    by_cases hs : (segOf g a).2 = 0
    · rw [if_pos hs] at h
      refine ⟨hs, fun hd => ?_⟩
      split at h <;> omega
    · rw [if_neg hs] at h; omega
  obtain ⟨hm, h1, h2, h3⟩ := segOf_ok h0.1
  have hg := mayG_is hm
  unfold whereOf
  rw [if_pos h0.1, if_neg h0.2]
  exact ⟨rfl, Int.ediv_nonneg (by omega) (by omega)⟩

theorem vault_volume (g : Geo) (seg : Int) {L : List HP} : Tr Tryd.prog 27 [.agg g.cells, .int .i64 seg].toArray L (fun v L' => v = .tuple #[.int .i64 (volF g seg).1, .int .i64 (volF g seg).2.1, .int .i64 (volF g seg).2.2] ∧ L = L') := by
  refine tr_enter Tryd.func27 rfl Tryd.ntmps27 rfl fun w0 => ?_
  have hF := fun (L : List HP) => addr_First g seg (L := L)
  unfold volF
  generalize firstOf g seg = fo at *
  obtain ⟨a, e⟩ := fo
  have hT := fun (L : List HP) => addr_Tier g a (L := L)
  have hW := fun (L : List HP) => addr_Where g a (L := L)
  have hok := tier2_where (g := g) (a := a)
  dsimp only at hF ⊢
  by_cases h : e = 0 ∧ tierOf g a = 2
  · obtain ⟨rfl, ht⟩ := h
    rw [if_pos ⟨rfl, ht⟩]
    obtain ⟨hw0, _⟩ := hok ht
    rw [ht] at hT
    rw [hw0] at hW
    generalize (whereOf g a).1 = p at *
    obtain ⟨vol, s2, off⟩ := p
    simp only [Geo.cells, Place.cells] at *
    repeat' (first
    | refine swl_op ?_
    | (refine s1_move ?_; refine sc_r (R_move (by rfl)) (by rfl) ?_)
    | (refine s1_load ?_; first | refine sc_r (L_load' (by rfl) (by infer_instance) (by rfl)) (by rfl) ?_ | refine sc_r (L_load_all (by rfl) (by infer_instance) (by rfl)) (by rfl) ?_)
    | (refine s1_fieldAddr ?_; refine sc_r (R_fieldAddr (by rfl)) (by rfl) ?_)
    | (refine s1_assign ?_; refine sc_r (R_assign (by rfl)) (by rfl) ?_)
    | (refine s1_pick ?_; refine sc_r (R_pick_f (by rfl) (by rfl)) (by rfl) ?_)
    | (refine s1_bin ?_; refine sc_r (R_neq (by rfl) (by rfl)) (by rfl) ?_)
    | (refine s1_call ?_; first | (refine sc_c (by rfl) (C_call (by rfl) (by infer_instance) (by rfl) (by rfl) (hF _)) (by rfl) ?_; rintro _ _ ⟨rfl, rfl⟩) | (refine sc_c (by rfl) (C_call (by rfl) (by infer_instance) (by rfl) (by rfl) (hT _)) (by rfl) ?_; rintro _ _ ⟨rfl, rfl⟩) | (refine sc_c (by rfl) (C_call (by rfl) (by infer_instance) (by rfl) (by rfl) (hW _)) (by rfl) ?_; rintro _ _ ⟨rfl, rfl⟩))
    | (refine s1_store ?_; (refine sc_w (by rfl) (W_storeAll (by rfl) (by rfl) (by infer_instance) (by rfl) (by rfl) (by rfl)) (by rfl) ?_; rintro _ _ ⟨rfl, rfl⟩))
    | (refine s1_alloc ?_; (refine sc_w (by rfl) W_allocA (by rfl) ?_; rintro _ _ ⟨_, rfl, rfl⟩))
    | (refine s1_box ?_; (refine sc_w (by rfl) (W_boxA (by rfl)) (by rfl) ?_; rintro _ _ ⟨_, rfl, rfl⟩))
    | (refine s1_any ?_; refine sc_r (R_extract (by rfl) (by rfl)) (by rfl) ?_)
    | refine swl_nil ?_
    | refine sx_next ?_
    | refine sw_seq ?_
    | refine sw_region ?_
    | refine swl_g_on (by rfl) (by rfl) ?_
    | refine sw_cond_false (by rfl) ?_
    | refine sw_ret ?_
    | refine sw_skip ?_
    | refine swh_lt (by rfl) (fun _ _ => wanted_none) ?_
    | refine swh_nil ?_
    | (refine sw_draw [(0, true), (1, true), (2, true), (3, true), (4, true), (5, true)] follows ?_ ?_ ?_; (focus rfl); (focus (decide +kernel)))
    | fail)
    exact sx_ret_of (res3 rfl (ResOne.tmp rfl) (ResOne.tmp rfl) (ResOne.tmp rfl)) L ⟨rfl, rfl⟩ (by (repeat (first | exact Ent.refl _ | exact Ent.nil | (apply Ent.pick; focus ((repeat (first | exact Rem.here | apply Rem.there)); done)) | apply Ent.drop)))
  · rw [if_neg h]
    simp only [Geo.cells] at *
    generalize tierOf g a = t at *
    by_cases he : e = 0
    · have ht : t ≠ 2 := fun h' => h ⟨he, h'⟩
      repeat' (first
    | refine swl_op ?_
    | (refine s1_move ?_; refine sc_r (R_move (by rfl)) (by rfl) ?_)
    | (refine s1_load ?_; refine sc_r (L_load_all (by rfl) (by infer_instance) (by rfl)) (by rfl) ?_)
    | (refine s1_assign ?_; refine sc_r (R_assign (by rfl)) (by rfl) ?_)
    | (refine s1_pick ?_; refine sc_r (R_pick_f (by rfl) (by rfl)) (by rfl) ?_)
    | (refine s1_bin ?_; refine sc_r (R_neq (by rfl) (by rfl)) (by rfl) ?_)
    | (refine s1_call ?_; first | (refine sc_c (by rfl) (C_call (by rfl) (by infer_instance) (by rfl) (by rfl) (hF _)) (by rfl) ?_; rintro _ _ ⟨rfl, rfl⟩) | (refine sc_c (by rfl) (C_call (by rfl) (by infer_instance) (by rfl) (by rfl) (hT _)) (by rfl) ?_; rintro _ _ ⟨rfl, rfl⟩))
    | (refine s1_box ?_; (refine sc_w (by rfl) (W_boxA (by rfl)) (by rfl) ?_; rintro _ _ ⟨_, rfl, rfl⟩))
    | (refine s1_any ?_; refine sc_r (R_extract (by rfl) (by rfl)) (by rfl) ?_)
    | refine swl_nil ?_
    | refine sx_next ?_
    | refine sw_seq ?_
    | refine sw_region ?_
    | refine swl_g_on (by rfl) (by rfl) ?_
    | refine swl_g_npos (by rfl) (by rfl) (by first | assumption | omega) ?_
    | refine sx_past_ret ?_
    | refine sw_cond_nneg (by rfl) (by first | assumption | omega) ?_
    | refine sw_ret ?_
    | fail)
      exact sx_ret_of (res3 rfl (ResOne.tmp rfl) (ResOne.tmp rfl) (ResOne.tmp rfl)) L ⟨rfl, rfl⟩ (by (repeat (first | exact Ent.refl _ | exact Ent.nil | (apply Ent.pick; focus ((repeat (first | exact Rem.here | apply Rem.there)); done)) | apply Ent.drop)))
    · repeat' (first
    | refine swl_op ?_
    | (refine s1_move ?_; refine sc_r (R_move (by rfl)) (by rfl) ?_)
    | (refine s1_load ?_; refine sc_r (L_load_all (by rfl) (by infer_instance) (by rfl)) (by rfl) ?_)
    | (refine s1_assign ?_; refine sc_r (R_assign (by rfl)) (by rfl) ?_)
    | (refine s1_pick ?_; refine sc_r (R_pick_t (by rfl) (by rfl)) (by rfl) ?_)
    | (refine s1_bin ?_; refine sc_r (R_neq (by rfl) (by rfl)) (by rfl) ?_)
    | (refine s1_call ?_; (refine sc_c (by rfl) (C_call (by rfl) (by infer_instance) (by rfl) (by rfl) (hF _)) (by rfl) ?_; rintro _ _ ⟨rfl, rfl⟩))
    | (refine s1_box ?_; (refine sc_w (by rfl) (W_boxA (by rfl)) (by rfl) ?_; rintro _ _ ⟨_, rfl, rfl⟩))
    | (refine s1_any ?_; refine sc_r (R_extract (by rfl) (by rfl)) (by rfl) ?_)
    | refine swl_nil ?_
    | refine sx_next ?_
    | refine sw_seq ?_
    | refine sw_region ?_
    | refine swl_g_off (by rfl) (by rfl) (by rfl) (by rfl) ?_
    | refine swl_g_nneg (by rfl) (by rfl) (by first | assumption | omega) ?_
    | refine sx_past_ret ?_
    | refine sw_cond_true (by rfl) ?_
    | refine sw_ret ?_
    | fail)
      exact sx_ret_of (res3 rfl (ResOne.tmp rfl) (ResOne.tmp rfl) (ResOne.tmp rfl)) L ⟨rfl, rfl⟩ (by (repeat (first | exact Ent.refl _ | exact Ent.nil | (apply Ent.pick; focus ((repeat (first | exact Rem.here | apply Rem.there)); done)) | apply Ent.drop)))

theorem part_ne {a b : PartS} (h : ¬ (a.seq = b.seq ∧ a.next = b.next ∧ a.fin = b.fin ∧ a.l.length = b.l.length)) : a ≠ b := fun e => h (by rw [e]; exact ⟨rfl, rfl, rfl, rfl⟩)
theorem part_ne_at {a b : PartS} {i : Nat} (h1 : i < a.l.length) (h2 : i < b.l.length) (h : a.l[i] ≠ b.l[i]) : a ≠ b := fun e => by subst e; exact h rfl
theorem part_eq {a b : PartS} (h : a.seq = b.seq ∧ a.next = b.next ∧ a.fin = b.fin) (hl : a.l = b.l) : a = b := by
  obtain ⟨a1, a2, a3, a4⟩ := a
  obtain ⟨b1, b2, b3, b4⟩ := b
  dsimp only at *
  obtain ⟨rfl, rfl, rfl⟩ := h
  subst hl; rfl
theorem vault_same (a b : PartS) {pa pb : Option Addr} {n ca m cb : Nat} {L : List HP} (ha : SlC L pa 4 n ca (a.l.map EntS.cells)) (hb : SlC L pb 4 m cb (b.l.map EntS.cells)) :
    Tr Tryd.prog 33 [.agg (a.cells (.slice pa n ca)), .agg (b.cells (.slice pb m cb))].toArray L (fun v L' => v = .bool (decide (a = b)) ∧ L = L') := by
  have hla : a.l.length = n := by simpa using ha.len
  have hlb : b.l.length = m := by simpa using hb.len
  have hbd := ha.bd
  have hno := part_ne (a := a) (b := b)
  have hat := fun i h1 h2 => part_ne_at (a := a) (b := b) (i := i) h1 h2
  have hyes := part_eq (a := a) (b := b)
  have hd0 : a ≠ b → decide (a = b) = false := fun h => decide_eq_false h
  have hd1 : a = b → decide (a = b) = true := fun h => decide_eq_true h
  generalize decide (a = b) = res at *
  obtain ⟨aseq, anext, afin, al⟩ := a
  obtain ⟨bseq, bnext, bfin, bl⟩ := b
  dsimp only at hla hlb hno hat hyes ha hb
  simp only [PartS.cells]
  refine tr_enter Tryd.func33 rfl Tryd.ntmps33 rfl fun w0 => ?_
  repeat' (first
    | refine swl_op ?_
    | (refine s1_move ?_; refine sc_r (R_move (by rfl)) (by rfl) ?_)
    | (refine s1_load ?_; refine sc_r (L_load' (by rfl) (by infer_instance) (by rfl)) (by rfl) ?_)
    | (refine s1_fieldAddr ?_; refine sc_r (R_fieldAddr (by rfl)) (by rfl) ?_)
    | (refine s1_assign ?_; refine sc_r (R_assign (by rfl)) (by rfl) ?_)
    | (refine s1_pick ?_; first | refine sc_r (R_pick_t (by rfl) (by rfl)) (by rfl) ?_ | refine sc_r (R_pick_f (by rfl) (by rfl)) (by rfl) ?_)
    | (refine s1_bin ?_; first | refine sc_r (R_neq (by rfl) (by rfl)) (by rfl) ?_ | refine sc_r (R_neq_bool (by rfl) (by rfl)) (by rfl) ?_)
    | (refine s1_call ?_; refine sc_r (R_len (by rfl)) (by rfl) ?_)
    | (refine s1_box ?_; (refine sc_w (by rfl) (W_boxA (by rfl)) (by rfl) ?_; rintro _ _ ⟨_, rfl, rfl⟩))
    | refine swl_nil ?_
    | refine sx_next ?_
    | refine sw_seq ?_
    | refine sw_region ?_
    | refine sw_block ?_
    | refine swl_g_on (by rfl) (by rfl) ?_
    | refine swl_g_off (by rfl) (by rfl) (by rfl) (by rfl) ?_
    | refine swl_g_ndec (by rfl) (by rfl) (fun hp => ?_) (fun hp => ?_)
    | refine sx_past_ret ?_
    | refine sw_cond_true (by rfl) ?_
    | refine sw_cond_not (by rfl) (fun hp => ?_) (fun hp => ?_)
    | refine sw_ret ?_
    | refine sw_skip ?_
    | fail)
  rotate_left 4
  · have hfin : afin = bfin := by assumption
    obtain rfl : n = m := by omega
    rename_i b3 b2 _ _ _
    refine sw_loop (γ := Nat) (fun k => n - k) (fun k => [(3, .pointer (some ⟨b2, 0, none⟩)), (36, .slice pa n ca), (37, .int .i64 n), (38, .int .i64 k)])
      (fun _ => pt b2 (.cells #[.int .i64 bseq, .int .i64 bnext, .bool bfin, .slice pb n cb] 34) :: L) (fun k => k ≤ n ∧ al.take k = bl.take k) 0 ⟨by omega, rfl⟩ (subE.cons rfl (subE.cons rfl (subE.cons rfl (subE.cons rfl subE.nil)))) (by (repeat (first | exact Ent.refl _ | exact Ent.nil | (apply Ent.pick; focus ((repeat (first | exact Rem.here | apply Rem.there)); done)) | apply Ent.drop))) ?_
    rintro k ⟨hk, htk⟩
    by_cases hlt : k < n
    · obtain ⟨b1, o1, rfl⟩ := ha.ptr (by omega)
      obtain ⟨b4, o4, rfl⟩ := hb.ptr (by omega)
      have hk1 : k < al.length := by omega
      have hk2 : k < bl.length := by omega
      have he1 := ent_get hk1
      have he2 := ent_get hk2
      have hts1 := List.take_succ_eq_append_getElem hk1
      have hts2 := List.take_succ_eq_append_getElem hk2
      have hakk := hat k hk1 hk2
      generalize al[k] = x at *
      generalize bl[k] = y at *
      have hcm := eqIn_Ent x y
      obtain ⟨x1, x2, x3, x4⟩ := x
      simp only [EntS.cells] at *
      repeat' (first
    | refine swl_op ?_
    | (refine s1_move ?_; refine sc_r (R_move (by rfl)) (by rfl) ?_)
    | (refine s1_load ?_; first | refine sc_r (L_load' (by rfl) (by infer_instance) (by rfl)) (by rfl) ?_ | refine sc_r (L_load_all (by rfl) (by infer_instance) (by rfl)) (by rfl) ?_ | refine sc_r (L_load_el (by rfl) (by infer_instance) (by infer_instance) (by omega) (by first | assumption | rfl)) (by rfl) ?_)
    | (refine s1_fieldAddr ?_; refine sc_r (R_fieldAddr (by rfl)) (by rfl) ?_)
    | (refine s1_assign ?_; refine sc_r (R_assign (by rfl)) (by rfl) ?_)
    | (refine s1_bin ?_; first | refine sc_r (R_lss (by rfl) (by rfl)) (by rfl) ?_ | refine sc_r (R_add64 (by rfl) (by rfl) (by omega)) (by rfl) ?_ | refine sc_r (R_neq_st (by rfl) (by rfl) Tryd.eqGuardType72 hcm) (by rfl) ?_)
    | (refine s1_indexAddr ?_; refine sc_r (R_indexAddr (by rfl) (by rfl) (by omega)) (by rfl) ?_)
    | (refine s1_store ?_; (refine sc_w (by rfl) (W_storeAll (by rfl) (by rfl) (by infer_instance) (by rfl) (by rfl) (by rfl)) (by rfl) ?_; rintro _ _ ⟨rfl, rfl⟩))
    | (refine s1_alloc ?_; (refine sc_w (by rfl) W_allocA (by rfl) ?_; rintro _ _ ⟨_, rfl, rfl⟩))
    | refine swl_nil ?_
    | refine sx_next ?_
    | refine sw_seq ?_
    | refine sw_region ?_
    | refine sw_block ?_
    | refine sx_past_ret ?_
    | refine sx_block_normal ?_
    | refine sx_block_ret ?_
    | refine sw_cond_pos (by rfl) (by first | assumption | omega) ?_
    | refine sw_cond_not (by rfl) (fun hp => ?_) (fun hp => ?_)
    | refine sw_ret ?_
    | refine sw_skip ?_
    | refine swh_lt (by rfl) (fun _ _ => wanted_none) ?_
    | refine swh_nil ?_
    | (refine sw_draw [(0, true), (1, true), (2, true), (3, true), (4, true), (5, true), (6, true)] follows ?_ ?_ ?_; (focus rfl); (focus (decide +kernel)))
    | fail)
      · rw [hd0 (hakk (by assumption))]
        exact sx_ret_of (res1 rfl (ResOne.tmp rfl)) L ⟨rfl, rfl⟩ (by (repeat (first | exact Ent.refl _ | exact Ent.nil | (apply Ent.pick; focus ((repeat (first | exact Rem.here | apply Rem.there)); done)) | apply Ent.drop)))
      · exact sx_back (k + 1) (by omega) ⟨by omega, by rw [hts1, hts2, htk]; congr 2⟩ (subE.cons rfl (subE.cons rfl (subE.cons rfl (subE.cons rfl subE.nil)))) (by (repeat (first | exact Ent.refl _ | exact Ent.nil | (apply Ent.pick; focus ((repeat (first | exact Rem.here | apply Rem.there)); done)) | apply Ent.drop)))
    · rw [List.take_of_length_le (by omega), List.take_of_length_le (by omega)] at htk
      rw [hd1 (hyes ⟨by omega, by omega, hfin⟩ htk)]
      repeat' (first
    | refine swl_op ?_
    | (refine s1_assign ?_; refine sc_r (R_assign (by rfl)) (by rfl) ?_)
    | (refine s1_bin ?_; refine sc_r (R_lss (by rfl) (by rfl)) (by rfl) ?_)
    | refine swl_nil ?_
    | refine sx_next ?_
    | refine sw_seq ?_
    | refine sw_region ?_
    | refine sx_past_exit ?_
    | refine sx_block_here ?_
    | refine sw_cond_neg (by rfl) (by first | assumption | omega) ?_
    | refine sw_ret ?_
    | refine sw_exit ?_
    | fail)
      exact sx_ret_of (res1 rfl (ResOne.tmp rfl)) L ⟨rfl, rfl⟩ (by (repeat (first | exact Ent.refl _ | exact Ent.nil | (apply Ent.pick; focus ((repeat (first | exact Rem.here | apply Rem.there)); done)) | apply Ent.drop)))
  all_goals
    rw [hd0 (hno (by first | omega | (intro h; have := h.2.2.1; simp_all)))]
    exact sx_ret_of (res1 rfl (ResOne.tmp rfl)) L ⟨rfl, rfl⟩ (by (repeat (first | exact Ent.refl _ | exact Ent.nil | (apply Ent.pick; focus ((repeat (first | exact Rem.here | apply Rem.there)); done)) | apply Ent.drop)))
end Go.Proofs.YtjdnflhejfcgdaaDoor

/-
  Vaults: writes one behind the other; blocks of slices.
-/
namespace Go.Proofs.YtjdnflhejfcgdaaDoor
open Go Go.SL Go.Proofs

abbrev DV := DevS × List (Nat × DevS)
def wrAll (g : Geo) : DV → Int → List (List Int) → Int × DV
  | st, _, [] => (0, st)
  | st, a, b :: r => if wrME g st.1 st.2 a b.length = 0 then wrAll g (wrMD g st.1 a b, wrMV g st.2 a b) (a + 1) r else (wrME g st.1 st.2 a b.length, (wrMD g st.1 a b, wrMV g st.2 a b))
theorem wrAll_fst (g : Geo) : ∀ (bs : List (List Int)) (st : DV) (a : Int), ((wrAll g st a bs).2.2.map Prod.fst) = st.2.map Prod.fst
  | [], _, _ => rfl
  | b :: r, st, a => by
    unfold wrAll
    split
    · rw [wrAll_fst g r]; exact wrMV_fst ..
    · exact wrMV_fst ..
theorem wrAll_PB (g : Geo) : ∀ (bs : List (List Int)) (st : DV) (a : Int) (q : Nat), PB q st.1 st.2 → PB (q + bs.length) (wrAll g st a bs).2.1 (wrAll g st a bs).2.2
  | [], _, _, _, h => h
  | b :: r, st, a, q, h => by
    have h1 := h.write g a b
    unfold wrAll
    split
    · have := wrAll_PB g r (wrMD g st.1 a b, wrMV g st.2 a b) (a + 1) (q + 1) h1
      rw [List.length_cons, show q + (r.length + 1) = q + 1 + r.length by omega]; exact this
    · refine ⟨Nat.le_trans h1.1 (by simp), fun x hx => Nat.le_trans (h1.2 x hx) (by simp)⟩

set_option maxHeartbeats 1000000 in
theorem vault_write (m d : Nat) (g : Geo) (gens : List Int) (vs : List Nat) (at' : Int) (bs : List BS) (q : Nat) (st : DV) (hvs : st.2.map Prod.fst = vs) (hP : PB q st.1 st.2) (hq : q + bs.length ≤ 1000000000) (hat : -1000000000000 ≤ at' ∧ at' ≤ 1000000000000)
    {bp : Option Addr} {nb cb : Nat} {F : List HP} (hb : SlC F bp 1 nb cb (bs.map BS.cell)) (hx : ∀ x ∈ bs, SlC F x.p 1 x.n x.c (x.l.map u8c)) :
    Tr Tryd.prog 31 [.pointer (some ⟨m, 0, none⟩), .int .i64 at', .slice bp nb cb].toArray (medP m d vs g gens :: devP d st.1 :: devsP st.2 :: F)
      (fun v L' => v = .int .i64 (wrAll g st at' (bs.map BS.l)).1 ∧ L' = medP m d vs g gens :: devP d (wrAll g st at' (bs.map BS.l)).2.1 :: devsP (wrAll g st at' (bs.map BS.l)).2.2 :: F) := by
  have hlen : bs.length = nb := by simpa using hb.len
  refine tr_enter Tryd.func31 rfl Tryd.ntmps31 rfl fun w0 => ?_
  repeat' (first
    | refine swl_op ?_
    | (refine s1_move ?_; refine sc_r (R_move (by rfl)) (by rfl) ?_)
    | (refine s1_assign ?_; refine sc_r (R_assign (by rfl)) (by rfl) ?_)
    | (refine s1_call ?_; refine sc_r (R_len (by rfl)) (by rfl) ?_)
    | refine swl_nil ?_
    | refine sx_next ?_
    | refine sw_seq ?_
    | refine sw_region ?_
    | refine sw_block ?_
    | fail)
  refine sw_loop (γ := Nat × DV) (fun k => nb - k.1) (fun k => [(0, .pointer (some ⟨m, 0, none⟩)), (1, .int .i64 at'), (10, .slice bp nb cb), (11, .int .i64 nb), (12, .int .i64 k.1)])
    (fun k => medP m d vs g gens :: devP d k.2.1 :: devsP k.2.2 :: F) (fun k => k.1 ≤ nb ∧ wrAll g st at' (bs.map BS.l) = wrAll g k.2 (at' + k.1) ((bs.map BS.l).drop k.1) ∧ k.2.2.map Prod.fst = vs ∧ PB (q + k.1) k.2.1 k.2.2) (0, st) ⟨by simp, by simp, hvs, hP⟩
    (subE.cons rfl (subE.cons rfl (subE.cons rfl (subE.cons rfl (subE.cons rfl subE.nil))))) (by (repeat (first | exact Ent.refl _ | exact Ent.nil | (apply Ent.pick; focus ((repeat (first | exact Rem.here | apply Rem.there)); done)) | apply Ent.drop))) ?_
  rintro ⟨k, s, vl⟩ ⟨hk, hw, hv, hPk⟩
  dsimp only at hk hw hv hPk ⊢
  subst hv
  by_cases hlt : k < nb
  · obtain ⟨b1, o1, rfl⟩ := hb.ptr (by omega)
    have hk1 : k < bs.length := by omega
    have he1 := bs_get hk1
    have hxk := hx bs[k] (List.getElem_mem hk1)
    rw [List.drop_eq_getElem_cons (by simpa using hk1), List.getElem_map] at hw
    generalize bs[k] = x at *
    obtain ⟨p, n, c, l⟩ := x
    dsimp only at *
    have cW := medium_Write m d g gens s vl (at' + k) l (by have := hPk.1; omega) (fun x hx => by have := hPk.2 x hx; omega) hxk
    have hv2 := wrMV_fst g vl (at' + k) l
    have hP2 := hPk.write g (at' + k) l
    simp only [wrAll] at hw
    generalize wrMV g vl (at' + k) l = vl2 at *
    generalize wrMD g s (at' + k) l = s2 at *
    by_cases h0 : wrME g s vl (at' + k) l.length = 0
    · rw [if_pos h0] at hw
      rw [h0] at cW
      repeat' (first
    | refine swl_op ?_
    | (refine s1_move ?_; refine sc_r (R_move (by rfl)) (by rfl) ?_)
    | (refine s1_load ?_; refine sc_r (L_load_el1 (by rfl) (by infer_instance) (by omega) (by first | assumption | rfl)) (by rfl) ?_)
    | (refine s1_assign ?_; refine sc_r (R_assign (by rfl)) (by rfl) ?_)
    | (refine s1_bin ?_; first | refine sc_r (R_lss (by rfl) (by rfl)) (by rfl) ?_ | refine sc_r (R_add64 (by rfl) (by rfl) (by omega)) (by rfl) ?_ | refine sc_r (R_neq (by rfl) (by rfl)) (by rfl) ?_)
    | (refine s1_call ?_; (refine sc_c (by rfl) (C_call (by rfl) (by infer_instance) (by rfl) (by rfl) (cW)) (by rfl) ?_; rintro _ _ ⟨rfl, rfl⟩))
    | (refine s1_indexAddr ?_; refine sc_r (R_indexAddr (by rfl) (by rfl) (by omega)) (by rfl) ?_)
    | refine swl_nil ?_
    | refine sx_next ?_
    | refine sw_seq ?_
    | refine sw_region ?_
    | refine sw_block ?_
    | refine sx_block_normal ?_
    | refine sw_cond_false (by rfl) ?_
    | refine sw_cond_pos (by rfl) (by first | assumption | omega) ?_
    | refine sw_skip ?_
    | fail)
      exact sx_back (k + 1, s2, vl2) (by simp only; omega) ⟨by simp only; omega, by rw [hw, Int.add_assoc]; rfl, hv2, hP2⟩ (subE.cons rfl (subE.cons rfl (subE.cons rfl (subE.cons rfl (subE.cons rfl subE.nil))))) (by (repeat (first | exact Ent.refl _ | exact Ent.nil | (apply Ent.pick; focus ((repeat (first | exact Rem.here | apply Rem.there)); done)) | apply Ent.drop)))
    · rw [if_neg h0] at hw
      generalize wrME g s vl (at' + k) l.length = e at *
      repeat' (first
    | refine swl_op ?_
    | (refine s1_move ?_; refine sc_r (R_move (by rfl)) (by rfl) ?_)
    | (refine s1_load ?_; refine sc_r (L_load_el1 (by rfl) (by infer_instance) (by omega) (by first | assumption | rfl)) (by rfl) ?_)
    | (refine s1_assign ?_; refine sc_r (R_assign (by rfl)) (by rfl) ?_)
    | (refine s1_bin ?_; first | refine sc_r (R_lss (by rfl) (by rfl)) (by rfl) ?_ | refine sc_r (R_add64 (by rfl) (by rfl) (by omega)) (by rfl) ?_ | refine sc_r (R_neq (by rfl) (by rfl)) (by rfl) ?_)
    | (refine s1_call ?_; (refine sc_c (by rfl) (C_call (by rfl) (by infer_instance) (by rfl) (by rfl) (cW)) (by rfl) ?_; rintro _ _ ⟨rfl, rfl⟩))
    | (refine s1_indexAddr ?_; refine sc_r (R_indexAddr (by rfl) (by rfl) (by omega)) (by rfl) ?_)
    | refine swl_nil ?_
    | refine sx_next ?_
    | refine sw_seq ?_
    | refine sw_region ?_
    | refine sw_block ?_
    | refine sx_past_ret ?_
    | refine sx_block_ret ?_
    | refine sw_cond_pos (by rfl) (by first | assumption | omega) ?_
    | refine sw_cond_nneg (by rfl) (by first | assumption | omega) ?_
    | refine sw_ret ?_
    | refine sw_skip ?_
    | fail)
      exact sx_ret_of (res1 rfl (ResOne.tmp rfl)) _ ⟨by rw [hw], by rw [hw]⟩ (by (repeat (first | exact Ent.refl _ | exact Ent.nil | (apply Ent.pick; focus ((repeat (first | exact Rem.here | apply Rem.there)); done)) | apply Ent.drop)))
  · rw [List.drop_of_length_le (by simp; omega)] at hw
    simp only [wrAll] at hw
    repeat' (first
    | refine swl_op ?_
    | (refine s1_assign ?_; refine sc_r (R_assign (by rfl)) (by rfl) ?_)
    | (refine s1_bin ?_; refine sc_r (R_lss (by rfl) (by rfl)) (by rfl) ?_)
    | refine swl_nil ?_
    | refine sx_next ?_
    | refine sw_seq ?_
    | refine sw_region ?_
    | refine sx_past_exit ?_
    | refine sx_block_here ?_
    | refine sw_cond_neg (by rfl) (by first | assumption | omega) ?_
    | refine sw_ret ?_
    | refine sw_exit ?_
    | fail)
    exact sx_ret_of (res1 rfl (ResOne.tmp rfl)) _ ⟨by rw [hw], by rw [hw]⟩ (by (repeat (first | exact Ent.refl _ | exact Ent.nil | (apply Ent.pick; focus ((repeat (first | exact Rem.here | apply Rem.there)); done)) | apply Ent.drop)))

/-- slices that lie each in a row of its own -/
structure BSok (x : BS) : Prop where
  ok : SlOK x.p x.n x.c
  len : x.l.length = x.n
def blksP (e : TypeId) (bs : List BS) : HP := st (bs.map fun x => vec e 1 (x.l.map u8c) (.slice x.p x.n x.c))
theorem SlC.ofBlks {e : TypeId} {bs : List BS} {x : BS} {L : List HP} (hx : x ∈ bs) (h : BSok x) : SlC (blksP e bs :: L) x.p 1 x.n x.c (x.l.map u8c) := by
  obtain ⟨l1, l2, rfl⟩ := List.append_of_mem hx
  have hv : SlC (vec e 1 (x.l.map u8c) (.slice x.p x.n x.c) :: ((l1 ++ l2).map fun x => vec e 1 (x.l.map u8c) (.slice x.p x.n x.c)) ++ L) x.p 1 x.n x.c (x.l.map u8c) := @SlC.ofVec _ _ _ _ _ _ _ h.ok ⟨by rw [List.length_map]; exact h.len⟩
  refine hv.ent ?_
  unfold blksP
  refine Ent.open_st.trans ?_
  refine Ent.of_perm ?_
  rw [List.map_append, List.map_append, List.map_cons]
  exact (List.perm_middle).append_right L
theorem blks_nil {e : TypeId} {F : List HP} : Ent F (blksP e [] :: F) := by unfold blksP; exact Ent.shut_st (A := [])
theorem blks_snoc {e : TypeId} (bs : List BS) (x : BS) {F : List HP} : Ent (vec e 1 (x.l.map u8c) (.slice x.p x.n x.c) :: blksP e bs :: F) (blksP e (bs ++ [x]) :: F) := by
  unfold blksP
  rw [List.map_append]
  refine Ent.trans ?_ Ent.st_join
  refine Ent.trans (Ent.of_perm (List.Perm.swap _ _ _)) ?_
  exact Ent.cons (Ent.shut_st (A := [_]))
end Go.Proofs.YtjdnflhejfcgdaaDoor

/-
  Vaults: what a segment has.
-/
namespace Go.Proofs.YtjdnflhejfcgdaaDoor
open Go Go.SL Go.Proofs

theorem volF_bd (g : Geo) (seg : Int) : 0 ≤ (volF g seg).1 ∧ (volF g seg).1 ≤ 40000 := by
  have h1 := segsG_bd g
  unfold volF firstOf
  split
  · split
    · split
      · simp only; omega
      · simp
    · simp
  · simp
theorem volF_e (g : Geo) (seg : Int) : (volF g seg).2.2 = 0 ∨ (volF g seg).2.2 = 4 := by
  unfold volF; split
  · exact .inl rfl
  · exact .inr rfl
theorem decodeF_ok {b : List Int} (h : (decodeF b).2 = 0) : mayP (decodeF b).1 = true := by
  unfold decodeF at h ⊢
  split at h
  · split at h
    · split at h
      · rename_i h1 h2 h3
        rw [if_pos h1, if_pos h2, if_pos h3]
        simp only [Bool.and_eq_true] at h3
        exact h3.2
      · simp at h
    · simp at h
  · simp at h
def rdsE (f : Nat → Int) : Nat → Int
  | 0 => 0
  | n + 1 => if rdsE f n = 0 then f n else rdsE f n
theorem rdsE_stop {f : Nat → Int} {i : Nat} (h : rdsE f i = 0) (hi : f i ≠ 0) : ∀ n, i < n → rdsE f n = f i
  | 0, h0 => by omega
  | n + 1, h0 => by
    simp only [rdsE]
    by_cases hn : i = n
    · subst hn; rw [if_pos h]
    · have := rdsE_stop h hi n (by omega)
      rw [if_neg (by omega)]; exact this
def getBs (g : Geo) (st : DV) (a : Int) (n : Nat) : List (List Int) := (List.range n).map fun (i : Nat) => rdMB g st.1 st.2 (a + 1 + (i : Int))
def getE (g : Geo) (st : DV) (a : Int) (n : Nat) : Int := rdsE (fun (i : Nat) => rdME g st.1 st.2 (a + 1 + (i : Int))) n
def getR (g : Geo) (st : DV) (a : Int) (r : PartS × Int) : PartS × List (List Int) × Int :=
  if r.2 = 0 then (if getE g st a r.1.l.length = 0 then (if wholeF r.1 (getBs g st a r.1.l.length) then (r.1, getBs g st a r.1.l.length, 0) else (zeroP, [], 5)) else (zeroP, [], getE g st a r.1.l.length)) else (zeroP, [], 3)
def getF (g : Geo) (st : DV) (seg : Int) : PartS × List (List Int) × Int :=
  if (volF g seg).2.2 = 0 then (if rdME g st.1 st.2 (volF g seg).1 = 0 then getR g st (volF g seg).1 (decodeF (rdMB g st.1 st.2 (volF g seg).1)) else (zeroP, [], rdME g st.1 st.2 (volF g seg).1)) else (zeroP, [], 4)
/-- what is handed back -/
def GetP (m d : Nat) (vs : List Nat) (g : Geo) (gens : List Int) (st : DV) (F : List HP) (r : PartS × List (List Int) × Int) (v : Value) (L' : List HP) : Prop :=
  ∃ sv bv bs, v = .tuple #[.agg (r.1.cells sv), bv, .int .i64 r.2.2] ∧ (∀ x ∈ bs, BSok x) ∧ bs.map BS.l = r.2.1 ∧ L' = vec 72 4 (r.1.l.map EntS.cells) sv :: vec 22 1 (bs.map BS.cell) bv :: blksP 147 bs :: medP m d vs g gens :: devP d st.1 :: devsP st.2 :: F
theorem getP_no {m d : Nat} {vs : List Nat} {g : Geo} {gens : List Int} {st : DV} {F : List HP} {e : Int} : GetP m d vs g gens st F (zeroP, [], e) (.tuple #[.agg #[.int .i64 0, .int .i64 0, .bool false, .slice none 0 0], .slice none 0 0, .int .i64 e])
    (vec 72 4 [] (.slice none 0 0) :: vec 22 1 [] (.slice none 0 0) :: blksP 147 [] :: medP m d vs g gens :: devP d st.1 :: devsP st.2 :: F) := ⟨.slice none 0 0, .slice none 0 0, [], rfl, by simp, rfl, rfl⟩
theorem ent_no {m d : Nat} {vs : List Nat} {g : Geo} {gens : List Int} {st : DV} {F L : List HP} (h : Ent L (medP m d vs g gens :: devP d st.1 :: devsP st.2 :: F)) :
    Ent L (vec 72 4 [] (.slice none 0 0) :: vec 22 1 [] (.slice none 0 0) :: blksP 147 [] :: medP m d vs g gens :: devP d st.1 :: devsP st.2 :: F) :=
  ((h.trans blks_nil).trans Ent.vec_nil).trans Ent.vec_nil

set_option maxHeartbeats 4000000 in
theorem vault_Get (m d : Nat) (g : Geo) (gens : List Int) (vs : List Nat) (st : DV) (seg : Int) (hvs : st.2.map Prod.fst = vs) {F : List HP} [HalvesC F] :
    Tr Tryd.prog 10 [.pointer (some ⟨m, 0, none⟩), .int .i64 seg].toArray (medP m d vs g gens :: devP d st.1 :: devsP st.2 :: F) (GetP m d vs g gens st F (getF g st seg)) := by
  subst hvs
  refine tr_enter Tryd.func10 rfl Tryd.ntmps10 rfl fun w0 => ?_
  have cG := fun (F : List HP) => medium_Geo m d (st.2.map Prod.fst) g gens (F := F)
  have cV := fun (L : List HP) => vault_volume g seg (L := L)
  have cR := fun (a : Int) (F : List HP) => medium_Read m d g gens st.1 st.2 a (F := F)
  have hvb := volF_bd g seg
  have hve := volF_e g seg
  unfold getF
  generalize volF g seg = vf at *
  obtain ⟨a, vol, e⟩ := vf
  dsimp only at *
  by_cases he : e = 0
  · subst he
    rw [if_pos rfl]
    have cR0 := cR a
    by_cases hr : rdME g st.1 st.2 a = 0
    · rw [if_pos hr]
      rw [hr] at cR0
      have cD := fun (L : List HP) (p : Option Addr) (n c : Nat) (hg : HalvesC L) (h : SlC L p 1 n c ((rdMB g st.1 st.2 a).map u8c)) => summary_Decode (rdMB g st.1 st.2 a) h
      have hdo := decodeF_ok (b := rdMB g st.1 st.2 a)
      generalize decodeF (rdMB g st.1 st.2 a) = r at *
      generalize rdMB g st.1 st.2 a = hb at *
      obtain ⟨p, e⟩ := r
      unfold getR
      dsimp only at *
      by_cases he2 : e = 0
      · subst he2
        rw [if_pos rfl]
        have hb13 : p.l.length ≤ 13 := by have := (mayP_is (hdo rfl)).1; omega
        simp only [PartS.cells] at cD
        repeat' (first
    | refine swl_op ?_
    | (refine s1_move ?_; refine sc_r (R_move (by rfl)) (by rfl) ?_)
    | (refine s1_load ?_; refine sc_r (L_load' (by rfl) (by infer_instance) (by rfl)) (by rfl) ?_)
    | (refine s1_fieldAddr ?_; refine sc_r (R_fieldAddr (by rfl)) (by rfl) ?_)
    | (refine s1_assign ?_; refine sc_r (R_assign (by rfl)) (by rfl) ?_)
    | (refine s1_bin ?_; refine sc_r (R_neq (by rfl) (by rfl)) (by rfl) ?_)
    | (refine s1_call ?_; first | (refine sc_c (by rfl) (C_call (by rfl) (by infer_instance) (by rfl) (by rfl) (Tr.ent (Ent.pickC (by infer_instance) (Ent.refl _)) (cG _))) (by rfl) ?_; rintro _ _ ⟨rfl, rfl⟩) | (refine sc_c (by rfl) (C_call (by rfl) (by infer_instance) (by rfl) (by rfl) (cV _)) (by rfl) ?_; rintro _ _ ⟨rfl, rfl⟩) | (refine sc_c (by rfl) (C_call (by rfl) (by infer_instance) (by rfl) (by rfl) (Tr.ent (Ent.pickC (by infer_instance) (Ent.pickC (by infer_instance) (Ent.pickC (by infer_instance) (Ent.refl _)))) (cR0 _))) (by rfl) ?_; rintro _ _ ⟨sl, rfl, rfl⟩; refine swl_know (fun h H => vec_fact H) ?_; rintro ⟨pc, cc, rfl, hf⟩; rw [List.length_map] at hf ⊢) | (refine sc_c (by rfl) (C_call (by rfl) (by infer_instance) (by rfl) (by rfl) (cD _ _ _ _ (by infer_instance) (by infer_instance))) (by rfl) ?_; rintro _ _ ⟨sv, rfl, rfl⟩; refine swl_know (fun h H => vec_fact H) ?_; rintro ⟨ps, cs, rfl, hs⟩; rw [List.length_map] at hs ⊢) | refine sc_r (R_len (by rfl)) (by rfl) ?_)
    | (refine s1_store ?_; (refine sc_w (by rfl) (W_storeAll (by rfl) (by rfl) (by infer_instance) (by rfl) (by rfl) (by rfl)) (by rfl) ?_; rintro _ _ ⟨rfl, rfl⟩))
    | (refine s1_alloc ?_; (refine sc_w (by rfl) W_allocA (by rfl) ?_; rintro _ _ ⟨_, rfl, rfl⟩))
    | (refine s1_any ?_; first | refine sc_r (R_extract (by rfl) (by rfl)) (by rfl) ?_ | (refine sc_w (by rfl) (W_makeSlice (n' := p.l.length) (c' := p.l.length) (zc := #[.slice none 0 0]) (by rfl) (by rfl) (by rfl) (by omega) (by omega) (by omega) (by omega)) (by rfl) ?_; rintro _ _ ⟨b12, rfl, hok12, rfl⟩))
    | refine swl_nil ?_
    | refine sx_next ?_
    | refine sw_seq ?_
    | refine sw_region ?_
    | refine sw_block ?_
    | refine sw_cond_false (by rfl) ?_
    | refine sw_skip ?_
    | fail)
        rename_i b4 b11
        refine sw_ent (blks_nil (e := 147)) ?_
        refine sw_loop (γ := Nat × List BS) (fun k => p.l.length - k.1) (fun k => [(0, .pointer (some ⟨m, 0, none⟩)), (4, .pointer (some ⟨b4, 0, none⟩)), (7, .int .i64 a), (11, .pointer (some ⟨b11, 0, none⟩)), (12, .slice (some ⟨b12, 0, none⟩) p.l.length p.l.length), (49, .int .i64 p.l.length), (50, .int .i64 k.1)])
          (fun k => vec 22 1 (k.2.map BS.cell ++ List.replicate (p.l.length - k.1) #[.slice none 0 0]) (.slice (some ⟨b12, 0, none⟩) p.l.length p.l.length) :: blksP 147 k.2 :: medP m d (st.2.map Prod.fst) g gens :: devP d st.1 :: devsP st.2 ::
            vec 72 4 (p.l.map EntS.cells) (.slice ps p.l.length cs) :: pt b11 (.cells #[.int .i64 p.seq, .int .i64 p.next, .bool p.fin, .slice ps p.l.length cs] 34) :: pt b4 (.cells #[.int .i64 0, .int .i64 0, .bool false, .slice none 0 0] 34) :: F)
          (fun k => k.1 ≤ p.l.length ∧ getE g st a k.1 = 0 ∧ k.2.map BS.l = getBs g st a k.1 ∧ ∀ x ∈ k.2, BSok x) (0, []) ⟨by simp, rfl, rfl, by simp⟩
          (subE.cons rfl (subE.cons rfl (subE.cons rfl (subE.cons rfl (subE.cons rfl (subE.cons rfl (subE.cons rfl subE.nil))))))) (by (repeat (first | exact Ent.refl _ | exact Ent.nil | (apply Ent.pick; focus ((repeat (first | exact Rem.here | apply Rem.there)); done)) | apply Ent.drop))) ?_
        rintro ⟨k, bs⟩ ⟨hk, hge, hgb, hbo⟩
        dsimp only at hk hge hgb hbo ⊢
        have hbl : bs.length = k := by have := congrArg List.length hgb; simpa [getBs] using this
        by_cases hlt : k < p.l.length
        · have cRk := cR (a + 1 + (k : Int))
          have hgs : getE g st a (k + 1) = rdME g st.1 st.2 (a + 1 + (k : Int)) := by show (if getE g st a k = 0 then _ else _) = _; rw [if_pos hge]
          have hgx : getBs g st a (k + 1) = getBs g st a k ++ [rdMB g st.1 st.2 (a + 1 + (k : Int))] := by simp [getBs, List.range_succ]
          have hstop := fun h => rdsE_stop (f := fun (i : Nat) => rdME g st.1 st.2 (a + 1 + (i : Int))) (i := k) hge h p.l.length hlt
          have hset : ∀ (x : Value), (bs.map BS.cell ++ List.replicate (p.l.length - k) #[Value.slice none 0 0]).set k #[x] = bs.map BS.cell ++ #[x] :: List.replicate (p.l.length - (k + 1)) #[Value.slice none 0 0] := fun x => by
            rw [List.set_append_right _ _ (by simp; omega), List.length_map, hbl, Nat.sub_self, show p.l.length - k = (p.l.length - (k + 1)) + 1 by omega, List.replicate_succ, List.set_cons_zero]
          have hli : k < (bs.map BS.cell ++ List.replicate (p.l.length - k) #[Value.slice none 0 0]).length := by simp; omega
          change (rdME g st.1 st.2 (a + 1 + (k : Int)) ≠ 0 → getE g st a p.l.length = rdME g st.1 st.2 (a + 1 + (k : Int))) at hstop
          generalize rdMB g st.1 st.2 (a + 1 + (k : Int)) = bk at *
          by_cases h0 : rdME g st.1 st.2 (a + 1 + (k : Int)) = 0
          · rw [h0] at cRk hgs
            repeat' (first
    | refine swl_op ?_
    | (refine s1_move ?_; refine sc_r (R_move (by rfl)) (by rfl) ?_)
    | (refine s1_assign ?_; refine sc_r (R_assign (by rfl)) (by rfl) ?_)
    | (refine s1_bin ?_; first | refine sc_r (R_lss (by rfl) (by rfl)) (by rfl) ?_ | refine sc_r (R_add64 (by rfl) (by rfl) (by omega)) (by rfl) ?_ | refine sc_r (R_neq (by rfl) (by rfl)) (by rfl) ?_)
    | (refine s1_call ?_; (refine sc_c (by rfl) (C_call (by rfl) (by infer_instance) (by rfl) (by rfl) (Tr.ent (Ent.pickC (by infer_instance) (Ent.pickC (by infer_instance) (Ent.pickC (by infer_instance) (Ent.refl _)))) (cRk _))) (by rfl) ?_; rintro _ _ ⟨sl2, rfl, rfl⟩; refine swl_know (fun h H => vec_fact H) ?_; rintro ⟨pk, ck, rfl, hfk⟩; rw [List.length_map] at hfk ⊢))
    | (refine s1_indexAddr ?_; refine sc_r (R_indexAddr (by rfl) (by rfl) (by omega)) (by rfl) ?_)
    | (refine s1_store ?_; (refine sc_w (by rfl) (W_store_el1 (by rfl) (by rfl) (by focus ((repeat (first | exact Rem.here | apply Rem.there)); done)) (by rfl) hli) (by rfl) ?_; rintro _ _ ⟨rfl, rfl⟩; rw [Int.toNat_natCast, hset]))
    | (refine s1_any ?_; refine sc_r (R_extract (by rfl) (by rfl)) (by rfl) ?_)
    | refine swl_nil ?_
    | refine sx_next ?_
    | refine sw_seq ?_
    | refine sw_region ?_
    | refine sw_block ?_
    | refine sx_block_normal ?_
    | refine sw_cond_false (by rfl) ?_
    | refine sw_cond_pos (by rfl) (by first | assumption | omega) ?_
    | refine sw_skip ?_
    | fail)
            refine sx_back (k + 1, bs ++ [⟨pk, bk.length, ck, bk⟩]) (by simp only; omega) ⟨by simp only; omega, hgs, by rw [List.map_append, hgb, hgx]; rfl, fun x hx => ?_⟩ (subE.cons rfl (subE.cons rfl (subE.cons rfl (subE.cons rfl (subE.cons rfl (subE.cons rfl (subE.cons rfl subE.nil))))))) ?_
            · rcases List.mem_append.1 hx with hx | hx
              · exact hbo x hx
              · rw [List.mem_singleton.1 hx]; exact ⟨hfk, rfl⟩
            · dsimp only
              rw [List.map_append, List.append_assoc]
              refine Ent.pick (by focus ((repeat (first | exact Rem.here | apply Rem.there)); done)) (Ent.trans ?_ (blks_snoc bs ⟨pk, bk.length, ck, bk⟩))
              (repeat (first | exact Ent.refl _ | exact Ent.nil | (apply Ent.pick; focus ((repeat (first | exact Rem.here | apply Rem.there)); done)) | apply Ent.drop))
          · rw [hstop h0, if_neg h0]
            generalize rdME g st.1 st.2 (a + 1 + (k : Int)) = ek at *
            repeat' (first
    | refine swl_op ?_
    | (refine s1_move ?_; refine sc_r (R_move (by rfl)) (by rfl) ?_)
    | (refine s1_assign ?_; refine sc_r (R_assign (by rfl)) (by rfl) ?_)
    | (refine s1_bin ?_; first | refine sc_r (R_lss (by rfl) (by rfl)) (by rfl) ?_ | refine sc_r (R_add64 (by rfl) (by rfl) (by omega)) (by rfl) ?_ | refine sc_r (R_neq (by rfl) (by rfl)) (by rfl) ?_)
    | (refine s1_call ?_; (refine sc_c (by rfl) (C_call (by rfl) (by infer_instance) (by rfl) (by rfl) (Tr.ent (Ent.pickC (by infer_instance) (Ent.pickC (by infer_instance) (Ent.pickC (by infer_instance) (Ent.refl _)))) (cRk _))) (by rfl) ?_; rintro _ _ ⟨sl2, rfl, rfl⟩; refine swl_know (fun h H => vec_fact H) ?_; rintro ⟨pk, ck, rfl, hfk⟩; rw [List.length_map] at hfk ⊢))
    | (refine s1_indexAddr ?_; refine sc_r (R_indexAddr (by rfl) (by rfl) (by omega)) (by rfl) ?_)
    | (refine s1_store ?_; first | (refine sc_w (by rfl) (W_storeAll (by rfl) (by rfl) (by infer_instance) (by rfl) (by rfl) (by rfl)) (by rfl) ?_; rintro _ _ ⟨rfl, rfl⟩) | (refine sc_w (by rfl) (W_store_el1 (by rfl) (by rfl) (by focus ((repeat (first | exact Rem.here | apply Rem.there)); done)) (by rfl) hli) (by rfl) ?_; rintro _ _ ⟨rfl, rfl⟩))
    | (refine s1_any ?_; first | refine sc_r (R_buildL (by rfl) (by rfl)) (by rfl) ?_ | refine sc_r (R_extract (by rfl) (by rfl)) (by rfl) ?_)
    | refine swl_nil ?_
    | refine sx_next ?_
    | refine sw_seq ?_
    | refine sw_region ?_
    | refine sw_block ?_
    | refine sx_past_ret ?_
    | refine sx_block_ret ?_
    | refine sw_cond_pos (by rfl) (by first | assumption | omega) ?_
    | refine sw_cond_nneg (by rfl) (by first | assumption | omega) ?_
    | refine sw_ret ?_
    | refine sw_skip ?_
    | fail)
            exact sx_ret_of (res3 rfl (ResOne.cellA (by rfl) (by infer_instance) (by rfl)) (ResOne.tmp rfl) (ResOne.tmp rfl)) _ getP_no (ent_no (by (repeat (first | exact Ent.refl _ | exact Ent.nil | (apply Ent.pick; focus ((repeat (first | exact Rem.here | apply Rem.there)); done)) | apply Ent.drop))))
        · obtain rfl : k = p.l.length := by omega
          rw [if_pos hge, ← hgb, Nat.sub_self, List.replicate_zero, List.append_nil]
          have hW := fun (L : List HP) (hg : HalvesC L) (pp : Option Addr) (n c : Nat) (bp : Option Addr) (m cb : Nat) (h1 : SlC L pp 4 n c (p.l.map EntS.cells)) (h2 : SlC L bp 1 m cb (bs.map BS.cell)) (h3 : ∀ x ∈ bs, SlC L x.p 1 x.n x.c (x.l.map u8c)) => summary_Whole p bs h1 h2 h3
          have hfb : Fact' ((bs.map BS.cell).length = p.l.length) := ⟨by simpa using hbl⟩
          generalize wholeF p (bs.map BS.l) = wh at *
          simp only [PartS.cells] at hW
          cases wh
          · rw [if_neg (by simp)]
            repeat' (first
    | refine swl_op ?_
    | (refine s1_move ?_; refine sc_r (R_move (by rfl)) (by rfl) ?_)
    | (refine s1_load ?_; refine sc_r (L_load_all (by rfl) (by infer_instance) (by rfl)) (by rfl) ?_)
    | (refine s1_assign ?_; refine sc_r (R_assign (by rfl)) (by rfl) ?_)
    | (refine s1_bin ?_; refine sc_r (R_lss (by rfl) (by rfl)) (by rfl) ?_)
    | (refine s1_call ?_; (refine sc_c (by rfl) (C_call (by rfl) (by infer_instance) (by rfl) (by rfl) (hW _ (by infer_instance) _ _ _ _ _ _ (by infer_instance) (by infer_instance) (by intro x hx; exact (SlC.ofBlks hx (hbo x hx)).ent (Ent.pick (by focus ((repeat (first | exact Rem.here | apply Rem.there)); done)) (Ent.refl _))))) (by rfl) ?_; rintro _ _ ⟨rfl, rfl⟩))
    | (refine s1_store ?_; (refine sc_w (by rfl) (W_storeAll (by rfl) (by rfl) (by infer_instance) (by rfl) (by rfl) (by rfl)) (by rfl) ?_; rintro _ _ ⟨rfl, rfl⟩))
    | (refine s1_any ?_; first | refine sc_r (R_buildL (by rfl) (by rfl)) (by rfl) ?_ | refine sc_r (R_not (by rfl)) (by rfl) ?_)
    | refine swl_nil ?_
    | refine sx_next ?_
    | refine sw_seq ?_
    | refine sw_region ?_
    | refine sx_past_ret ?_
    | refine sx_past_exit ?_
    | refine sx_block_here ?_
    | refine sw_cond_true (by rfl) ?_
    | refine sw_cond_neg (by rfl) (by first | assumption | omega) ?_
    | refine sw_ret ?_
    | refine sw_exit ?_
    | fail)
            exact sx_ret_of (res3 rfl (ResOne.cellA (by rfl) (by infer_instance) (by rfl)) (ResOne.tmp rfl) (ResOne.tmp rfl)) _ getP_no (ent_no (by (repeat (first | exact Ent.refl _ | exact Ent.nil | (apply Ent.pick; focus ((repeat (first | exact Rem.here | apply Rem.there)); done)) | apply Ent.drop))))
          · rw [if_pos rfl]
            repeat' (first
    | refine swl_op ?_
    | (refine s1_move ?_; refine sc_r (R_move (by rfl)) (by rfl) ?_)
    | (refine s1_load ?_; refine sc_r (L_load_all (by rfl) (by infer_instance) (by rfl)) (by rfl) ?_)
    | (refine s1_assign ?_; refine sc_r (R_assign (by rfl)) (by rfl) ?_)
    | (refine s1_bin ?_; refine sc_r (R_lss (by rfl) (by rfl)) (by rfl) ?_)
    | (refine s1_call ?_; (refine sc_c (by rfl) (C_call (by rfl) (by infer_instance) (by rfl) (by rfl) (hW _ (by infer_instance) _ _ _ _ _ _ (by infer_instance) (by infer_instance) (by intro x hx; exact (SlC.ofBlks hx (hbo x hx)).ent (Ent.pick (by focus ((repeat (first | exact Rem.here | apply Rem.there)); done)) (Ent.refl _))))) (by rfl) ?_; rintro _ _ ⟨rfl, rfl⟩))
    | (refine s1_store ?_; (refine sc_w (by rfl) (W_storeAll (by rfl) (by rfl) (by infer_instance) (by rfl) (by rfl) (by rfl)) (by rfl) ?_; rintro _ _ ⟨rfl, rfl⟩))
    | (refine s1_any ?_; refine sc_r (R_not (by rfl)) (by rfl) ?_)
    | refine swl_nil ?_
    | refine sx_next ?_
    | refine sw_seq ?_
    | refine sw_region ?_
    | refine sx_past_exit ?_
    | refine sx_block_here ?_
    | refine sw_cond_false (by rfl) ?_
    | refine sw_cond_neg (by rfl) (by first | assumption | omega) ?_
    | refine sw_ret ?_
    | refine sw_exit ?_
    | refine sw_skip ?_
    | fail)
            exact sx_ret_of (res3 rfl (ResOne.cellA (by rfl) (by infer_instance) (by rfl)) (ResOne.tmp rfl) (ResOne.tmp rfl)) _ ⟨_, _, bs, rfl, hbo, rfl, rfl⟩ (by (repeat (first | exact Ent.refl _ | exact Ent.nil | (apply Ent.pick; focus ((repeat (first | exact Rem.here | apply Rem.there)); done)) | apply Ent.drop)))
      · rw [if_neg he2]
        simp only [PartS.cells] at cD
        repeat' (first
    | refine swl_op ?_
    | (refine s1_move ?_; refine sc_r (R_move (by rfl)) (by rfl) ?_)
    | (refine s1_assign ?_; refine sc_r (R_assign (by rfl)) (by rfl) ?_)
    | (refine s1_bin ?_; refine sc_r (R_neq (by rfl) (by rfl)) (by rfl) ?_)
    | (refine s1_call ?_; first | (refine sc_c (by rfl) (C_call (by rfl) (by infer_instance) (by rfl) (by rfl) (Tr.ent (Ent.pickC (by infer_instance) (Ent.refl _)) (cG _))) (by rfl) ?_; rintro _ _ ⟨rfl, rfl⟩) | (refine sc_c (by rfl) (C_call (by rfl) (by infer_instance) (by rfl) (by rfl) (cV _)) (by rfl) ?_; rintro _ _ ⟨rfl, rfl⟩) | (refine sc_c (by rfl) (C_call (by rfl) (by infer_instance) (by rfl) (by rfl) (Tr.ent (Ent.pickC (by infer_instance) (Ent.pickC (by infer_instance) (Ent.pickC (by infer_instance) (Ent.refl _)))) (cR0 _))) (by rfl) ?_; rintro _ _ ⟨sl, rfl, rfl⟩; refine swl_know (fun h H => vec_fact H) ?_; rintro ⟨pc, cc, rfl, hf⟩; rw [List.length_map] at hf ⊢) | (refine sc_c (by rfl) (C_call (by rfl) (by infer_instance) (by rfl) (by rfl) (cD _ _ _ _ (by infer_instance) (by infer_instance))) (by rfl) ?_; rintro _ _ ⟨sv, rfl, rfl⟩; refine swl_know (fun h H => vec_fact H) ?_; rintro ⟨ps, cs, rfl, hs⟩; rw [List.length_map] at hs ⊢))
    | (refine s1_store ?_; (refine sc_w (by rfl) (W_storeAll (by rfl) (by rfl) (by infer_instance) (by rfl) (by rfl) (by rfl)) (by rfl) ?_; rintro _ _ ⟨rfl, rfl⟩))
    | (refine s1_alloc ?_; (refine sc_w (by rfl) W_allocA (by rfl) ?_; rintro _ _ ⟨_, rfl, rfl⟩))
    | (refine s1_any ?_; first | refine sc_r (R_buildL (by rfl) (by rfl)) (by rfl) ?_ | refine sc_r (R_extract (by rfl) (by rfl)) (by rfl) ?_)
    | refine swl_nil ?_
    | refine sx_next ?_
    | refine sw_seq ?_
    | refine sw_region ?_
    | refine sx_past_ret ?_
    | refine sw_cond_false (by rfl) ?_
    | refine sw_cond_nneg (by rfl) (by first | assumption | omega) ?_
    | refine sw_ret ?_
    | refine sw_skip ?_
    | fail)
        exact sx_ret_of (res3 rfl (ResOne.cellA (by rfl) (by infer_instance) (by rfl)) (ResOne.tmp rfl) (ResOne.tmp rfl)) _ getP_no (ent_no (by (repeat (first | exact Ent.refl _ | exact Ent.nil | (apply Ent.pick; focus ((repeat (first | exact Rem.here | apply Rem.there)); done)) | apply Ent.drop))))
    · rw [if_neg hr]
      repeat' (first
    | refine swl_op ?_
    | (refine s1_move ?_; refine sc_r (R_move (by rfl)) (by rfl) ?_)
    | (refine s1_assign ?_; refine sc_r (R_assign (by rfl)) (by rfl) ?_)
    | (refine s1_bin ?_; refine sc_r (R_neq (by rfl) (by rfl)) (by rfl) ?_)
    | (refine s1_call ?_; first | (refine sc_c (by rfl) (C_call (by rfl) (by infer_instance) (by rfl) (by rfl) (Tr.ent (Ent.pickC (by infer_instance) (Ent.refl _)) (cG _))) (by rfl) ?_; rintro _ _ ⟨rfl, rfl⟩) | (refine sc_c (by rfl) (C_call (by rfl) (by infer_instance) (by rfl) (by rfl) (cV _)) (by rfl) ?_; rintro _ _ ⟨rfl, rfl⟩) | (refine sc_c (by rfl) (C_call (by rfl) (by infer_instance) (by rfl) (by rfl) (Tr.ent (Ent.pickC (by infer_instance) (Ent.pickC (by infer_instance) (Ent.pickC (by infer_instance) (Ent.refl _)))) (cR0 _))) (by rfl) ?_; rintro _ _ ⟨sl, rfl, rfl⟩))
    | (refine s1_store ?_; (refine sc_w (by rfl) (W_storeAll (by rfl) (by rfl) (by infer_instance) (by rfl) (by rfl) (by rfl)) (by rfl) ?_; rintro _ _ ⟨rfl, rfl⟩))
    | (refine s1_alloc ?_; (refine sc_w (by rfl) W_allocA (by rfl) ?_; rintro _ _ ⟨_, rfl, rfl⟩))
    | (refine s1_any ?_; first | refine sc_r (R_buildL (by rfl) (by rfl)) (by rfl) ?_ | refine sc_r (R_extract (by rfl) (by rfl)) (by rfl) ?_)
    | refine swl_nil ?_
    | refine sx_next ?_
    | refine sw_seq ?_
    | refine sw_region ?_
    | refine sx_past_ret ?_
    | refine sw_cond_false (by rfl) ?_
    | refine sw_cond_nneg (by rfl) (by first | assumption | omega) ?_
    | refine sw_ret ?_
    | refine sw_skip ?_
    | fail)
      exact sx_ret_of (res3 rfl (ResOne.cellA (by rfl) (by infer_instance) (by rfl)) (ResOne.tmp rfl) (ResOne.tmp rfl)) _ getP_no (ent_no (by (repeat (first | exact Ent.refl _ | exact Ent.nil | (apply Ent.pick; focus ((repeat (first | exact Rem.here | apply Rem.there)); done)) | apply Ent.drop))))
  · rw [if_neg he]
    obtain rfl : e = 4 := hve.resolve_left he
    repeat' (first
    | refine swl_op ?_
    | (refine s1_move ?_; refine sc_r (R_move (by rfl)) (by rfl) ?_)
    | (refine s1_assign ?_; refine sc_r (R_assign (by rfl)) (by rfl) ?_)
    | (refine s1_bin ?_; refine sc_r (R_neq (by rfl) (by rfl)) (by rfl) ?_)
    | (refine s1_call ?_; first | (refine sc_c (by rfl) (C_call (by rfl) (by infer_instance) (by rfl) (by rfl) (Tr.ent (Ent.pickC (by infer_instance) (Ent.refl _)) (cG _))) (by rfl) ?_; rintro _ _ ⟨rfl, rfl⟩) | (refine sc_c (by rfl) (C_call (by rfl) (by infer_instance) (by rfl) (by rfl) (cV _)) (by rfl) ?_; rintro _ _ ⟨rfl, rfl⟩))
    | (refine s1_store ?_; (refine sc_w (by rfl) (W_storeAll (by rfl) (by rfl) (by infer_instance) (by rfl) (by rfl) (by rfl)) (by rfl) ?_; rintro _ _ ⟨rfl, rfl⟩))
    | (refine s1_alloc ?_; (refine sc_w (by rfl) W_allocA (by rfl) ?_; rintro _ _ ⟨_, rfl, rfl⟩))
    | (refine s1_any ?_; first | refine sc_r (R_buildL (by rfl) (by rfl)) (by rfl) ?_ | refine sc_r (R_extract (by rfl) (by rfl)) (by rfl) ?_)
    | refine swl_nil ?_
    | refine sx_next ?_
    | refine sw_seq ?_
    | refine sw_region ?_
    | refine sx_past_ret ?_
    | refine sw_cond_true (by rfl) ?_
    | refine sw_ret ?_
    | fail)
    exact sx_ret_of (res3 rfl (ResOne.cellA (by rfl) (by infer_instance) (by rfl)) (ResOne.tmp rfl) (ResOne.tmp rfl)) _ getP_no (ent_no (by (repeat (first | exact Ent.refl _ | exact Ent.nil | (apply Ent.pick; focus ((repeat (first | exact Rem.here | apply Rem.there)); done)) | apply Ent.drop))))
end Go.Proofs.YtjdnflhejfcgdaaDoor

/-
  Vaults: a segment is put.
-/
namespace Go.Proofs.YtjdnflhejfcgdaaDoor
open Go Go.SL Go.Proofs

def putG (g : Geo) (seg : Int) (p : PartS) (st : DV) : Int × DV := if (getF g st seg).2.2 = 10 then (10, st) else if (getF g st seg).2.2 ≠ 0 ∨ (getF g st seg).1 ≠ p then (9, st) else (0, st)
def putL (g : Geo) (seg vol : Int) (p : PartS) (st : DV) : Int × DV := if flME st.1 st.2 vol = 0 then putG g seg p (flMD st.1 vol, flMV st.2 vol) else (flME st.1 st.2 vol, (flMD st.1 vol, flMV st.2 vol))
def putW (g : Geo) (seg vol a : Int) (p : PartS) (bl : List (List Int)) (w : Int × DV) : Int × DV := if w.1 = 0 then (if (wrAll g w.2 (a + 1) bl).1 = 0 then putL g seg vol p (wrAll g w.2 (a + 1) bl).2 else wrAll g w.2 (a + 1) bl) else w
def putF (g : Geo) (st : DV) (seg : Int) (p : PartS) (bl : List (List Int)) : Int × DV :=
  if (volF g seg).2.2 = 0 then (if wholeF p bl then putW g seg (volF g seg).2.1 (volF g seg).1 p bl (wrAll g st (volF g seg).1 [encF p]) else (1, st)) else (4, st)
theorem crcSum_bd (l : List (List Int)) : 0 ≤ crcSum l ∧ crcSum l ≤ 4294967295 := by unfold crcSum bNot bXor; exact wrap_u32_bd _
theorem whole_is {p : PartS} {bs : List (List Int)} (h : wholeF p bs = true) : mayP p = true ∧ bs.length = p.l.length ∧ sumsOK p := by
  simp only [wholeF, Bool.and_eq_true, decide_eq_true_eq, List.all_eq_true] at h
  obtain ⟨⟨h1, h2⟩, h3⟩ := h
  refine ⟨h1, h2, fun e he => ?_⟩
  obtain ⟨i, hi, rfl⟩ := List.mem_iff_getElem.1 he
  have h4 := h3 (p.l[i], bs[i]) (by
    rw [← List.getElem_zip (h := by simp; omega)]
    exact List.getElem_mem _)
  simp only [sumOK, decide_eq_true_eq] at h4
  rw [← h4.2]; exact crcSum_bd _

set_option maxHeartbeats 4000000 in
theorem vault_Put (m d : Nat) (g : Geo) (gens : List Int) (vs : List Nat) (st : DV) (seg : Int) (p : PartS) (bs : List BS) (q : Nat) (hvs : st.2.map Prod.fst = vs) (hP : PB q st.1 st.2) (hq : q + 1 + bs.length ≤ 1000000000) {pp bp : Option Addr} {n c nb cb : Nat} {F : List HP} [HalvesC F]
    (hl : SlC F pp 4 n c (p.l.map EntS.cells)) (hb : SlC F bp 1 nb cb (bs.map BS.cell)) (hx : ∀ x ∈ bs, SlC F x.p 1 x.n x.c (x.l.map u8c)) :
    Tr Tryd.prog 9 [.pointer (some ⟨m, 0, none⟩), .int .i64 seg, .agg (p.cells (.slice pp n c)), .slice bp nb cb].toArray (medP m d vs g gens :: devP d st.1 :: devsP st.2 :: F)
      (fun v L' => v = .int .i64 (putF g st seg p (bs.map BS.l)).1 ∧ L' = medP m d vs g gens :: devP d (putF g st seg p (bs.map BS.l)).2.1 :: devsP (putF g st seg p (bs.map BS.l)).2.2 :: F) := by
  refine tr_enter Tryd.func9 rfl Tryd.ntmps9 rfl fun w0 => ?_
  have cG := fun (F : List HP) => medium_Geo m d vs g gens (F := F)
  have cV := fun (L : List HP) => vault_volume g seg (L := L)
  have hvb := volF_bd g seg
  have hve := volF_e g seg
  have hW := fun (L : List HP) (hg : HalvesC L) (h1 : SlC L pp 4 n c (p.l.map EntS.cells)) (h2 : SlC L bp 1 nb cb (bs.map BS.cell)) (h3 : ∀ x ∈ bs, SlC L x.p 1 x.n x.c (x.l.map u8c)) => summary_Whole p bs h1 h2 h3
  have hwi := whole_is (p := p) (bs := bs.map BS.l)
  unfold putF
  generalize volF g seg = vf at *
  obtain ⟨a, vol, e⟩ := vf
  dsimp only at *
  by_cases he : e = 0
  · subst he
    rw [if_pos rfl]
    cases hwh : wholeF p (bs.map BS.l)
    · rw [hwh] at hW
      simp only [PartS.cells] at *
      repeat' (first
    | refine swl_op ?_
    | (refine s1_move ?_; refine sc_r (R_move (by rfl)) (by rfl) ?_)
    | (refine s1_load ?_; refine sc_r (L_load_all (by rfl) (by infer_instance) (by rfl)) (by rfl) ?_)
    | (refine s1_assign ?_; refine sc_r (R_assign (by rfl)) (by rfl) ?_)
    | (refine s1_bin ?_; refine sc_r (R_neq (by rfl) (by rfl)) (by rfl) ?_)
    | (refine s1_call ?_; first | (refine sc_c (by rfl) (C_call (by rfl) (by infer_instance) (by rfl) (by rfl) (Tr.ent (Ent.pickC (by infer_instance) (Ent.refl _)) (cG _))) (by rfl) ?_; rintro _ _ ⟨rfl, rfl⟩) | (refine sc_c (by rfl) (C_call (by rfl) (by infer_instance) (by rfl) (by rfl) (cV _)) (by rfl) ?_; rintro _ _ ⟨rfl, rfl⟩) | (refine sc_c (by rfl) (C_call (by rfl) (by infer_instance) (by rfl) (by rfl) (hW _ (by infer_instance) (by infer_instance) (by infer_instance) (by intro x hxm; have := hx x hxm; infer_instance))) (by rfl) ?_; rintro _ _ ⟨rfl, rfl⟩))
    | (refine s1_box ?_; (refine sc_w (by rfl) (W_boxA (by rfl)) (by rfl) ?_; rintro _ _ ⟨_, rfl, rfl⟩))
    | (refine s1_any ?_; first | refine sc_r (R_not (by rfl)) (by rfl) ?_ | refine sc_r (R_extract (by rfl) (by rfl)) (by rfl) ?_)
    | refine swl_nil ?_
    | refine sx_next ?_
    | refine sw_seq ?_
    | refine sw_region ?_
    | refine sx_past_ret ?_
    | refine sw_cond_true (by rfl) ?_
    | refine sw_cond_false (by rfl) ?_
    | refine sw_ret ?_
    | refine sw_skip ?_
    | fail)
      exact sx_ret_of (res1 rfl (ResOne.tmp rfl)) _ ⟨rfl, rfl⟩ (by (repeat (first | exact Ent.refl _ | exact Ent.nil | (apply Ent.pick; focus ((repeat (first | exact Rem.here | apply Rem.there)); done)) | apply Ent.drop)))
    · rw [if_pos rfl]
      rw [hwh] at hW
      obtain ⟨hmay, hlen, hsum⟩ := hwi hwh
      have cE := fun (L : List HP) (hg : HalvesC L) (h1 : SlC L pp 4 n c (p.l.map EntS.cells)) => summary_Encode p hmay hsum h1
      have hel := encF_len hmay hsum
      generalize encF p = eb at *
      have cW1 := fun (pe : Option Addr) (ne ce : Nat) (F : List HP) (wp : Option Addr) (wn wc : Nat) (els : List (Array Value)) (h1 : SlC F wp 1 wn wc els) (he : els = [BS.mk pe ne ce eb].map BS.cell) (h2 : SlC F pe 1 ne ce (eb.map u8c)) =>
        vault_write m d g gens vs a [⟨pe, ne, ce, eb⟩] q st hvs hP (by simp; omega) (by omega) (he ▸ h1) (fun x hx => by rw [List.mem_singleton.1 hx]; exact h2)
      have hv1 := (wrAll_fst g [eb] st a).trans hvs
      have hP1 := wrAll_PB g [eb] st a q hP
      simp only [List.map_cons, List.map_nil] at cW1
      unfold putW
      generalize wrAll g st a [eb] = w1 at *
      obtain ⟨e1, st1⟩ := w1
      dsimp only at *
      have cW2 := fun (F : List HP) (h1 : SlC F bp 1 nb cb (bs.map BS.cell)) (h2 : ∀ x ∈ bs, SlC F x.p 1 x.n x.c (x.l.map u8c)) => vault_write m d g gens vs (a + 1) bs (q + 1) st1 hv1 hP1 (by omega) (by omega) h1 h2
      have hv2 := (wrAll_fst g (bs.map BS.l) st1 (a + 1)).trans hv1
      generalize wrAll g st1 (a + 1) (bs.map BS.l) = w2 at *
      obtain ⟨e2, st2⟩ := w2
      dsimp only at *
      have cF := fun (F : List HP) => medium_Flush m d g gens st2.1 st2.2 vol (F := F)
      have hv3 := (flMV_fst st2.2 vol).trans hv2
      rw [hv2] at cF
      unfold putL
      have cGt := fun (F : List HP) (hg : HalvesC F) => vault_Get m d g gens vs (flMD st2.1 vol, flMV st2.2 vol) seg hv3 (F := F)
      dsimp only at cGt
      generalize flMV st2.2 vol = vl3 at *
      generalize flMD st2.1 vol = s3 at *
      generalize flME st2.1 st2.2 vol = fe at *
      unfold putG
      unfold GetP at cGt
      generalize getF g (s3, vl3) seg = r at *
      obtain ⟨rp, rb, re⟩ := r
      dsimp only at *
      have cS := fun (L : List HP) (pa : Option Addr) (na ca : Nat) (h1 : SlC L pa 4 na ca (rp.l.map EntS.cells)) (h2 : SlC L pp 4 n c (p.l.map EntS.cells)) => vault_same rp p h1 h2
      have r1 : ¬ e1 = 0 → (if e1 = 0 then (if e2 = 0 then (if fe = 0 then (if re = 10 then ((10 : Int), ((s3, vl3) : DV)) else if re ≠ 0 ∨ rp ≠ p then (9, (s3, vl3)) else (0, (s3, vl3))) else (fe, (s3, vl3))) else (e2, st2)) else (e1, st1)) = (e1, st1) := fun h => if_neg h
      have r2 : e1 = 0 → ¬ e2 = 0 → (if e1 = 0 then (if e2 = 0 then (if fe = 0 then (if re = 10 then ((10 : Int), ((s3, vl3) : DV)) else if re ≠ 0 ∨ rp ≠ p then (9, (s3, vl3)) else (0, (s3, vl3))) else (fe, (s3, vl3))) else (e2, st2)) else (e1, st1)) = (e2, st2) := fun h h' => (if_pos h).trans (if_neg h')
      have r3 : e1 = 0 → e2 = 0 → ¬ fe = 0 → (if e1 = 0 then (if e2 = 0 then (if fe = 0 then (if re = 10 then ((10 : Int), ((s3, vl3) : DV)) else if re ≠ 0 ∨ rp ≠ p then (9, (s3, vl3)) else (0, (s3, vl3))) else (fe, (s3, vl3))) else (e2, st2)) else (e1, st1)) = (fe, (s3, vl3)) := fun h h' h2 => (if_pos h).trans ((if_pos h').trans (if_neg h2))
      have r4 : e1 = 0 → e2 = 0 → fe = 0 → re = 10 → (if e1 = 0 then (if e2 = 0 then (if fe = 0 then (if re = 10 then ((10 : Int), ((s3, vl3) : DV)) else if re ≠ 0 ∨ rp ≠ p then (9, (s3, vl3)) else (0, (s3, vl3))) else (fe, (s3, vl3))) else (e2, st2)) else (e1, st1)) = (10, (s3, vl3)) := fun h h' h2 h3 => (if_pos h).trans ((if_pos h').trans ((if_pos h2).trans (if_pos h3)))
      have r5 : e1 = 0 → e2 = 0 → fe = 0 → ¬ re = 10 → re ≠ 0 ∨ rp ≠ p → (if e1 = 0 then (if e2 = 0 then (if fe = 0 then (if re = 10 then ((10 : Int), ((s3, vl3) : DV)) else if re ≠ 0 ∨ rp ≠ p then (9, (s3, vl3)) else (0, (s3, vl3))) else (fe, (s3, vl3))) else (e2, st2)) else (e1, st1)) = (9, (s3, vl3)) := fun h h' h2 h3 h4 => (if_pos h).trans ((if_pos h').trans ((if_pos h2).trans ((if_neg h3).trans (if_pos h4))))
      have r6 : e1 = 0 → e2 = 0 → fe = 0 → ¬ re = 10 → ¬ (re ≠ 0 ∨ rp ≠ p) → (if e1 = 0 then (if e2 = 0 then (if fe = 0 then (if re = 10 then ((10 : Int), ((s3, vl3) : DV)) else if re ≠ 0 ∨ rp ≠ p then (9, (s3, vl3)) else (0, (s3, vl3))) else (fe, (s3, vl3))) else (e2, st2)) else (e1, st1)) = (0, (s3, vl3)) := fun h h' h2 h3 h4 => (if_pos h).trans ((if_pos h').trans ((if_pos h2).trans ((if_neg h3).trans (if_neg h4))))
      generalize (if e1 = 0 then (if e2 = 0 then (if fe = 0 then (if re = 10 then ((10 : Int), ((s3, vl3) : DV)) else if re ≠ 0 ∨ rp ≠ p then (9, (s3, vl3)) else (0, (s3, vl3))) else (fe, (s3, vl3))) else (e2, st2)) else (e1, st1)) = R at *
      have hf5 : Fact' ((eb.map u8c).length = eb.length) := ⟨by simp⟩
      simp only [PartS.cells] at *
      repeat' (first
    | refine swl_op ?_
    | (refine s1_move ?_; refine sc_r (R_move (by rfl)) (by rfl) ?_)
    | (refine s1_load ?_; refine sc_r (L_load_all (by rfl) (by infer_instance) (by rfl)) (by rfl) ?_)
    | (refine s1_assign ?_; refine sc_r (R_assign (by rfl)) (by rfl) ?_)
    | (refine s1_pick ?_; first | refine sc_r (R_pick_t (by rfl) (by rfl)) (by rfl) ?_ | refine sc_r (R_pick_f (by rfl) (by rfl)) (by rfl) ?_)
    | (refine s1_bin ?_; first | refine sc_r (R_add64 (by rfl) (by rfl) (by omega)) (by rfl) ?_ | refine sc_r (R_eql (by rfl) (by rfl)) (by rfl) ?_ | refine sc_r (R_neq (by rfl) (by rfl)) (by rfl) ?_)
    | (refine s1_call ?_; first | (refine sc_c (by rfl) (C_call (by rfl) (by infer_instance) (by rfl) (by rfl) (Tr.ent (Ent.pickC (by infer_instance) (Ent.refl _)) (cG _))) (by rfl) ?_; rintro _ _ ⟨rfl, rfl⟩) | (refine sc_c (by rfl) (C_call (by rfl) (by infer_instance) (by rfl) (by rfl) (cV _)) (by rfl) ?_; rintro _ _ ⟨rfl, rfl⟩) | (refine sc_c (by rfl) (C_call (by rfl) (by infer_instance) (by rfl) (by rfl) (hW _ (by infer_instance) (by infer_instance) (by infer_instance) (by intro x hxm; have := hx x hxm; infer_instance))) (by rfl) ?_; rintro _ _ ⟨rfl, rfl⟩) | (refine sc_c (by rfl) (C_call (by rfl) (by infer_instance) (by rfl) (by rfl) (cE _ (by infer_instance) (by infer_instance))) (by rfl) ?_; rintro _ _ ⟨se, rfl, rfl⟩; refine swl_know (fun h H => vec_fact H) ?_; rintro ⟨pe, ce, rfl, hfe⟩; rw [List.length_map] at hfe ⊢) | (refine sc_c (by rfl) (C_call (by rfl) (by infer_instance) (by rfl) (by rfl) (Tr.ent (Ent.pickC (by infer_instance) (Ent.pickC (by infer_instance) (Ent.pickC (by infer_instance) (Ent.refl _)))) (cW1 _ _ _ _ _ _ _ _ (by infer_instance) (by rfl) (by infer_instance)))) (by rfl) ?_; rintro _ _ ⟨rfl, rfl⟩) | (refine sc_c (by rfl) (C_call (by rfl) (by infer_instance) (by rfl) (by rfl) (Tr.ent (Ent.pickC (by infer_instance) (Ent.pickC (by infer_instance) (Ent.pickC (by infer_instance) (Ent.refl _)))) (cW2 _ (by infer_instance) (by intro x hxm; have := hx x hxm; infer_instance)))) (by rfl) ?_; rintro _ _ ⟨rfl, rfl⟩) | (refine sc_c (by rfl) (C_call (by rfl) (by infer_instance) (by rfl) (by rfl) (Tr.ent (Ent.pickC (by infer_instance) (Ent.pickC (by infer_instance) (Ent.pickC (by infer_instance) (Ent.refl _)))) (cF _))) (by rfl) ?_; rintro _ _ ⟨rfl, rfl⟩) | (refine sc_c (by rfl) (C_call (by rfl) (by infer_instance) (by rfl) (by rfl) (Tr.ent (Ent.pickC (by infer_instance) (Ent.pickC (by infer_instance) (Ent.pickC (by infer_instance) (Ent.refl _)))) (cGt _ (by infer_instance)))) (by rfl) ?_; rintro _ _ ⟨sv, bv, gbs, rfl, hbo, hbl, rfl⟩; refine swl_know (fun h H => vec_fact H) ?_; rintro ⟨ps, cs, rfl, hs⟩; rw [List.length_map] at hs ⊢) | (refine sc_c (by rfl) (C_call (by rfl) (by infer_instance) (by rfl) (by rfl) (cS _ _ _ _ (by infer_instance) (by infer_instance))) (by rfl) ?_; rintro _ _ ⟨rfl, rfl⟩))
    | (refine s1_store ?_; (refine sc_w (by rfl) (W_storeAll (by rfl) (by rfl) (by infer_instance) (by rfl) (by rfl) (by rfl)) (by rfl) ?_; rintro _ _ ⟨rfl, rfl⟩))
    | (refine s1_alloc ?_; (refine sc_w (by rfl) W_allocA (by rfl) ?_; rintro _ _ ⟨_, rfl, rfl⟩))
    | (refine s1_box ?_; (refine sc_w (by rfl) (W_boxA (by rfl)) (by rfl) ?_; rintro _ _ ⟨_, rfl, rfl⟩))
    | (refine s1_any ?_; first | (refine sc_w (by rfl) (W_buildSliceV (by rfl) (by rfl) (by rfl) (by rfl) (by rfl) (by rfl) (by rfl)) (by rfl) ?_; rintro _ _ ⟨_, rfl, rfl, _, _⟩) | refine sc_r (R_not (by rfl)) (by rfl) ?_ | refine sc_r (R_extract (by rfl) (by rfl)) (by rfl) ?_)
    | refine swl_nil ?_
    | refine sx_next ?_
    | refine sw_seq ?_
    | refine sw_region ?_
    | refine sw_block ?_
    | refine swl_g_on (by rfl) (by rfl) ?_
    | refine swl_g_off (by rfl) (by rfl) (by rfl) (by rfl) ?_
    | refine swl_g_ndec (by rfl) (by rfl) (fun hp => ?_) (fun hp => ?_)
    | refine sx_past_ret ?_
    | refine sx_block_normal ?_
    | refine sx_block_ret ?_
    | refine sw_cond_true (by rfl) ?_
    | refine sw_cond_false (by rfl) ?_
    | refine sw_cond_dec (by rfl) (fun hp => ?_) (fun hp => ?_)
    | refine sw_cond_not (by rfl) (fun hp => ?_) (fun hp => ?_)
    | refine sw_ret ?_
    | refine sw_skip ?_
    | fail)
      · rw [r1 (by assumption)]
        exact sx_ret_of (res1 rfl (ResOne.tmp rfl)) _ ⟨rfl, rfl⟩ (by (repeat (first | exact Ent.refl _ | exact Ent.nil | (apply Ent.pick; focus ((repeat (first | exact Rem.here | apply Rem.there)); done)) | apply Ent.drop)))
      · rw [r2 (by assumption) (by assumption)]
        exact sx_ret_of (res1 rfl (ResOne.tmp rfl)) _ ⟨rfl, rfl⟩ (by (repeat (first | exact Ent.refl _ | exact Ent.nil | (apply Ent.pick; focus ((repeat (first | exact Rem.here | apply Rem.there)); done)) | apply Ent.drop)))
      · rw [r3 (by assumption) (by assumption) (by assumption)]
        exact sx_ret_of (res1 rfl (ResOne.tmp rfl)) _ ⟨rfl, rfl⟩ (by (repeat (first | exact Ent.refl _ | exact Ent.nil | (apply Ent.pick; focus ((repeat (first | exact Rem.here | apply Rem.there)); done)) | apply Ent.drop)))
      · rw [r4 (by assumption) (by assumption) (by assumption) (by assumption)]
        exact sx_ret_of (res1 rfl (ResOne.tmp rfl)) _ ⟨congrArg (Value.int .i64) (by assumption), rfl⟩ (by (repeat (first | exact Ent.refl _ | exact Ent.nil | (apply Ent.pick; focus ((repeat (first | exact Rem.here | apply Rem.there)); done)) | apply Ent.drop)))
      · rw [r5 (by assumption) (by assumption) (by assumption) (by assumption) (.inl (by assumption))]
        exact sx_ret_of (res1 rfl (ResOne.tmp rfl)) _ ⟨rfl, rfl⟩ (by (repeat (first | exact Ent.refl _ | exact Ent.nil | (apply Ent.pick; focus ((repeat (first | exact Rem.here | apply Rem.there)); done)) | apply Ent.drop)))
      · rw [r5 (by assumption) (by assumption) (by assumption) (by assumption) (.inr (by assumption))]
        exact sx_ret_of (res1 rfl (ResOne.tmp rfl)) _ ⟨rfl, rfl⟩ (by (repeat (first | exact Ent.refl _ | exact Ent.nil | (apply Ent.pick; focus ((repeat (first | exact Rem.here | apply Rem.there)); done)) | apply Ent.drop)))
      · rw [r6 (by assumption) (by assumption) (by assumption) (by assumption) (fun h => h.elim (fun h => h (by assumption)) (fun h => h (by assumption)))]
        exact sx_ret_of (res1 rfl (ResOne.tmp rfl)) _ ⟨rfl, rfl⟩ (by (repeat (first | exact Ent.refl _ | exact Ent.nil | (apply Ent.pick; focus ((repeat (first | exact Rem.here | apply Rem.there)); done)) | apply Ent.drop)))
  · rw [if_neg he]
    obtain rfl : e = 4 := hve.resolve_left he
    simp only [PartS.cells]
    repeat' (first
    | refine swl_op ?_
    | (refine s1_move ?_; refine sc_r (R_move (by rfl)) (by rfl) ?_)
    | (refine s1_assign ?_; refine sc_r (R_assign (by rfl)) (by rfl) ?_)
    | (refine s1_bin ?_; refine sc_r (R_neq (by rfl) (by rfl)) (by rfl) ?_)
    | (refine s1_call ?_; first | (refine sc_c (by rfl) (C_call (by rfl) (by infer_instance) (by rfl) (by rfl) (Tr.ent (Ent.pickC (by infer_instance) (Ent.refl _)) (cG _))) (by rfl) ?_; rintro _ _ ⟨rfl, rfl⟩) | (refine sc_c (by rfl) (C_call (by rfl) (by infer_instance) (by rfl) (by rfl) (cV _)) (by rfl) ?_; rintro _ _ ⟨rfl, rfl⟩))
    | (refine s1_box ?_; (refine sc_w (by rfl) (W_boxA (by rfl)) (by rfl) ?_; rintro _ _ ⟨_, rfl, rfl⟩))
    | (refine s1_any ?_; refine sc_r (R_extract (by rfl) (by rfl)) (by rfl) ?_)
    | refine swl_nil ?_
    | refine sx_next ?_
    | refine sw_seq ?_
    | refine sw_region ?_
    | refine sx_past_ret ?_
    | refine sw_cond_true (by rfl) ?_
    | refine sw_ret ?_
    | fail)
    exact sx_ret_of (res1 rfl (ResOne.tmp rfl)) _ ⟨rfl, rfl⟩ (by (repeat (first | exact Ent.refl _ | exact Ent.nil | (apply Ent.pick; focus ((repeat (first | exact Rem.here | apply Rem.there)); done)) | apply Ent.drop)))
end Go.Proofs.YtjdnflhejfcgdaaDoor
