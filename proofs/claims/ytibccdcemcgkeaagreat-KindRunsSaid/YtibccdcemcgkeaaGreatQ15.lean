/- Texts of this proof, put together: SCk3. -/
import Derived.Test.YtibccdcemcgkeaaGreatQ14
set_option linter.unusedVariables false
set_option linter.unusedSimpArgs false
section
set_option maxRecDepth 100000
namespace Go.Proofs.YtibccdcemcgkeaaGreat
/-- Where a check-in's parts lie. -/
structure CkA where
 fa : Option Addr
 fc : Nat
 pa : Option Addr
 pc : Nat
 ta : Option Addr
 tc : Nat
def ckVals (x : CkA) (c : Ck) : List Value := [vS c.base, vS c.comment, vI c.date, .slice x.fa c.files.length x.fc, .slice x.pa c.parents.length x.pc, .slice x.ta c.tags.length x.tc, vS c.user]
/-- No greater than can be. -/
structure TgZ (l : List Tg) : Prop where
 n : l.length ≤ 1073741824
 z : ∀ t ∈ l, t.name.length ≤ 1099511627 ∧ t.target.length ≤ 1099511627 ∧ t.value.length ≤ 1099511627
structure CkZ (c : Ck) : Prop where
 base : c.base.length ≤ 1099511627
 comment : c.comment.length ≤ 1099511627
 user : c.user.length ≤ 1099511627
 fn : c.files.length ≤ 1073741824
 fz : ∀ f ∈ c.files, f.1.length ≤ 1099511627 ∧ f.2.length ≤ 1099511627
 pn : c.parents.length ≤ 1073741824
 pz : ∀ p ∈ c.parents, p.length ≤ 1099511627
 tags : TgZ c.tags
set_option maxHeartbeats 2000000 in
theorem checkin_Right_sp {Bf Bt : HP} (x : CkA) (c : Ck) (z : CkZ c) (shf : SlA Bf x.fa (c.files.flatMap flCells)) (sht : SlA Bt x.ta (c.tags.flatMap tgCells)) (hpc : c.parents.length ≤ x.pc) :
    Sp1 Tryz.prog 75 [.agg (ckVals x c).toArray] [Bf, SlI x.pa (c.parents.map vS), Bt] (vB (decide (RightK c))) [Bf, Bt] := by
 obtain ⟨z1, z2, z3, z4, z5, z6, z7, z8, z9⟩ := z
 have hF := checkin_files_sp (decide (c.base = [])) c.files.length x.fc c.files shf rfl z4 (fun t ht => by have := z5 t ht; omega)
 have hP := checkin_names_sp 3 c.parents.length x.pc c.parents (B := SlI x.pa (c.parents.map vS)) sla_sli rfl hpc z6 (fun t ht => by have := z7 t ht; omega)
 have hT := checkin_RightTags_sp true c.tags.length x.tc c.tags sht rfl z8 (fun t ht => by have := z9 t ht; omega)
 refine Sp.body (n := 45) Tryz.call75 Tryz.func75 rfl rfl rfl ?_
 refine p_seq rfl ?_
 refine p_region rfl ?_
 refine wo_box (vs := [_, _, _, _, _, _, _]) rfl rfl rfl (fun b1 => ?_)
 refine wo_pv (pv_assign rfl) rfl ?_
 refine q_seq ?_
 refine p_seq rfl ?_
 refine p_region rfl ?_
 refine wo_pv (pv_fieldAddrk Tryz.underlying30 rfl ti9 rfl rfl (k := 0) rfl (by first | exact Nat.zero_add _ | exact Nat.add_zero _ | exact rfl)) rfl ?_
 refine r_load Tryz.underlying9 rfl rfl rfl rfl ?_
 refine wo_pv (pv_seql rfl rfl) rfl ?_
 refine wo_pv (pv_move rfl) rfl ?_
 first | refine wo_gite (j := 3) rfl rfl (fun h6 => ?_) (fun h6 => ?_) | refine wo_gsplit (j := 3) rfl rfl (fun h6 => ?_) (fun h6 => ?_)
 ·
  refine wo_out (b := true) rfl rfl rfl ?_
  refine wo_out (b := true) rfl rfl rfl ?_
  refine wo_out (b := true) rfl rfl rfl ?_
  refine wo_pv (pv_pick_t rfl rfl) rfl ?_
  refine wo_pv (pv_move rfl) rfl ?_
  refine wo_in (b := true) rfl ?_
  refine wo_pv (pv_fieldAddrk Tryz.underlying30 rfl ti9 rfl rfl (k := 1) rfl (by first | exact Nat.zero_add _ | exact Nat.add_zero _ | exact rfl)) rfl ?_
  refine wo_in (b := true) rfl ?_
  refine r_load Tryz.underlying9 rfl rfl rfl rfl ?_
  refine wo_in (b := true) rfl ?_
  refine wo_pv (pv_call_len_s Tryz.underlying9 rfl) rfl ?_
  refine wo_in (b := true) rfl ?_
  refine wo_pv (pv_leq rfl rfl) rfl ?_
  refine wo_pv (pv_pick_t rfl rfl) rfl ?_
  refine wo_pv (pv_move rfl) rfl ?_
  first | refine wo_gite (j := 14) rfl rfl (fun h17 => ?_) (fun h17 => ?_) | refine wo_gsplit (j := 14) rfl rfl (fun h17 => ?_) (fun h17 => ?_)
  ·
   refine wo_in (b := true) rfl ?_
   refine wo_pv (pv_fieldAddrk Tryz.underlying30 rfl ti3 rfl rfl (k := 2) rfl (by first | exact Nat.zero_add _ | exact Nat.add_zero _ | exact rfl)) rfl ?_
   refine wo_in (b := true) rfl ?_
   refine r_load Tryz.underlying3 rfl rfl rfl rfl ?_
   refine wo_in (b := true) rfl ?_
   refine r_callF (checkin_dated_sp c.date) rfl rfl rfl ?_
   refine wo_pv (pv_pick_t rfl rfl) rfl ?_
   refine wo_pv (pv_move rfl) rfl ?_
   first | refine wo_gite (j := 19) rfl rfl (fun h22 => ?_) (fun h22 => ?_) | refine wo_gsplit (j := 19) rfl rfl (fun h22 => ?_) (fun h22 => ?_)
   ·
    refine wo_in (b := true) rfl ?_
    refine wo_pv (pv_fieldAddrk Tryz.underlying30 rfl ti26 rfl rfl (k := 3) rfl (by first | exact Nat.zero_add _ | exact Nat.add_zero _ | exact rfl)) rfl ?_
    refine wo_in (b := true) rfl ?_
    refine r_load Tryz.underlying26 rfl rfl rfl rfl ?_
    refine wo_in (b := true) rfl ?_
    refine wo_pv (pv_fieldAddrk Tryz.underlying30 rfl ti9 rfl rfl (k := 0) rfl (by first | exact Nat.zero_add _ | exact Nat.add_zero _ | exact rfl)) rfl ?_
    refine wo_in (b := true) rfl ?_
    refine r_load Tryz.underlying9 rfl rfl rfl rfl ?_
    refine wo_in (b := true) rfl ?_
    refine wo_pv (pv_seql rfl rfl) rfl ?_
    refine wo_in (b := true) rfl ?_
    refine r_call1 hF rfl rfl rfl ?_
    refine wo_pv (pv_pick_t rfl rfl) rfl ?_
    refine wo_pv (pv_move rfl) rfl ?_
    first | refine wo_gite (j := 27) rfl rfl (fun h30 => ?_) (fun h30 => ?_) | refine wo_gsplit (j := 27) rfl rfl (fun h30 => ?_) (fun h30 => ?_)
    ·
     refine wo_in (b := true) rfl ?_
     refine wo_pv (pv_fieldAddrk Tryz.underlying30 rfl ti27 rfl rfl (k := 4) rfl (by first | exact Nat.zero_add _ | exact Nat.add_zero _ | exact rfl)) rfl ?_
     refine wo_in (b := true) rfl ?_
     refine r_load Tryz.underlying27 rfl rfl rfl rfl ?_
     refine wo_in (b := true) rfl ?_
     refine r_call1 hP rfl rfl rfl ?_
     refine wo_pv (pv_pick_t rfl rfl) rfl ?_
     refine wo_pv (pv_move rfl) rfl ?_
     first | refine wo_gite (j := 32) rfl rfl (fun h35 => ?_) (fun h35 => ?_) | refine wo_gsplit (j := 32) rfl rfl (fun h35 => ?_) (fun h35 => ?_)
     ·
      refine wo_in (b := true) rfl ?_
      refine wo_pv (pv_fieldAddrk Tryz.underlying30 rfl ti28 rfl rfl (k := 5) rfl (by first | exact Nat.zero_add _ | exact Nat.add_zero _ | exact rfl)) rfl ?_
      refine wo_in (b := true) rfl ?_
      refine r_load Tryz.underlying28 rfl rfl rfl rfl ?_
      refine wo_in (b := true) rfl ?_
      refine r_call1 hT rfl rfl rfl ?_
      refine wo_pv (pv_pick_t rfl rfl) rfl ?_
      refine wo_pv (pv_move rfl) rfl ?_
      first | refine wo_gite (j := 37) rfl rfl (fun h40 => ?_) (fun h40 => ?_) | refine wo_gsplit (j := 37) rfl rfl (fun h40 => ?_) (fun h40 => ?_)
      ·
       refine wo_in (b := true) rfl ?_
       refine wo_pv (pv_fieldAddrk Tryz.underlying30 rfl ti9 rfl rfl (k := 6) rfl (by first | exact Nat.zero_add _ | exact Nat.add_zero _ | exact rfl)) rfl ?_
       refine wo_in (b := true) rfl ?_
       refine r_load Tryz.underlying9 rfl rfl rfl rfl ?_
       refine wo_in (b := true) rfl ?_
       refine r_callF (escape_Word_sp c.user (by omega)) rfl rfl rfl ?_
       refine wo_pv (pv_pick_t rfl rfl) rfl ?_
       refine wo_pv (pv_assign rfl) rfl ?_
       refine q_seq ?_
       refine p_ret rfl ?_
       refine fin_ret () (vs := [_]) (Cs := []) rfl (.tmp rfl .nil) ?_ trivial ent_pick
       show vB _ = vB _
       congr 1
       try simp only [isN_fold] at *
       first
       | exact (decide_eq_false (fun h => h40 h.tags)).symm
       | exact (decide_eq_false (fun h => h35 h.parents)).symm
       | exact (decide_eq_false (fun h => h30 h.files)).symm
       | exact (decide_eq_false (fun h => h22 h.date)).symm
       | exact (decide_eq_false (fun h => by have := h.comment; omega)).symm
       | exact (decide_eq_false (fun h => h11 (h.base.resolve_left h6))).symm
       | exact decide_eq_decide.2 ⟨fun h => ⟨.inl h6, by omega, h22, h30, h35, h40, h⟩, fun h => h.user⟩
       | exact decide_eq_decide.2 ⟨fun h => ⟨.inr h11, by omega, h22, h30, h35, h40, h⟩, fun h => h.user⟩
      ·
       refine wo_out (b := false) rfl rfl rfl ?_
       refine wo_out (b := false) rfl rfl rfl ?_
       refine wo_out (b := false) rfl rfl rfl ?_
       refine wo_pv (pv_pick_f rfl rfl) rfl ?_
       refine wo_pv (pv_assign rfl) rfl ?_
       refine q_seq ?_
       refine p_ret rfl ?_
       refine fin_ret () (vs := [_]) (Cs := []) rfl (.tmp rfl .nil) ?_ trivial ent_pick
       show vB _ = vB _
       congr 1
       try simp only [isN_fold] at *
       first
       | exact (decide_eq_false (fun h => h40 h.tags)).symm
       | exact (decide_eq_false (fun h => h35 h.parents)).symm
       | exact (decide_eq_false (fun h => h30 h.files)).symm
       | exact (decide_eq_false (fun h => h22 h.date)).symm
       | exact (decide_eq_false (fun h => by have := h.comment; omega)).symm
       | exact (decide_eq_false (fun h => h11 (h.base.resolve_left h6))).symm
       | exact decide_eq_decide.2 ⟨fun h => ⟨.inl h6, by omega, h22, h30, h35, h40, h⟩, fun h => h.user⟩
       | exact decide_eq_decide.2 ⟨fun h => ⟨.inr h11, by omega, h22, h30, h35, h40, h⟩, fun h => h.user⟩
     ·
      refine wo_out (b := false) rfl rfl rfl ?_
      refine wo_out (b := false) rfl rfl rfl ?_
      refine wo_out (b := false) rfl rfl rfl ?_
      refine wo_pv (pv_pick_f rfl rfl) rfl ?_
      refine wo_pv (pv_move rfl) rfl ?_
      refine wo_out (b := false) rfl rfl rfl ?_
      refine wo_out (b := false) rfl rfl rfl ?_
      refine wo_out (b := false) rfl rfl rfl ?_
      refine wo_pv (pv_pick_f rfl rfl) rfl ?_
      refine wo_pv (pv_assign rfl) rfl ?_
      refine q_seq ?_
      refine p_ret rfl ?_
      refine fin_ret () (vs := [_]) (Cs := []) rfl (.tmp rfl .nil) ?_ trivial ent_pick
      show vB _ = vB _
      congr 1
      try simp only [isN_fold] at *
      first
      | exact (decide_eq_false (fun h => h40 h.tags)).symm
      | exact (decide_eq_false (fun h => h35 h.parents)).symm
      | exact (decide_eq_false (fun h => h30 h.files)).symm
      | exact (decide_eq_false (fun h => h22 h.date)).symm
      | exact (decide_eq_false (fun h => by have := h.comment; omega)).symm
      | exact (decide_eq_false (fun h => h11 (h.base.resolve_left h6))).symm
      | exact decide_eq_decide.2 ⟨fun h => ⟨.inl h6, by omega, h22, h30, h35, h40, h⟩, fun h => h.user⟩
      | exact decide_eq_decide.2 ⟨fun h => ⟨.inr h11, by omega, h22, h30, h35, h40, h⟩, fun h => h.user⟩
    ·
     refine wo_out (b := false) rfl rfl rfl ?_
     refine wo_out (b := false) rfl rfl rfl ?_
     refine wo_out (b := false) rfl rfl rfl ?_
     refine wo_pv (pv_pick_f rfl rfl) rfl ?_
     refine wo_pv (pv_move rfl) rfl ?_
     refine wo_out (b := false) rfl rfl rfl ?_
     refine wo_out (b := false) rfl rfl rfl ?_
     refine wo_out (b := false) rfl rfl rfl ?_
     refine wo_pv (pv_pick_f rfl rfl) rfl ?_
     refine wo_pv (pv_move rfl) rfl ?_
     refine wo_out (b := false) rfl rfl rfl ?_
     refine wo_out (b := false) rfl rfl rfl ?_
     refine wo_out (b := false) rfl rfl rfl ?_
     refine wo_pv (pv_pick_f rfl rfl) rfl ?_
     refine wo_pv (pv_assign rfl) rfl ?_
     refine q_seq ?_
     refine p_ret rfl ?_
     refine fin_ret () (vs := [_]) (Cs := []) rfl (.tmp rfl .nil) ?_ trivial ent_pick
     show vB _ = vB _
     congr 1
     try simp only [isN_fold] at *
     first
     | exact (decide_eq_false (fun h => h40 h.tags)).symm
     | exact (decide_eq_false (fun h => h35 h.parents)).symm
     | exact (decide_eq_false (fun h => h30 h.files)).symm
     | exact (decide_eq_false (fun h => h22 h.date)).symm
     | exact (decide_eq_false (fun h => by have := h.comment; omega)).symm
     | exact (decide_eq_false (fun h => h11 (h.base.resolve_left h6))).symm
     | exact decide_eq_decide.2 ⟨fun h => ⟨.inl h6, by omega, h22, h30, h35, h40, h⟩, fun h => h.user⟩
     | exact decide_eq_decide.2 ⟨fun h => ⟨.inr h11, by omega, h22, h30, h35, h40, h⟩, fun h => h.user⟩
   ·
    refine wo_out (b := false) rfl rfl rfl ?_
    refine wo_out (b := false) rfl rfl rfl ?_
    refine wo_out (b := false) rfl rfl rfl ?_
    refine wo_out (b := false) rfl rfl rfl ?_
    refine wo_out (b := false) rfl rfl rfl ?_
    refine wo_out (b := false) rfl rfl rfl ?_
    refine wo_pv (pv_pick_f rfl rfl) rfl ?_
    refine wo_pv (pv_move rfl) rfl ?_
    refine wo_out (b := false) rfl rfl rfl ?_
    refine wo_out (b := false) rfl rfl rfl ?_
    refine wo_out (b := false) rfl rfl rfl ?_
    refine wo_pv (pv_pick_f rfl rfl) rfl ?_
    refine wo_pv (pv_move rfl) rfl ?_
    refine wo_out (b := false) rfl rfl rfl ?_
    refine wo_out (b := false) rfl rfl rfl ?_
    refine wo_out (b := false) rfl rfl rfl ?_
    refine wo_pv (pv_pick_f rfl rfl) rfl ?_
    refine wo_pv (pv_move rfl) rfl ?_
    refine wo_out (b := false) rfl rfl rfl ?_
    refine wo_out (b := false) rfl rfl rfl ?_
    refine wo_out (b := false) rfl rfl rfl ?_
    refine wo_pv (pv_pick_f rfl rfl) rfl ?_
    refine wo_pv (pv_assign rfl) rfl ?_
    refine q_seq ?_
    refine p_ret rfl ?_
    refine fin_ret () (vs := [_]) (Cs := []) rfl (.tmp rfl .nil) ?_ trivial ent_pick
    show vB _ = vB _
    congr 1
    try simp only [isN_fold] at *
    first
    | exact (decide_eq_false (fun h => h40 h.tags)).symm
    | exact (decide_eq_false (fun h => h35 h.parents)).symm
    | exact (decide_eq_false (fun h => h30 h.files)).symm
    | exact (decide_eq_false (fun h => h22 h.date)).symm
    | exact (decide_eq_false (fun h => by have := h.comment; omega)).symm
    | exact (decide_eq_false (fun h => h11 (h.base.resolve_left h6))).symm
    | exact decide_eq_decide.2 ⟨fun h => ⟨.inl h6, by omega, h22, h30, h35, h40, h⟩, fun h => h.user⟩
    | exact decide_eq_decide.2 ⟨fun h => ⟨.inr h11, by omega, h22, h30, h35, h40, h⟩, fun h => h.user⟩
  ·
   refine wo_out (b := false) rfl rfl rfl ?_
   refine wo_out (b := false) rfl rfl rfl ?_
   refine wo_out (b := false) rfl rfl rfl ?_
   refine wo_pv (pv_pick_f rfl rfl) rfl ?_
   refine wo_pv (pv_move rfl) rfl ?_
   refine wo_out (b := false) rfl rfl rfl ?_
   refine wo_out (b := false) rfl rfl rfl ?_
   refine wo_out (b := false) rfl rfl rfl ?_
   refine wo_out (b := false) rfl rfl rfl ?_
   refine wo_out (b := false) rfl rfl rfl ?_
   refine wo_out (b := false) rfl rfl rfl ?_
   refine wo_pv (pv_pick_f rfl rfl) rfl ?_
   refine wo_pv (pv_move rfl) rfl ?_
   refine wo_out (b := false) rfl rfl rfl ?_
   refine wo_out (b := false) rfl rfl rfl ?_
   refine wo_out (b := false) rfl rfl rfl ?_
   refine wo_pv (pv_pick_f rfl rfl) rfl ?_
   refine wo_pv (pv_move rfl) rfl ?_
   refine wo_out (b := false) rfl rfl rfl ?_
   refine wo_out (b := false) rfl rfl rfl ?_
   refine wo_out (b := false) rfl rfl rfl ?_
   refine wo_pv (pv_pick_f rfl rfl) rfl ?_
   refine wo_pv (pv_move rfl) rfl ?_
   refine wo_out (b := false) rfl rfl rfl ?_
   refine wo_out (b := false) rfl rfl rfl ?_
   refine wo_out (b := false) rfl rfl rfl ?_
   refine wo_pv (pv_pick_f rfl rfl) rfl ?_
   refine wo_pv (pv_assign rfl) rfl ?_
   refine q_seq ?_
   refine p_ret rfl ?_
   refine fin_ret () (vs := [_]) (Cs := []) rfl (.tmp rfl .nil) ?_ trivial ent_pick
   show vB _ = vB _
   congr 1
   try simp only [isN_fold] at *
   first
   | exact (decide_eq_false (fun h => h40 h.tags)).symm
   | exact (decide_eq_false (fun h => h35 h.parents)).symm
   | exact (decide_eq_false (fun h => h30 h.files)).symm
   | exact (decide_eq_false (fun h => h22 h.date)).symm
   | exact (decide_eq_false (fun h => by have := h.comment; omega)).symm
   | exact (decide_eq_false (fun h => h11 (h.base.resolve_left h6))).symm
   | exact decide_eq_decide.2 ⟨fun h => ⟨.inl h6, by omega, h22, h30, h35, h40, h⟩, fun h => h.user⟩
   | exact decide_eq_decide.2 ⟨fun h => ⟨.inr h11, by omega, h22, h30, h35, h40, h⟩, fun h => h.user⟩
 ·
  refine wo_in (b := false) rfl ?_
  refine wo_pv (pv_fieldAddrk Tryz.underlying30 rfl ti9 rfl rfl (k := 0) rfl (by first | exact Nat.zero_add _ | exact Nat.add_zero _ | exact rfl)) rfl ?_
  refine wo_in (b := false) rfl ?_
  refine r_load Tryz.underlying9 rfl rfl rfl rfl ?_
  refine wo_in (b := false) rfl ?_
  refine r_callF (hash_Is_sp c.base (by omega)) rfl rfl rfl ?_
  refine wo_pv (pv_pick_f rfl rfl) rfl ?_
  refine wo_pv (pv_move rfl) rfl ?_
  first | refine wo_gite (j := 8) rfl rfl (fun h11 => ?_) (fun h11 => ?_) | refine wo_gsplit (j := 8) rfl rfl (fun h11 => ?_) (fun h11 => ?_)
  ·
   refine wo_in (b := true) rfl ?_
   refine wo_pv (pv_fieldAddrk Tryz.underlying30 rfl ti9 rfl rfl (k := 1) rfl (by first | exact Nat.zero_add _ | exact Nat.add_zero _ | exact rfl)) rfl ?_
   refine wo_in (b := true) rfl ?_
   refine r_load Tryz.underlying9 rfl rfl rfl rfl ?_
   refine wo_in (b := true) rfl ?_
   refine wo_pv (pv_call_len_s Tryz.underlying9 rfl) rfl ?_
   refine wo_in (b := true) rfl ?_
   refine wo_pv (pv_leq rfl rfl) rfl ?_
   refine wo_pv (pv_pick_t rfl rfl) rfl ?_
   refine wo_pv (pv_move rfl) rfl ?_
   first | refine wo_gite (j := 14) rfl rfl (fun h17 => ?_) (fun h17 => ?_) | refine wo_gsplit (j := 14) rfl rfl (fun h17 => ?_) (fun h17 => ?_)
   ·
    refine wo_in (b := true) rfl ?_
    refine wo_pv (pv_fieldAddrk Tryz.underlying30 rfl ti3 rfl rfl (k := 2) rfl (by first | exact Nat.zero_add _ | exact Nat.add_zero _ | exact rfl)) rfl ?_
    refine wo_in (b := true) rfl ?_
    refine r_load Tryz.underlying3 rfl rfl rfl rfl ?_
    refine wo_in (b := true) rfl ?_
    refine r_callF (checkin_dated_sp c.date) rfl rfl rfl ?_
    refine wo_pv (pv_pick_t rfl rfl) rfl ?_
    refine wo_pv (pv_move rfl) rfl ?_
    first | refine wo_gite (j := 19) rfl rfl (fun h22 => ?_) (fun h22 => ?_) | refine wo_gsplit (j := 19) rfl rfl (fun h22 => ?_) (fun h22 => ?_)
    ·
     refine wo_in (b := true) rfl ?_
     refine wo_pv (pv_fieldAddrk Tryz.underlying30 rfl ti26 rfl rfl (k := 3) rfl (by first | exact Nat.zero_add _ | exact Nat.add_zero _ | exact rfl)) rfl ?_
     refine wo_in (b := true) rfl ?_
     refine r_load Tryz.underlying26 rfl rfl rfl rfl ?_
     refine wo_in (b := true) rfl ?_
     refine wo_pv (pv_fieldAddrk Tryz.underlying30 rfl ti9 rfl rfl (k := 0) rfl (by first | exact Nat.zero_add _ | exact Nat.add_zero _ | exact rfl)) rfl ?_
     refine wo_in (b := true) rfl ?_
     refine r_load Tryz.underlying9 rfl rfl rfl rfl ?_
     refine wo_in (b := true) rfl ?_
     refine wo_pv (pv_seql rfl rfl) rfl ?_
     refine wo_in (b := true) rfl ?_
     refine r_call1 hF rfl rfl rfl ?_
     refine wo_pv (pv_pick_t rfl rfl) rfl ?_
     refine wo_pv (pv_move rfl) rfl ?_
     first | refine wo_gite (j := 27) rfl rfl (fun h30 => ?_) (fun h30 => ?_) | refine wo_gsplit (j := 27) rfl rfl (fun h30 => ?_) (fun h30 => ?_)
     ·
      refine wo_in (b := true) rfl ?_
      refine wo_pv (pv_fieldAddrk Tryz.underlying30 rfl ti27 rfl rfl (k := 4) rfl (by first | exact Nat.zero_add _ | exact Nat.add_zero _ | exact rfl)) rfl ?_
      refine wo_in (b := true) rfl ?_
      refine r_load Tryz.underlying27 rfl rfl rfl rfl ?_
      refine wo_in (b := true) rfl ?_
      refine r_call1 hP rfl rfl rfl ?_
      refine wo_pv (pv_pick_t rfl rfl) rfl ?_
      refine wo_pv (pv_move rfl) rfl ?_
      first | refine wo_gite (j := 32) rfl rfl (fun h35 => ?_) (fun h35 => ?_) | refine wo_gsplit (j := 32) rfl rfl (fun h35 => ?_) (fun h35 => ?_)
      ·
       refine wo_in (b := true) rfl ?_
       refine wo_pv (pv_fieldAddrk Tryz.underlying30 rfl ti28 rfl rfl (k := 5) rfl (by first | exact Nat.zero_add _ | exact Nat.add_zero _ | exact rfl)) rfl ?_
       refine wo_in (b := true) rfl ?_
       refine r_load Tryz.underlying28 rfl rfl rfl rfl ?_
       refine wo_in (b := true) rfl ?_
       refine r_call1 hT rfl rfl rfl ?_
       refine wo_pv (pv_pick_t rfl rfl) rfl ?_
       refine wo_pv (pv_move rfl) rfl ?_
       first | refine wo_gite (j := 37) rfl rfl (fun h40 => ?_) (fun h40 => ?_) | refine wo_gsplit (j := 37) rfl rfl (fun h40 => ?_) (fun h40 => ?_)
       ·
        refine wo_in (b := true) rfl ?_
        refine wo_pv (pv_fieldAddrk Tryz.underlying30 rfl ti9 rfl rfl (k := 6) rfl (by first | exact Nat.zero_add _ | exact Nat.add_zero _ | exact rfl)) rfl ?_
        refine wo_in (b := true) rfl ?_
        refine r_load Tryz.underlying9 rfl rfl rfl rfl ?_
        refine wo_in (b := true) rfl ?_
        refine r_callF (escape_Word_sp c.user (by omega)) rfl rfl rfl ?_
        refine wo_pv (pv_pick_t rfl rfl) rfl ?_
        refine wo_pv (pv_assign rfl) rfl ?_
        refine q_seq ?_
        refine p_ret rfl ?_
        refine fin_ret () (vs := [_]) (Cs := []) rfl (.tmp rfl .nil) ?_ trivial ent_pick
        show vB _ = vB _
        congr 1
        try simp only [isN_fold] at *
        first
        | exact (decide_eq_false (fun h => h40 h.tags)).symm
        | exact (decide_eq_false (fun h => h35 h.parents)).symm
        | exact (decide_eq_false (fun h => h30 h.files)).symm
        | exact (decide_eq_false (fun h => h22 h.date)).symm
        | exact (decide_eq_false (fun h => by have := h.comment; omega)).symm
        | exact (decide_eq_false (fun h => h11 (h.base.resolve_left h6))).symm
        | exact decide_eq_decide.2 ⟨fun h => ⟨.inl h6, by omega, h22, h30, h35, h40, h⟩, fun h => h.user⟩
        | exact decide_eq_decide.2 ⟨fun h => ⟨.inr h11, by omega, h22, h30, h35, h40, h⟩, fun h => h.user⟩
       ·
        refine wo_out (b := false) rfl rfl rfl ?_
        refine wo_out (b := false) rfl rfl rfl ?_
        refine wo_out (b := false) rfl rfl rfl ?_
        refine wo_pv (pv_pick_f rfl rfl) rfl ?_
        refine wo_pv (pv_assign rfl) rfl ?_
        refine q_seq ?_
        refine p_ret rfl ?_
        refine fin_ret () (vs := [_]) (Cs := []) rfl (.tmp rfl .nil) ?_ trivial ent_pick
        show vB _ = vB _
        congr 1
        try simp only [isN_fold] at *
        first
        | exact (decide_eq_false (fun h => h40 h.tags)).symm
        | exact (decide_eq_false (fun h => h35 h.parents)).symm
        | exact (decide_eq_false (fun h => h30 h.files)).symm
        | exact (decide_eq_false (fun h => h22 h.date)).symm
        | exact (decide_eq_false (fun h => by have := h.comment; omega)).symm
        | exact (decide_eq_false (fun h => h11 (h.base.resolve_left h6))).symm
        | exact decide_eq_decide.2 ⟨fun h => ⟨.inl h6, by omega, h22, h30, h35, h40, h⟩, fun h => h.user⟩
        | exact decide_eq_decide.2 ⟨fun h => ⟨.inr h11, by omega, h22, h30, h35, h40, h⟩, fun h => h.user⟩
      ·
       refine wo_out (b := false) rfl rfl rfl ?_
       refine wo_out (b := false) rfl rfl rfl ?_
       refine wo_out (b := false) rfl rfl rfl ?_
       refine wo_pv (pv_pick_f rfl rfl) rfl ?_
       refine wo_pv (pv_move rfl) rfl ?_
       refine wo_out (b := false) rfl rfl rfl ?_
       refine wo_out (b := false) rfl rfl rfl ?_
       refine wo_out (b := false) rfl rfl rfl ?_
       refine wo_pv (pv_pick_f rfl rfl) rfl ?_
       refine wo_pv (pv_assign rfl) rfl ?_
       refine q_seq ?_
       refine p_ret rfl ?_
       refine fin_ret () (vs := [_]) (Cs := []) rfl (.tmp rfl .nil) ?_ trivial ent_pick
       show vB _ = vB _
       congr 1
       try simp only [isN_fold] at *
       first
       | exact (decide_eq_false (fun h => h40 h.tags)).symm
       | exact (decide_eq_false (fun h => h35 h.parents)).symm
       | exact (decide_eq_false (fun h => h30 h.files)).symm
       | exact (decide_eq_false (fun h => h22 h.date)).symm
       | exact (decide_eq_false (fun h => by have := h.comment; omega)).symm
       | exact (decide_eq_false (fun h => h11 (h.base.resolve_left h6))).symm
       | exact decide_eq_decide.2 ⟨fun h => ⟨.inl h6, by omega, h22, h30, h35, h40, h⟩, fun h => h.user⟩
       | exact decide_eq_decide.2 ⟨fun h => ⟨.inr h11, by omega, h22, h30, h35, h40, h⟩, fun h => h.user⟩
     ·
      refine wo_out (b := false) rfl rfl rfl ?_
      refine wo_out (b := false) rfl rfl rfl ?_
      refine wo_out (b := false) rfl rfl rfl ?_
      refine wo_pv (pv_pick_f rfl rfl) rfl ?_
      refine wo_pv (pv_move rfl) rfl ?_
      refine wo_out (b := false) rfl rfl rfl ?_
      refine wo_out (b := false) rfl rfl rfl ?_
      refine wo_out (b := false) rfl rfl rfl ?_
      refine wo_pv (pv_pick_f rfl rfl) rfl ?_
      refine wo_pv (pv_move rfl) rfl ?_
      refine wo_out (b := false) rfl rfl rfl ?_
      refine wo_out (b := false) rfl rfl rfl ?_
      refine wo_out (b := false) rfl rfl rfl ?_
      refine wo_pv (pv_pick_f rfl rfl) rfl ?_
      refine wo_pv (pv_assign rfl) rfl ?_
      refine q_seq ?_
      refine p_ret rfl ?_
      refine fin_ret () (vs := [_]) (Cs := []) rfl (.tmp rfl .nil) ?_ trivial ent_pick
      show vB _ = vB _
      congr 1
      try simp only [isN_fold] at *
      first
      | exact (decide_eq_false (fun h => h40 h.tags)).symm
      | exact (decide_eq_false (fun h => h35 h.parents)).symm
      | exact (decide_eq_false (fun h => h30 h.files)).symm
      | exact (decide_eq_false (fun h => h22 h.date)).symm
      | exact (decide_eq_false (fun h => by have := h.comment; omega)).symm
      | exact (decide_eq_false (fun h => h11 (h.base.resolve_left h6))).symm
      | exact decide_eq_decide.2 ⟨fun h => ⟨.inl h6, by omega, h22, h30, h35, h40, h⟩, fun h => h.user⟩
      | exact decide_eq_decide.2 ⟨fun h => ⟨.inr h11, by omega, h22, h30, h35, h40, h⟩, fun h => h.user⟩
    ·
     refine wo_out (b := false) rfl rfl rfl ?_
     refine wo_out (b := false) rfl rfl rfl ?_
     refine wo_out (b := false) rfl rfl rfl ?_
     refine wo_out (b := false) rfl rfl rfl ?_
     refine wo_out (b := false) rfl rfl rfl ?_
     refine wo_out (b := false) rfl rfl rfl ?_
     refine wo_pv (pv_pick_f rfl rfl) rfl ?_
     refine wo_pv (pv_move rfl) rfl ?_
     refine wo_out (b := false) rfl rfl rfl ?_
     refine wo_out (b := false) rfl rfl rfl ?_
     refine wo_out (b := false) rfl rfl rfl ?_
     refine wo_pv (pv_pick_f rfl rfl) rfl ?_
     refine wo_pv (pv_move rfl) rfl ?_
     refine wo_out (b := false) rfl rfl rfl ?_
     refine wo_out (b := false) rfl rfl rfl ?_
     refine wo_out (b := false) rfl rfl rfl ?_
     refine wo_pv (pv_pick_f rfl rfl) rfl ?_
     refine wo_pv (pv_move rfl) rfl ?_
     refine wo_out (b := false) rfl rfl rfl ?_
     refine wo_out (b := false) rfl rfl rfl ?_
     refine wo_out (b := false) rfl rfl rfl ?_
     refine wo_pv (pv_pick_f rfl rfl) rfl ?_
     refine wo_pv (pv_assign rfl) rfl ?_
     refine q_seq ?_
     refine p_ret rfl ?_
     refine fin_ret () (vs := [_]) (Cs := []) rfl (.tmp rfl .nil) ?_ trivial ent_pick
     show vB _ = vB _
     congr 1
     try simp only [isN_fold] at *
     first
     | exact (decide_eq_false (fun h => h40 h.tags)).symm
     | exact (decide_eq_false (fun h => h35 h.parents)).symm
     | exact (decide_eq_false (fun h => h30 h.files)).symm
     | exact (decide_eq_false (fun h => h22 h.date)).symm
     | exact (decide_eq_false (fun h => by have := h.comment; omega)).symm
     | exact (decide_eq_false (fun h => h11 (h.base.resolve_left h6))).symm
     | exact decide_eq_decide.2 ⟨fun h => ⟨.inl h6, by omega, h22, h30, h35, h40, h⟩, fun h => h.user⟩
     | exact decide_eq_decide.2 ⟨fun h => ⟨.inr h11, by omega, h22, h30, h35, h40, h⟩, fun h => h.user⟩
   ·
    refine wo_out (b := false) rfl rfl rfl ?_
    refine wo_out (b := false) rfl rfl rfl ?_
    refine wo_out (b := false) rfl rfl rfl ?_
    refine wo_pv (pv_pick_f rfl rfl) rfl ?_
    refine wo_pv (pv_move rfl) rfl ?_
    refine wo_out (b := false) rfl rfl rfl ?_
    refine wo_out (b := false) rfl rfl rfl ?_
    refine wo_out (b := false) rfl rfl rfl ?_
    refine wo_out (b := false) rfl rfl rfl ?_
    refine wo_out (b := false) rfl rfl rfl ?_
    refine wo_out (b := false) rfl rfl rfl ?_
    refine wo_pv (pv_pick_f rfl rfl) rfl ?_
    refine wo_pv (pv_move rfl) rfl ?_
    refine wo_out (b := false) rfl rfl rfl ?_
    refine wo_out (b := false) rfl rfl rfl ?_
    refine wo_out (b := false) rfl rfl rfl ?_
    refine wo_pv (pv_pick_f rfl rfl) rfl ?_
    refine wo_pv (pv_move rfl) rfl ?_
    refine wo_out (b := false) rfl rfl rfl ?_
    refine wo_out (b := false) rfl rfl rfl ?_
    refine wo_out (b := false) rfl rfl rfl ?_
    refine wo_pv (pv_pick_f rfl rfl) rfl ?_
    refine wo_pv (pv_move rfl) rfl ?_
    refine wo_out (b := false) rfl rfl rfl ?_
    refine wo_out (b := false) rfl rfl rfl ?_
    refine wo_out (b := false) rfl rfl rfl ?_
    refine wo_pv (pv_pick_f rfl rfl) rfl ?_
    refine wo_pv (pv_assign rfl) rfl ?_
    refine q_seq ?_
    refine p_ret rfl ?_
    refine fin_ret () (vs := [_]) (Cs := []) rfl (.tmp rfl .nil) ?_ trivial ent_pick
    show vB _ = vB _
    congr 1
    try simp only [isN_fold] at *
    first
    | exact (decide_eq_false (fun h => h40 h.tags)).symm
    | exact (decide_eq_false (fun h => h35 h.parents)).symm
    | exact (decide_eq_false (fun h => h30 h.files)).symm
    | exact (decide_eq_false (fun h => h22 h.date)).symm
    | exact (decide_eq_false (fun h => by have := h.comment; omega)).symm
    | exact (decide_eq_false (fun h => h11 (h.base.resolve_left h6))).symm
    | exact decide_eq_decide.2 ⟨fun h => ⟨.inl h6, by omega, h22, h30, h35, h40, h⟩, fun h => h.user⟩
    | exact decide_eq_decide.2 ⟨fun h => ⟨.inr h11, by omega, h22, h30, h35, h40, h⟩, fun h => h.user⟩
  ·
   refine wo_out (b := false) rfl rfl rfl ?_
   refine wo_out (b := false) rfl rfl rfl ?_
   refine wo_out (b := false) rfl rfl rfl ?_
   refine wo_out (b := false) rfl rfl rfl ?_
   refine wo_pv (pv_pick_f rfl rfl) rfl ?_
   refine wo_pv (pv_move rfl) rfl ?_
   refine wo_out (b := false) rfl rfl rfl ?_
   refine wo_out (b := false) rfl rfl rfl ?_
   refine wo_out (b := false) rfl rfl rfl ?_
   refine wo_pv (pv_pick_f rfl rfl) rfl ?_
   refine wo_pv (pv_move rfl) rfl ?_
   refine wo_out (b := false) rfl rfl rfl ?_
   refine wo_out (b := false) rfl rfl rfl ?_
   refine wo_out (b := false) rfl rfl rfl ?_
   refine wo_out (b := false) rfl rfl rfl ?_
   refine wo_out (b := false) rfl rfl rfl ?_
   refine wo_out (b := false) rfl rfl rfl ?_
   refine wo_pv (pv_pick_f rfl rfl) rfl ?_
   refine wo_pv (pv_move rfl) rfl ?_
   refine wo_out (b := false) rfl rfl rfl ?_
   refine wo_out (b := false) rfl rfl rfl ?_
   refine wo_out (b := false) rfl rfl rfl ?_
   refine wo_pv (pv_pick_f rfl rfl) rfl ?_
   refine wo_pv (pv_move rfl) rfl ?_
   refine wo_out (b := false) rfl rfl rfl ?_
   refine wo_out (b := false) rfl rfl rfl ?_
   refine wo_out (b := false) rfl rfl rfl ?_
   refine wo_pv (pv_pick_f rfl rfl) rfl ?_
   refine wo_pv (pv_move rfl) rfl ?_
   refine wo_out (b := false) rfl rfl rfl ?_
   refine wo_out (b := false) rfl rfl rfl ?_
   refine wo_out (b := false) rfl rfl rfl ?_
   refine wo_pv (pv_pick_f rfl rfl) rfl ?_
   refine wo_pv (pv_assign rfl) rfl ?_
   refine q_seq ?_
   refine p_ret rfl ?_
   refine fin_ret () (vs := [_]) (Cs := []) rfl (.tmp rfl .nil) ?_ trivial ent_pick
   show vB _ = vB _
   congr 1
   try simp only [isN_fold] at *
   first
   | exact (decide_eq_false (fun h => h40 h.tags)).symm
   | exact (decide_eq_false (fun h => h35 h.parents)).symm
   | exact (decide_eq_false (fun h => h30 h.files)).symm
   | exact (decide_eq_false (fun h => h22 h.date)).symm
   | exact (decide_eq_false (fun h => by have := h.comment; omega)).symm
   | exact (decide_eq_false (fun h => h11 (h.base.resolve_left h6))).symm
   | exact decide_eq_decide.2 ⟨fun h => ⟨.inl h6, by omega, h22, h30, h35, h40, h⟩, fun h => h.user⟩
   | exact decide_eq_decide.2 ⟨fun h => ⟨.inr h11, by omega, h22, h30, h35, h40, h⟩, fun h => h.user⟩
theorem checkin_one_sp (l : UInt8) (a : Option Addr) (n c : Nat) : SpF Tryz.prog 76 [vU l.toNat, .slice a n c] (.agg #[vU l.toNat, .slice a n c]) := by
 refine Sp.body (n := 8) Tryz.call76 Tryz.func76 rfl rfl rfl ?_
 refine p_seq rfl ?_
 refine p_region rfl ?_
 refine wo_alloc (zs := [.int .u8 0, .slice none 0 0]) ti133 rfl rfl rfl (fun b4 => ?_)
 refine q_seq ?_
 refine p_seq rfl ?_
 refine p_region rfl ?_
 refine wo_pv (pv_move rfl) rfl ?_
 refine wo_pv (pv_move rfl) rfl ?_
 refine wo_pv (pv_buildS (vs := [_, _]) Tryz.underlying133 ti133 rfl rfl rfl rfl rfl) rfl ?_
 refine r_storea ti133 rfl rfl rfl rfl (by simp; try omega) ?_
 refine q_seq ?_
 refine p_ret rfl ?_
 refine fin_ret () (vs := [_]) (Cs := [Ce b4 133 [vU l.toNat, .slice a n c]]) rfl (.cell (l := [vU l.toNat, .slice a n c]) (us := [vU l.toNat, .slice a n c]) rfl (shows_ce (T := 133)) Tryz.underlying133 rfl ti133 (by exact Nat.le_of_ble_eq_true rfl) rfl .nil) rfl trivial ?_
 exact ent_pick
section
variable {r : Option Nat} {P : Program} {n : Nat} {ops : Array Oper} {os : List Oper} {L : Loc} {Hs : List HP} {Q : Out} {c : Code}
/-- A block that one has, given up for good. -/
theorem wo_frzC (b : Nat) {T : TypeId} {l : List Value} {Rs : List HP} [h : OwnC b T l Hs Rs] (K : wo r P n ops os L (SlI (some ⟨b, 0, none⟩) l :: Rs) Q) : wo r P n ops os L Hs Q := by
 intro ac M m s w hf dj t
 obtain ⟨g1, g2, dg, e, y, s2⟩ := s.2
 subst e
 obtain ⟨h1, h2, d12, e, hb, sr⟩ := h.get.sat s2
 subst e
 have hb' : h1 = Res.one b _ := hb
 subst hb'
 obtain ⟨d1, d2⟩ := Res.dj_add_right.1 dg
 obtain ⟨f1, f2⟩ := Res.dj_add_left.1 dj
 obtain ⟨f3, f4⟩ := Res.dj_add_left.1 f2
 have eq : (g1.add ((Res.one b (.cells l.toArray T (0, 0))).add h2)).add hf = (Res.one b (.cells l.toArray T (0, 0))).add ((g1.add h2).add hf) := by
  rw [← Res.add_assoc g1, Res.add_comm d1]
  simp only [Res.add_assoc]
 have t' : Sat w M ((Res.one b (.cells l.toArray T (0, 0))).add ((g1.add h2).add hf)) := eq ▸ t
 obtain ⟨M', le, hi, t2⟩ := freeze_sat (Res.dj_add_right.2 ⟨Res.dj_add_right.2 ⟨Res.dj_comm d1, d12⟩, f3⟩) t'
 exact wo_on K (a := ac) (M := M') (h := g1.add h2) ⟨s.1, g1, h2, d2, rfl, (Al _).mono le y, Res.emp, h2, Res.emp_dj _, rfl, .inr ⟨b, 0, l, T, (0, 0), rfl, hi, by simp⟩, SL.mono le sr⟩ le (Res.dj_add_left.2 ⟨f1, f4⟩) t2
theorem wc_frzC (b : Nat) {T : TypeId} {l : List Value} {Rs : List HP} [h : OwnC b T l Hs Rs] (K : wc r P n c L (SlI (some ⟨b, 0, none⟩) l :: Rs) Q) : wc r P n c L Hs Q := by
 intro ac M m s w hf dj t
 obtain ⟨g1, g2, dg, e, y, s2⟩ := s.2
 subst e
 obtain ⟨h1, h2, d12, e, hb, sr⟩ := h.get.sat s2
 subst e
 have hb' : h1 = Res.one b _ := hb
 subst hb'
 obtain ⟨d1, d2⟩ := Res.dj_add_right.1 dg
 obtain ⟨f1, f2⟩ := Res.dj_add_left.1 dj
 obtain ⟨f3, f4⟩ := Res.dj_add_left.1 f2
 have eq : (g1.add ((Res.one b (.cells l.toArray T (0, 0))).add h2)).add hf = (Res.one b (.cells l.toArray T (0, 0))).add ((g1.add h2).add hf) := by
  rw [← Res.add_assoc g1, Res.add_comm d1]
  simp only [Res.add_assoc]
 have t' : Sat w M ((Res.one b (.cells l.toArray T (0, 0))).add ((g1.add h2).add hf)) := eq ▸ t
 obtain ⟨M', le, hi, t2⟩ := freeze_sat (Res.dj_add_right.2 ⟨Res.dj_add_right.2 ⟨Res.dj_comm d1, d12⟩, f3⟩) t'
 exact wout_of (K ac M' (g1.add h2) ⟨s.1, g1, h2, d2, rfl, (Al _).mono le y, Res.emp, h2, Res.emp_dj _, rfl, .inr ⟨b, 0, l, T, (0, 0), rfl, hi, by simp⟩, SL.mono le sr⟩) le (Res.dj_add_left.2 ⟨f1, f4⟩) t2
theorem wo_frzR (a : Option Addr) {e sz n' c' k : Nat} {xs : List Value} {Rs : List HP} [h : RowAC a e sz n' c' k xs Hs Rs] (K : wo r P n ops os L (SlI a xs :: Rs) Q) : wo r P n ops os L Hs Q := wo_freezeRow h.get K
end
theorem cdsOf_app (l m : List CdV) : cdsOf (l ++ m) = cdsOf l ++ cdsOf m := by simp [cdsOf]
theorem fm_snoc {α : Type} (f : α → List Value) (l : List α) (a : α) : (l ++ [a]).flatMap f = l.flatMap f ++ f a := by simp
set_option maxHeartbeats 1000000 in
theorem checkin_TagCards_sp {B : HP} {a : Option Addr} (n cap : Nat) (l : List Tg) (sh : SlA B a (l.flatMap tgCells)) (hn : l.length = n) (z : TgZ l) :
    Sp Tryz.prog 80 [.slice a n cap] [B] (X := (Option Addr × Nat) × List CdV) cardV (fun x => cdsOf x.2 = l.map tgCard) (fun x => cardH x ++ [B]) := by
 obtain ⟨hb, hz⟩ := z
 subst hn
 haveI : RdSl a (l.flatMap tgCells) [B] := ⟨⟨B, sh, .here⟩⟩
 refine Sp.body (n := 39) Tryz.call80 Tryz.func80 rfl rfl rfl ?_
 refine p_seq rfl ?_
 refine p_region rfl ?_
 refine wo_pv (pv_assign rfl) rfl ?_
 refine q_seq ?_
 refine p_seq rfl ?_
 refine p_region rfl ?_
 refine wo_pv (pv_assign rfl) rfl ?_
 refine q_seq ?_
 refine p_seq rfl ?_
 refine p_seq rfl ?_
 refine p_region rfl ?_
 refine wo_pv (pv_move rfl) rfl ?_
 refine wo_pv (pv_call_len_sl Tryz.underlying28 rfl) rfl ?_
 refine wo_pv (pv_move rfl) rfl ?_
 refine q_seq ?_
 refine p_block 0 rfl ?_
 refine p_loop (fun (i : { x : (Option Addr × Nat) × List CdV // x.2.length ≤ l.length ∧ cdsOf x.2 = (l.take x.2.length).map tgCard }) => [(3, .slice i.1.1.1 i.1.2.length i.1.1.2), (7, .slice a l.length cap), (8, vI l.length), (9, vI i.1.2.length)]) (fun (i : { x : (Option Addr × Nat) × List CdV // x.2.length ≤ l.length ∧ cdsOf x.2 = (l.take x.2.length).map tgCard }) => [Row 133 2 (.slice i.1.1.1 i.1.2.length i.1.1.2) i.1.2.length (i.1.2.flatMap CdV.cells), CdM i.1.2, B]) (fun (i : { x : (Option Addr × Nat) × List CdV // x.2.length ≤ l.length ∧ cdsOf x.2 = (l.take x.2.length).map tgCard }) => l.length - i.1.2.length) rfl (⟨((none, 0), []), Nat.zero_le _, rfl⟩) ?_ ?_ (fun i => ?_)
 · exact ⟨rfl, rfl, rfl, rfl, trivial⟩
 ·
  exact (row_nil (e := 133) (sz := 2)).trans (ent_cdm_nil.trans (show Ent _ [Row 133 2 (.slice none 0 0) 0 [], CdM [], B] from ent_pick))
 obtain ⟨⟨⟨oa, oc⟩, qs⟩, hj, hcd⟩ := i
 dsimp only at hj hcd ⊢
 try dsimp only
 refine p_seq rfl ?_
 refine p_region rfl ?_
 refine wo_pv (pv_lss rfl rfl) rfl ?_
 refine q_seq ?_
 refine p_seq rfl ?_
 first | refine p_ite rfl rfl (fun h10 => ?_) (fun h10 => ?_) | refine p_cond rfl rfl (fun h10 => ?_) (fun h10 => ?_)
 ·
  refine p_skip rfl ?_
  refine t_seq ?_
  refine p_seq rfl ?_
  refine p_block 1 rfl ?_
  refine p_seq rfl ?_
  have hjl : qs.length < l.length := by omega
  obtain ⟨t, ht⟩ : ∃ t, t = l[qs.length] := ⟨_, rfl⟩
  have hzj := hz t (by rw [ht]; exact List.getElem_mem hjl)
  have htk : (l.take (qs.length + 1)).map tgCard = cdsOf qs ++ [tgCard t] := by rw [List.take_succ_eq_append_getElem hjl, List.map_append, ← hcd, ht]; rfl
  refine p_region rfl ?_
  refine r_elemAddr (sz := 4) Tryz.underlying28 ti66 rfl rfl rfl rfl (by omega) (by first | (rw [List.length_map]; omega) | (rw [flat_len (sz := 4) (fun _ => rfl)]; omega) | (simp; omega)) rfl rfl ?_
  refine r_eloada (vs := [_, _, _, _]) (sz := 4) Tryz.underlying66 rfl ti66 rfl rfl (by rw [flat_len (sz := 4) (fun _ => rfl)]; omega) rfl (by refine get_flat (fun x => ?_) ?_ <;> first | rfl | omega) rfl ?_
  rw [← ht]
  refine wo_alloc (zs := [.int .u8 0, vS [], vS [], vS []]) ti66 rfl rfl rfl (fun b5 => ?_)
  refine r_storea ti66 rfl rfl rfl rfl (by simp; try omega) ?_
  refine q_seq ?_
  refine p_seq rfl ?_
  refine p_region rfl ?_
  refine wo_pv (pv_fieldAddrk Tryz.underlying66 rfl ti5 rfl rfl (k := 0) rfl (by first | exact Nat.zero_add _ | exact Nat.add_zero _ | exact rfl)) rfl ?_
  refine r_load Tryz.underlying5 rfl rfl rfl rfl ?_
  refine r_buildSliceL [_] (cs := [_]) Tryz.underlying89 ti5 rfl rfl rfl rfl rfl rfl rfl rfl (fun b15 => ?_)
  refine r_b2s (l := [t.kind]) Tryz.underlying89 Tryz.underlying9 Tryz.underlying5 rfl (by simp [vUs]) (by simp) rfl ?_
  refine wo_pv (pv_fieldAddrk Tryz.underlying66 rfl ti9 rfl rfl (k := 1) rfl (by first | exact Nat.zero_add _ | exact Nat.add_zero _ | exact rfl)) rfl ?_
  refine r_load Tryz.underlying9 rfl rfl rfl rfl ?_
  refine wo_pv (pv_cat rfl rfl (by first | (simp only [List.length_append, List.length_take, List.length_drop, List.length_cons, List.length_nil]; omega) | (simp; try omega))) rfl ?_
  refine wo_pv (pv_fieldAddrk Tryz.underlying66 rfl ti9 rfl rfl (k := 2) rfl (by first | exact Nat.zero_add _ | exact Nat.add_zero _ | exact rfl)) rfl ?_
  refine r_load Tryz.underlying9 rfl rfl rfl rfl ?_
  refine r_buildSliceL [_, _] (cs := [_, _]) Tryz.underlying27 ti9 rfl rfl rfl rfl rfl rfl rfl rfl (fun b22 => ?_)
  refine wo_pv (pv_assign rfl) rfl ?_
  refine q_seq ?_
  refine p_cut (fun (i : { x : (Option Addr × Nat) × List Bs // x.2 = (tgCard t).args ∧ x.2.length ≤ x.1.2 }) => [(3, .slice oa qs.length oc), (6, .slice i.1.1.1 i.1.2.length i.1.1.2), (7, .slice a l.length cap), (8, vI l.length), (9, vI qs.length)]) (fun (i : { x : (Option Addr × Nat) × List Bs // x.2 = (tgCard t).args ∧ x.2.length ≤ x.1.2 }) => [SlI i.1.1.1 (i.1.2.map vS), Row 133 2 (.slice oa qs.length oc) qs.length (qs.flatMap CdV.cells), CdM qs, B]) rfl (fun i => ?_) ?_
  ·
   obtain ⟨⟨⟨ga, gc⟩, xs⟩, hxs, hxc⟩ := i
   dsimp only at hxs hxc ⊢
   try dsimp only
   refine p_region rfl ?_
   refine wo_pv (pv_move rfl) rfl ?_
   refine wo_pv (pv_move rfl) rfl ?_
   refine wo_pv (pv_buildS (vs := [_, _]) Tryz.underlying133 ti133 rfl rfl rfl rfl rfl) rfl ?_
   refine r_buildSliceL [_] (cs := [_, _]) Tryz.underlying119 ti133 rfl rfl rfl rfl rfl rfl rfl rfl (fun b35 => ?_)
   refine r_append1 (sz := 2) (bytes := 32) Tryz.underlying119 ti133 rfl rfl rfl rfl rfl rfl rfl (by rfl) (by rfl) (by omega) (by simp only [maxLen]; omega) rfl (fun a36 c36 => ?_)
   refine wo_pv (pv_assign rfl) rfl ?_
   refine wo_nil ?_
   refine to_block ?_
   refine t_seq ?_
   refine p_region rfl ?_
   refine wo_pv (pv_add rfl rfl (by omega)) rfl ?_
   refine wo_pv (pv_move rfl) rfl ?_
   refine wo_nil ?_
   obtain ⟨q, hqq⟩ : ∃ q : CdV, q = ⟨84, ga, gc, xs⟩ := ⟨_, rfl⟩
   have hqc : q.cd = tgCard t := by rw [hqq]; show (⟨84, xs⟩ : Cd) = _; rw [hxs]; rfl
   have hql : (qs ++ [q]).length = qs.length + 1 := by simp
   refine to_inv ⟨((a36, c36), qs ++ [q]), ?_, ?_⟩ ?_ ⟨sl_eq hql.symm, rfl, rfl, vI_eq (by dsimp only; omega), trivial⟩ ?_
   · dsimp only; omega
   · dsimp only; rw [hql, htk, cds_snoc, hqc]
   · dsimp only; omega
   · dsimp only
     rw [hql]
     refine (ent_cdm_snoc (qs := qs) (q := q) HasC.get (by rw [hqq]; exact HasC.get) (by rw [hqq]; exact hxc)).trans ?_
     exact ent_step (row_norm (by rfl) (by rw [hqq]; simp [CdV.cells])) ent_pick
  ·
   refine p_seq rfl ?_
   refine p_region rfl ?_
   refine wo_pv (pv_fieldAddrk Tryz.underlying66 rfl ti9 rfl rfl (k := 3) rfl (by first | exact Nat.zero_add _ | exact Nat.add_zero _ | exact rfl)) rfl ?_
   refine r_load Tryz.underlying9 rfl rfl rfl rfl ?_
   refine wo_pv (pv_sneq rfl rfl) rfl ?_
   refine q_seq ?_
   first | refine p_ite rfl rfl (fun h25 => ?_) (fun h25 => ?_) | refine p_cond rfl rfl (fun h25 => ?_) (fun h25 => ?_)
   ·
    refine p_region rfl ?_
    refine wo_pv (pv_move rfl) rfl ?_
    refine wo_pv (pv_fieldAddrk Tryz.underlying66 rfl ti9 rfl rfl (k := 3) rfl (by first | exact Nat.zero_add _ | exact Nat.add_zero _ | exact rfl)) rfl ?_
    refine r_load Tryz.underlying9 rfl rfl rfl rfl ?_
    refine r_callF (escape_Put_sp t.value (by omega)) rfl rfl rfl ?_
    refine r_buildSliceL [_] (cs := [_]) Tryz.underlying27 ti9 rfl rfl rfl rfl rfl rfl rfl rfl (fun b30 => ?_)
    refine wo_ent' (ent_row (k := 2) (cap := 2) (sz := 1) (e := 9) (g := b22) (xs := [vS ([t.kind] ++ t.name), vS t.target]) (cur := [vS ([t.kind] ++ t.name), vS t.target]) (Nat.le_refl _) (by simp [maxLen]) rfl rfl rfl) ?_
    refine r_append1 (sz := 1) (bytes := 16) Tryz.underlying27 ti9 rfl rfl rfl rfl rfl rfl rfl (by rfl) (by rfl) (by omega) (by simp only [maxLen]; omega) rfl (fun a31 c31 => ?_)
    refine wo_know (A := Row 9 1 (.slice a31 (2 + 1) c31) (2 + 1) ([vS ([t.kind] ++ t.name), vS t.target] ++ [vS (escB t.value)])) HasC.get row_know (fun hk31 => ?_)
    refine wo_frzR a31 ?_
    rw [show ([vS ([t.kind] ++ t.name), vS t.target] ++ [vS (escB t.value)]) = ([t.kind :: t.name, t.target, escB t.value] : List Bs).map vS from rfl]
    refine wo_pv (pv_assign rfl) rfl ?_
    refine wo_nil ?_
    first
    | exact to_inv ⟨((a31, c31), [t.kind :: t.name, t.target, escB t.value]), by simp [tgCard, h25], hk31.1⟩ trivial ⟨rfl, rfl, rfl, rfl, rfl, trivial⟩ ent_pick
    | exact to_inv ⟨((some ⟨b22, 0, none⟩, 2), [t.kind :: t.name, t.target]), by simp [tgCard, Classical.not_not.1 h25], Nat.le_refl _⟩ trivial ⟨rfl, rfl, rfl, rfl, rfl, trivial⟩ ent_pick
   ·
    refine wc_frzC b22 ?_
    rw [show [vS ([t.kind] ++ t.name), vS t.target] = ([t.kind :: t.name, t.target] : List Bs).map vS from rfl]
    refine p_skip rfl ?_
    first
    | exact to_inv ⟨((a31, c31), [t.kind :: t.name, t.target, escB t.value]), by simp [tgCard, h25], hk31.1⟩ trivial ⟨rfl, rfl, rfl, rfl, rfl, trivial⟩ ent_pick
    | exact to_inv ⟨((some ⟨b22, 0, none⟩, 2), [t.kind :: t.name, t.target]), by simp [tgCard, Classical.not_not.1 h25], Nat.le_refl _⟩ trivial ⟨rfl, rfl, rfl, rfl, rfl, trivial⟩ ent_pick
 ·
  refine p_exit 0 rfl ?_
  refine t_seq_exit ?_
  refine to_inv_exit ?_
  refine to_block_here ?_
  refine t_seq ?_
  refine p_seq rfl ?_
  refine p_region rfl ?_
  refine wo_pv (pv_move rfl) rfl ?_
  refine wo_pv (pv_assign rfl) rfl ?_
  refine q_seq ?_
  refine p_ret rfl ?_
  have hjl : qs.length = l.length := by omega
  rw [hjl, List.take_length] at hcd
  refine fin_ret ((oa, oc), qs) (vs := [_]) (Cs := []) rfl (.tmp rfl .nil) rfl hcd ?_
  exact ent_pick
theorem one1_len {l : List (List Bs)} (h : l.length ≠ 1) : one1 l = none := by
 match l, h with
 | [], _ => rfl
 | [_], h => exact absurd rfl h
 | a :: b :: r, _ => simp [one1]
theorem one1_one (xs : List Bs) : one1 [xs] = if xs.length = 1 then some (xs.getD 0 []) else none := by
 match xs with
 | [] => rfl
 | [a] => rfl
 | a :: b :: r => simp [one1]
theorem ofL_argsOf (x : UInt8) (qs : List CdV) : (ofL x qs 0).map (fun p => p.2.args) = argsOf x (cdsOf qs) := ofL_args qs 0
theorem checkin_single_sp {B : HP} {a : Option Addr} (n cap : Nat) (qs : List CdV) (c : UInt8) (sh : SlA B a (qs.flatMap CdV.cells)) (hn : qs.length = n) (hb : n ≤ 1073741824) :
    Sp1 Tryz.prog 66 [.slice a n cap, vU c.toNat] [B, CdM qs] (.tuple #[vS ((one1 (argsOf c (cdsOf qs))).getD []), vB (one1 (argsOf c (cdsOf qs))).isSome]) [B] := by
 have hO := card_One_sp n cap qs c sh hn (by omega)
 have hof := ofL_argsOf c qs
 obtain ⟨l, hl⟩ : ∃ l, l = ofL c qs 0 := ⟨_, rfl⟩
 have hm : ∀ p ∈ l, p.2 ∈ qs := fun p hp => (ofL_mem (by rw [← hl]; exact hp)).1
 rw [← hl] at hO hof
 have hlq : l.length ≤ qs.length := by
  have h1 := congrArg List.length hof
  rw [List.length_map] at h1
  rw [h1]
  simp only [argsOf, List.length_map]
  refine Nat.le_trans (List.length_filter_le _ _) ?_
  simp [cdsOf]
 rw [← hof]
 refine Sp.body (n := 24) Tryz.call66 Tryz.func66 rfl rfl rfl ?_
 refine p_seq rfl ?_
 refine p_region rfl ?_
 refine wo_pv (pv_assign rfl) rfl ?_
 refine wo_pv (pv_assign rfl) rfl ?_
 refine q_seq ?_
 refine p_seq rfl ?_
 refine p_region rfl ?_
 refine wo_pv (pv_move rfl) rfl ?_
 refine wo_pv (pv_move rfl) rfl ?_
 refine r_call1 hO rfl rfl rfl ?_
 refine wo_pv (pv_move rfl) rfl ?_
 refine wo_pv (pv_extract (v := oneS l) rfl rfl) rfl ?_
 refine wo_pv (pv_extract (v := vI l.length) rfl rfl) rfl ?_
 refine wo_pv (pv_assign rfl) rfl ?_
 refine wo_pv (pv_assign rfl) rfl ?_
 refine q_seq ?_
 refine p_seq rfl ?_
 refine p_seq rfl ?_
 refine p_region rfl ?_
 refine wo_pv (pv_move rfl) rfl ?_
 refine wo_pv (pv_neq rfl rfl) rfl ?_
 refine wo_pv (pv_move rfl) rfl ?_
 first | refine wo_gite (j := 2) rfl rfl (fun h16 => ?_) (fun h16 => ?_) | refine wo_gsplit (j := 2) rfl rfl (fun h16 => ?_) (fun h16 => ?_)
 ·
  refine wo_out (b := true) rfl rfl rfl ?_
  refine wo_out (b := true) rfl rfl rfl ?_
  refine wo_out (b := true) rfl rfl rfl ?_
  refine wo_pv (pv_pick_t rfl rfl) rfl ?_
  refine q_seq ?_
  refine p_true rfl rfl ?_
  refine p_seq rfl ?_
  refine p_region rfl ?_
  refine wo_pv (pv_assign rfl) rfl ?_
  refine wo_pv (pv_assign rfl) rfl ?_
  refine q_seq ?_
  refine p_ret rfl ?_
  refine t_seq_ret ?_
  first
  | (rw [one1_len (by rw [List.length_map]; omega)]
     exact fin_ret () (vs := [_, _]) (Cs := []) rfl (.tmp rfl (.tmp rfl .nil)) rfl trivial ent_pick)
  | (rw [List.map_singleton, ho, if_neg (by omega)]
     exact fin_ret () (vs := [_, _]) (Cs := []) rfl (.tmp rfl (.tmp rfl .nil)) rfl trivial ent_pick)
 ·
  obtain ⟨p, hp⟩ : ∃ p, l = [p] := List.length_eq_one_iff.1 (by omega)
  subst hp
  have hpm := hm p (by simp)
  have ho := one1_one p.2.args
  refine wo_in (b := false) rfl ?_
  refine wo_pv (pv_move rfl) rfl ?_
  refine wo_in (b := false) rfl ?_
  refine wo_pv (pv_call_len_sl Tryz.underlying27 rfl) rfl ?_
  refine wo_in (b := false) rfl ?_
  refine wo_pv (pv_neq rfl rfl) rfl ?_
  refine wo_pv (pv_pick_f rfl rfl) rfl ?_
  refine q_seq ?_
  first | refine p_ite rfl rfl (fun h20 => ?_) (fun h20 => ?_) | refine p_cond rfl rfl (fun h20 => ?_) (fun h20 => ?_)
  ·
   refine p_seq rfl ?_
   refine p_region rfl ?_
   refine wo_pv (pv_assign rfl) rfl ?_
   refine wo_pv (pv_assign rfl) rfl ?_
   refine q_seq ?_
   refine p_ret rfl ?_
   refine t_seq_ret ?_
   first
   | (rw [one1_len (by rw [List.length_map]; omega)]
      exact fin_ret () (vs := [_, _]) (Cs := []) rfl (.tmp rfl (.tmp rfl .nil)) rfl trivial ent_pick)
   | (rw [List.map_singleton, ho, if_neg (by omega)]
      exact fin_ret () (vs := [_, _]) (Cs := []) rfl (.tmp rfl (.tmp rfl .nil)) rfl trivial ent_pick)
  ·
   refine p_skip rfl ?_
   refine t_seq ?_
   refine p_seq rfl ?_
   refine p_region rfl ?_
   refine wo_pv (pv_move rfl) rfl ?_
   refine wo_ent' (ent_cd hpm HasC.get) ?_
   have hl1 : p.2.args.length = 1 := by omega
   refine r_elemAddr (m := 0) (sz := 1) Tryz.underlying27 ti9 rfl rfl rfl rfl (by omega) (by first | (rw [List.length_map]; omega) | (rw [flat_len (sz := 1) (fun _ => rfl)]; omega) | (simp; omega)) (Nat.mul_one _) rfl ?_
   refine r_eload Tryz.underlying9 rfl rfl (get_mapD [] (m := 0) (by omega)) rfl ?_
   refine wo_pv (pv_assign rfl) rfl ?_
   refine wo_pv (pv_assign rfl) rfl ?_
   refine q_seq ?_
   refine p_ret rfl ?_
   rw [List.map_singleton, ho, if_pos hl1]
   exact fin_ret () (vs := [_, _]) (Cs := []) rfl (.tmp rfl (.tmp rfl .nil)) rfl trivial ent_pick
end Go.Proofs.YtibccdcemcgkeaaGreat
end
