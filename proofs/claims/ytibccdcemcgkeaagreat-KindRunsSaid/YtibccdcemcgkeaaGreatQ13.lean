/- Texts of this proof, put together: SCk. -/
import Derived.Test.YtibccdcemcgkeaaGreatQ12
set_option linter.unusedVariables false
set_option linter.unusedSimpArgs false
section
set_option maxRecDepth 100000
namespace Go.Proofs.YtibccdcemcgkeaaGreat
def tgCells (t : Tg) : List Value := [vU t.kind.toNat, vS t.name, vS t.target, vS t.value]
def flCells (f : Bs × Bs) : List Value := [vS f.1, vS f.2]
theorem tgget {l : List Tg} {j : Nat} (h : j < l.length) : (l.flatMap tgCells)[4 * j + 1]? = some (vS (l.getD j tg0).name) ∧ (l.flatMap tgCells)[4 * j + 2]? = some (vS (l.getD j tg0).target) := by
 have hg : l.getD j tg0 = l[j] := by simp [h]
 rw [hg]
 constructor
 · have := get_field (f := tgCells) (sz := 4) (fun _ => rfl) (k := 1) (by decide) h; rw [Nat.mul_comm]; exact this
 · have := get_field (f := tgCells) (sz := 4) (fun _ => rfl) (k := 2) (by decide) h; rw [Nat.mul_comm]; exact this
theorem flget {l : List (Bs × Bs)} {j : Nat} (h : j < l.length) : (l.flatMap flCells)[2 * j]? = some (vS (l.getD j ([], [])).1) := by
 have hg : l.getD j ([], []) = l[j] := by simp [h]
 rw [hg]
 have := get_field (f := flCells) (sz := 2) (fun _ => rfl) (k := 0) (by decide) h; rw [Nat.mul_comm]; exact this
/-- The order among neighbours, as it is asked. -/
theorem rise_bad {own : Bool} {l : List Tg} {j : Nat} (o : OkT own l j) (h0 : 0 < j) : (!(blt (l.getD (j - 1) tg0).name (l.getD j tg0).name || decide ((l.getD (j - 1) tg0).name = (l.getD j tg0).name))) = false ∧ ((l.getD (j - 1) tg0).name = (l.getD j tg0).name → (!(blt (l.getD (j - 1) tg0).target (l.getD j tg0).target)) = false) := by
 obtain ⟨h1, h2⟩ := o.rise h0
 constructor
 · rcases h1 with h1 | h1
   · rw [h1]; rfl
   · rw [decide_eq_true h1, Bool.or_true]; rfl
 · intro e; rw [h2 e]; rfl
set_option maxHeartbeats 2000000 in
theorem checkin_RightTags_sp {B : HP} {a : Option Addr} (own : Bool) (n cap : Nat) (l : List Tg) (sh : SlA B a (l.flatMap tgCells)) (hn : l.length = n) (hb : n ≤ 1073741824) (hz : ∀ t ∈ l, t.name.length ≤ 1099511627776 ∧ t.target.length ≤ 1099511627776 ∧ t.value.length ≤ 1099511627776) :
    Sp1 Tryz.prog 124 [vB own, .slice a n cap] [B] (vB (decide (RightT own l))) [B] := by
 subst hn
 haveI : RdSl a (l.flatMap tgCells) [B] := ⟨⟨B, sh, .here⟩⟩
 refine Sp.body (n := 91) Tryz.call124 Tryz.func124 rfl rfl rfl ?_
 refine p_seq rfl ?_
 refine p_region rfl ?_
 refine wo_pv (pv_assign rfl) rfl ?_
 refine q_seq ?_
 refine p_seq rfl ?_
 refine p_seq rfl ?_
 refine p_region rfl ?_
 refine wo_pv (pv_move rfl) rfl ?_
 refine wo_pv (pv_call_len_sl Tryz.underlying28 rfl) rfl ?_
 refine wo_pv (pv_move rfl) rfl ?_
 refine q_seq ?_
 refine p_block 0 rfl ?_
 refine p_loop (fun (i : { j : Nat // j ≤ l.length ∧ ∀ i, i < j → OkT own l i }) => [(0, vB own), (1, .slice a l.length cap), (7, .slice a l.length cap), (8, vI l.length), (9, vI i.1)]) (fun (i : { j : Nat // j ≤ l.length ∧ ∀ i, i < j → OkT own l i }) => [B]) (fun (i : { j : Nat // j ≤ l.length ∧ ∀ i, i < j → OkT own l i }) => l.length - i.1) rfl (⟨0, Nat.zero_le _, fun i h => by omega⟩) ?_ ?_ (fun i => ?_)
 · exact ⟨rfl, rfl, rfl, rfl, rfl, trivial⟩
 ·
  exact ent_pick
 obtain ⟨j, hj, hok⟩ := i
 dsimp only
 try dsimp only
 refine p_seq rfl ?_
 refine p_region rfl ?_
 refine wo_pv (pv_lss rfl rfl) rfl ?_
 refine q_seq ?_
 refine p_seq rfl ?_
 first | refine p_ite rfl rfl (fun h10 => ?_) (fun h10 => ?_) | refine p_cond rfl rfl (fun h10 => ?_) (fun h10 => ?_)
 ·
  refine p_skip rfl ?_
  refine t_seq ?_
  refine p_seq rfl ?_
  refine p_block 1 rfl ?_
  refine p_seq rfl ?_
  have hjl : j < l.length := by omega
  have hg : l.getD j tg0 = l[j] := by simp [hjl]
  have hzj := hz l[j] (List.getElem_mem hjl)
  obtain ⟨t, ht⟩ : ∃ t, t = l[j] := ⟨_, rfl⟩
  rw [← ht] at hzj hg
  have hfl : (l.flatMap tgCells).length = l.length * 4 := flat_len (f := tgCells) (sz := 4) (fun _ => rfl) l
  have hbad : ∀ (h : ¬ OkT own l j), decide (RightT own l) = false := fun h => decide_eq_false (fun r => h (r.ok j hjl))
  refine p_region rfl ?_
  refine wo_pv (pv_move rfl) rfl ?_
  refine r_elemAddr (sz := 4) Tryz.underlying28 ti66 rfl rfl rfl rfl (by omega) (by first | (rw [List.length_map]; omega) | (rw [flat_len (sz := 4) (fun _ => rfl)]; omega) | (simp; omega)) rfl rfl ?_
  refine r_eloada (vs := [_, _, _, _]) (sz := 4) Tryz.underlying66 rfl ti66 rfl rfl (by rw [flat_len (sz := 4) (fun _ => rfl)]; omega) rfl (by refine get_flat (fun x => ?_) ?_ <;> first | rfl | omega) rfl ?_
  rw [← ht]
  refine wo_alloc (zs := [.int .u8 0, vS [], vS [], vS []]) ti66 rfl rfl rfl (fun b6 => ?_)
  refine wo_pv (pv_assign rfl) rfl ?_
  refine r_storea ti66 rfl rfl rfl rfl (by simp; try omega) ?_
  refine q_seq ?_
  refine p_cut (fun (u : { u : Unit // t.kind.toNat = 43 ∨ t.kind.toNat = 42 ∨ (t.kind.toNat = 45 ∧ t.value = []) }) => [(0, vB own), (1, .slice a l.length cap), (5, vI j), (6, .pointer (some ⟨b6, 0, none⟩)), (7, .slice a l.length cap), (8, vI l.length), (9, vI j)]) (fun (u : { u : Unit // t.kind.toNat = 43 ∨ t.kind.toNat = 42 ∨ (t.kind.toNat = 45 ∧ t.value = []) }) => [Ce b6 66 [vU (t.kind.toNat : Int), vS t.name, vS t.target, vS t.value], B]) rfl (fun u => ?_) ?_
  ·
   obtain ⟨u, hkind⟩ := u
   try dsimp only
   refine p_seq rfl ?_
   refine p_seq rfl ?_
   refine p_region rfl ?_
   refine wo_pv (pv_fieldAddrk Tryz.underlying66 rfl ti9 rfl rfl (k := 1) rfl (by first | exact Nat.zero_add _ | exact Nat.add_zero _ | exact rfl)) rfl ?_
   refine r_load Tryz.underlying9 rfl rfl rfl rfl ?_
   refine r_callF (escape_Word_sp t.name (by omega)) rfl rfl rfl ?_
   refine wo_pv (by first | exact pv_notd rfl | exact pv_not rfl) rfl ?_
   refine wo_pv (pv_move rfl) rfl ?_
   first | refine wo_gite (j := 4) rfl rfl (fun h28 => ?_) (fun h28 => ?_) | refine wo_gsplit (j := 4) rfl rfl (fun h28 => ?_) (fun h28 => ?_)
   ·
    refine wo_out (b := true) rfl rfl rfl ?_
    refine wo_out (b := true) rfl rfl rfl ?_
    refine wo_out (b := true) rfl rfl rfl ?_
    refine wo_out (b := true) rfl rfl rfl ?_
    refine wo_pv (pv_pick_t rfl rfl) rfl ?_
    refine wo_pv (pv_move rfl) rfl ?_
    refine wo_out (b := true) rfl rfl rfl ?_
    refine wo_out (b := true) rfl rfl rfl ?_
    refine wo_outU (u := undef) rfl rfl rfl ?_
    refine wo_outU (u := undef) rfl rfl rfl ?_
    refine wo_outU (u := undef) rfl rfl rfl ?_
    refine wo_out (b := true) rfl rfl rfl ?_
    refine wo_pv (pv_pick_t rfl rfl) rfl ?_
    refine wo_pv (pv_move rfl) rfl ?_
    refine wo_out (b := true) rfl rfl rfl ?_
    refine wo_out (b := true) rfl rfl rfl ?_
    refine wo_out (b := true) rfl rfl rfl ?_
    refine wo_outU (u := undef) rfl rfl rfl ?_
    refine wo_outU (u := undef) rfl rfl rfl ?_
    refine wo_outU (u := undef) rfl rfl rfl ?_
    refine wo_outU (u := undef) rfl rfl rfl ?_
    refine wo_out (b := true) rfl rfl rfl ?_
    refine wo_pv (pv_pick_t rfl rfl) rfl ?_
    refine q_seq ?_
    refine p_true rfl rfl ?_
    refine p_seq rfl ?_
    refine p_region rfl ?_
    refine wo_pv (pv_assign rfl) rfl ?_
    refine q_seq ?_
    refine p_ret rfl ?_
    refine t_seq_ret ?_
    refine to_block_ret ?_
    refine t_seq_ret ?_
    refine to_inv_ret ?_
    refine to_block_ret ?_
    refine t_seq_ret ?_
    have hn : ¬ OkT own l j := fun o => by
     obtain ⟨_, o2, o3, ⟨o4, o5⟩, _⟩ := o
     rw [hg] at o2 o3 o4 o5
     first
     | omega
     | exact h51 (of_decide_eq_true (o5 (by simpa using h45)))
     | (cases own <;> simp_all [isN]; done)
    refine fin_ret () (vs := [_]) (Cs := []) rfl (.tmp rfl .nil) (by rw [hbad hn]; rfl) trivial ent_pick
   ·
    refine wo_in (b := false) rfl ?_
    refine wo_pv (pv_fieldAddrk Tryz.underlying66 rfl ti9 rfl rfl (k := 3) rfl (by first | exact Nat.zero_add _ | exact Nat.add_zero _ | exact rfl)) rfl ?_
    refine wo_in (b := false) rfl ?_
    refine r_load Tryz.underlying9 rfl rfl rfl rfl ?_
    refine wo_in (b := false) rfl ?_
    refine wo_pv (pv_call_len_s Tryz.underlying9 rfl) rfl ?_
    refine wo_in (b := false) rfl ?_
    refine wo_pv (pv_gtr rfl rfl) rfl ?_
    refine wo_pv (pv_pick_f rfl rfl) rfl ?_
    refine wo_pv (pv_move rfl) rfl ?_
    first | refine wo_gite (j := 10) rfl rfl (fun h34 => ?_) (fun h34 => ?_) | refine wo_gsplit (j := 10) rfl rfl (fun h34 => ?_) (fun h34 => ?_)
    ·
     refine wo_out (b := true) rfl rfl rfl ?_
     refine wo_out (b := true) rfl rfl rfl ?_
     refine wo_outU (u := undef) rfl rfl rfl ?_
     refine wo_outU (u := undef) rfl rfl rfl ?_
     refine wo_outU (u := undef) rfl rfl rfl ?_
     refine wo_out (b := true) rfl rfl rfl ?_
     refine wo_pv (pv_pick_t rfl rfl) rfl ?_
     refine wo_pv (pv_move rfl) rfl ?_
     refine wo_out (b := true) rfl rfl rfl ?_
     refine wo_out (b := true) rfl rfl rfl ?_
     refine wo_out (b := true) rfl rfl rfl ?_
     refine wo_outU (u := undef) rfl rfl rfl ?_
     refine wo_outU (u := undef) rfl rfl rfl ?_
     refine wo_outU (u := undef) rfl rfl rfl ?_
     refine wo_outU (u := undef) rfl rfl rfl ?_
     refine wo_out (b := true) rfl rfl rfl ?_
     refine wo_pv (pv_pick_t rfl rfl) rfl ?_
     refine q_seq ?_
     refine p_true rfl rfl ?_
     refine p_seq rfl ?_
     refine p_region rfl ?_
     refine wo_pv (pv_assign rfl) rfl ?_
     refine q_seq ?_
     refine p_ret rfl ?_
     refine t_seq_ret ?_
     refine to_block_ret ?_
     refine t_seq_ret ?_
     refine to_inv_ret ?_
     refine to_block_ret ?_
     refine t_seq_ret ?_
     have hn : ¬ OkT own l j := fun o => by
      obtain ⟨_, o2, o3, ⟨o4, o5⟩, _⟩ := o
      rw [hg] at o2 o3 o4 o5
      first
      | omega
      | exact h51 (of_decide_eq_true (o5 (by simpa using h45)))
      | (cases own <;> simp_all [isN]; done)
     refine fin_ret () (vs := [_]) (Cs := []) rfl (.tmp rfl .nil) (by rw [hbad hn]; rfl) trivial ent_pick
    ·
     refine wo_in (b := false) rfl ?_
     refine wo_pv (pv_move rfl) rfl ?_
     refine wo_in (b := false) rfl ?_
     refine wo_pv (pv_move rfl) rfl ?_
     first | refine wo_gite (j := 12) rfl rfl (fun h36 => ?_) (fun h36 => ?_) | refine wo_gsplit (j := 12) rfl rfl (fun h36 => ?_) (fun h36 => ?_)
     ·
      refine wo_in (b := true) rfl ?_
      refine wo_pv (pv_fieldAddrk Tryz.underlying66 rfl ti9 rfl rfl (k := 2) rfl (by first | exact Nat.zero_add _ | exact Nat.add_zero _ | exact rfl)) rfl ?_
      refine wo_in (b := true) rfl ?_
      refine r_load Tryz.underlying9 rfl rfl rfl rfl ?_
      refine wo_in (b := true) rfl ?_
      refine wo_pv (pv_sneq rfl rfl) rfl ?_
      refine wo_in (b := false) rfl ?_
      refine wo_pv (pv_pick_t rfl rfl) rfl ?_
      refine wo_pv (pv_pick_f rfl rfl) rfl ?_
      refine wo_pv (pv_move rfl) rfl ?_
      first | refine wo_gite (j := 18) rfl rfl (fun h42 => ?_) (fun h42 => ?_) | refine wo_gsplit (j := 18) rfl rfl (fun h42 => ?_) (fun h42 => ?_)
      ·
       refine wo_out (b := true) rfl rfl rfl ?_
       refine wo_out (b := true) rfl rfl rfl ?_
       refine wo_out (b := true) rfl rfl rfl ?_
       refine wo_outU (u := undef) rfl rfl rfl ?_
       refine wo_outU (u := undef) rfl rfl rfl ?_
       refine wo_outU (u := undef) rfl rfl rfl ?_
       refine wo_outU (u := undef) rfl rfl rfl ?_
       refine wo_out (b := true) rfl rfl rfl ?_
       refine wo_pv (pv_pick_t rfl rfl) rfl ?_
       refine q_seq ?_
       refine p_true rfl rfl ?_
       refine p_seq rfl ?_
       refine p_region rfl ?_
       refine wo_pv (pv_assign rfl) rfl ?_
       refine q_seq ?_
       refine p_ret rfl ?_
       refine t_seq_ret ?_
       refine to_block_ret ?_
       refine t_seq_ret ?_
       refine to_inv_ret ?_
       refine to_block_ret ?_
       refine t_seq_ret ?_
       have hn : ¬ OkT own l j := fun o => by
        obtain ⟨_, o2, o3, ⟨o4, o5⟩, _⟩ := o
        rw [hg] at o2 o3 o4 o5
        first
        | omega
        | exact h51 (of_decide_eq_true (o5 (by simpa using h45)))
        | (cases own <;> simp_all [isN]; done)
       refine fin_ret () (vs := [_]) (Cs := []) rfl (.tmp rfl .nil) (by rw [hbad hn]; rfl) trivial ent_pick
      ·
       refine wo_in (b := false) rfl ?_
       refine wo_pv (pv_move rfl) rfl ?_
       refine wo_in (b := false) rfl ?_
       refine wo_pv (by first | exact pv_notd rfl | exact pv_not rfl) rfl ?_
       refine wo_in (b := false) rfl ?_
       refine wo_pv (pv_move rfl) rfl ?_
       first | refine wo_gite (j := 21) rfl rfl (fun h45 => ?_) (fun h45 => ?_) | refine wo_gsplit (j := 21) rfl rfl (fun h45 => ?_) (fun h45 => ?_)
       ·
        refine wo_in (b := true) rfl ?_
        refine wo_pv (pv_fieldAddrk Tryz.underlying66 rfl ti9 rfl rfl (k := 2) rfl (by first | exact Nat.zero_add _ | exact Nat.add_zero _ | exact rfl)) rfl ?_
        refine wo_in (b := true) rfl ?_
        refine r_load Tryz.underlying9 rfl rfl rfl rfl ?_
        refine wo_in (b := true) rfl ?_
        refine r_callF (hash_Is_sp t.target (by omega)) rfl rfl rfl ?_
        refine wo_in (b := true) rfl ?_
        refine wo_pv (by first | exact pv_notd rfl | exact pv_not rfl) rfl ?_
        refine wo_in (b := false) rfl ?_
        refine wo_pv (pv_pick_t rfl rfl) rfl ?_
        refine wo_pv (pv_pick_f rfl rfl) rfl ?_
        refine q_seq ?_
        first | refine p_ite rfl rfl (fun h51 => ?_) (fun h51 => ?_) | refine p_cond rfl rfl (fun h51 => ?_) (fun h51 => ?_)
        ·
         refine p_seq rfl ?_
         refine p_region rfl ?_
         refine wo_pv (pv_assign rfl) rfl ?_
         refine q_seq ?_
         refine p_ret rfl ?_
         refine t_seq_ret ?_
         refine to_block_ret ?_
         refine t_seq_ret ?_
         refine to_inv_ret ?_
         refine to_block_ret ?_
         refine t_seq_ret ?_
         have hn : ¬ OkT own l j := fun o => by
          obtain ⟨_, o2, o3, ⟨o4, o5⟩, _⟩ := o
          rw [hg] at o2 o3 o4 o5
          first
          | omega
          | exact h51 (of_decide_eq_true (o5 (by simpa using h45)))
          | (cases own <;> simp_all [isN]; done)
         refine fin_ret () (vs := [_]) (Cs := []) rfl (.tmp rfl .nil) (by rw [hbad hn]; rfl) trivial ent_pick
        ·
         refine p_skip rfl ?_
         refine t_seq ?_
         refine p_seq rfl ?_
         refine d_draw rfl rfl rfl [Ce b6 66 [vU (t.kind.toNat : Int), vS t.name, vS t.target, vS t.value], B] ?_
         refine d_first 0 rfl rfl rfl (by kernel_rfl) (by kernel_rfl) (tl_pv (pv_move rfl)) ?_
         refine d_first 1 rfl rfl rfl (by kernel_rfl) (by kernel_rfl) (tl_pv (pv_gtr rfl rfl)) ?_
         refine d_first 2 rfl rfl rfl (by kernel_rfl) (by kernel_rfl) (tl_pv (pv_move rfl)) ?_
         first | refine d_gite (j := 2) rfl rfl (fun h54 => ?_) (fun h54 => ?_) | refine d_gsplit (j := 2) rfl rfl (fun h54 => ?_) (fun h54 => ?_)
         ·
          refine d_first 3 rfl rfl rfl (by kernel_rfl) (by kernel_rfl) (tl_in (b := true) rfl (tl_pv (pv_move rfl))) ?_
          refine d_first 4 rfl rfl rfl (by kernel_rfl) (by kernel_rfl) (tl_in (b := true) rfl (tl_pv (pv_move rfl))) ?_
          refine d_first 5 rfl rfl rfl (by kernel_rfl) (by kernel_rfl) (tl_in (b := true) rfl (tl_pv (pv_sub rfl rfl (by omega)))) ?_
          refine d_first 6 rfl rfl rfl (by kernel_rfl) (by kernel_rfl) (tl_in (b := true) rfl (tl_elemAddr (sz := 4) (m := j - 1) (kk := 4 * (j - 1)) Tryz.underlying28 ti66 rfl rfl rfl (by omega) (by omega) (by omega) (Nat.mul_comm _ _))) ?_
          refine d_first 7 rfl rfl rfl (by kernel_rfl) (by kernel_rfl) (tl_in (b := true) rfl (tl_efield (kk := 4 * (j - 1) + 1) Tryz.underlying66 rfl ti9 rfl rfl rfl rfl (by omega))) ?_
          refine d_first 8 rfl rfl rfl (by kernel_rfl) (by kernel_rfl) (tl_in (b := true) rfl (tl_eload Tryz.underlying9 rfl rfl (tgget (j := j - 1) (by omega)).1)) ?_
          refine d_first 9 rfl rfl rfl (by kernel_rfl) (by kernel_rfl) (tl_in (b := true) rfl (tl_pv (pv_fieldAddrk Tryz.underlying66 rfl ti9 rfl rfl (k := 1) rfl (by first | exact Nat.zero_add _ | exact Nat.add_zero _ | exact rfl)))) ?_
          refine d_first 10 rfl rfl rfl (by kernel_rfl) (by kernel_rfl) (tl_in (b := true) rfl (tl_load Tryz.underlying9 rfl rfl rfl)) ?_
          refine d_first 11 rfl rfl rfl (by kernel_rfl) (by kernel_rfl) (tl_in (b := true) rfl (tl_pv (pv_sgtr rfl rfl))) ?_
          refine d_first 12 rfl rfl rfl (by kernel_rfl) (by kernel_rfl) (tl_in (b := true) rfl (tl_pv (pv_move rfl))) ?_
          first | refine d_gite (j := 12) rfl rfl (fun h64 => ?_) (fun h64 => ?_) | refine d_gsplit (j := 12) rfl rfl (fun h64 => ?_) (fun h64 => ?_)
          ·
           refine d_first 13 rfl rfl rfl (by kernel_rfl) (by kernel_rfl) (tl_out (b := true) rfl rfl) ?_
           refine d_first 14 rfl rfl rfl (by kernel_rfl) (by kernel_rfl) (tl_out (b := true) rfl rfl) ?_
           refine d_first 15 rfl rfl rfl (by kernel_rfl) (by kernel_rfl) (tl_out (b := true) rfl rfl) ?_
           refine d_first 16 rfl rfl rfl (by kernel_rfl) (by kernel_rfl) (tl_out (b := true) rfl rfl) ?_
           refine d_first 17 rfl rfl rfl (by kernel_rfl) (by kernel_rfl) (tl_out (b := true) rfl rfl) ?_
           refine d_first 18 rfl rfl rfl (by kernel_rfl) (by kernel_rfl) (tl_out (b := true) rfl rfl) ?_
           refine d_first 19 rfl rfl rfl (by kernel_rfl) (by kernel_rfl) (tl_out (b := true) rfl rfl) ?_
           refine d_first 20 rfl rfl rfl (by kernel_rfl) (by kernel_rfl) (tl_out (b := true) rfl rfl) ?_
           refine d_first 21 rfl rfl rfl (by kernel_rfl) (by kernel_rfl) (tl_out (b := true) rfl rfl) ?_
           refine d_first 22 rfl rfl rfl (by kernel_rfl) (by kernel_rfl) (tl_out (b := true) rfl rfl) ?_
           refine d_first 23 rfl rfl rfl (by kernel_rfl) (by kernel_rfl) (tl_outU (u := undef) rfl rfl) ?_
           refine d_first 24 rfl rfl rfl (by kernel_rfl) (by kernel_rfl) (tl_outU (u := undef) rfl rfl) ?_
           refine d_first 25 rfl rfl rfl (by kernel_rfl) (by kernel_rfl) (tl_outU (u := undef) rfl rfl) ?_
           refine d_first 26 rfl rfl rfl (by kernel_rfl) (by kernel_rfl) (tl_outU (u := undef) rfl rfl) ?_
           refine d_first 27 rfl rfl rfl (by kernel_rfl) (by kernel_rfl) (tl_outU (u := undef) rfl rfl) ?_
           refine d_first 28 rfl rfl rfl (by kernel_rfl) (by kernel_rfl) (tl_outU (u := undef) rfl rfl) ?_
           refine d_first 29 rfl rfl rfl (by kernel_rfl) (by kernel_rfl) (tl_outU (u := undef) rfl rfl) ?_
           refine d_first 30 rfl rfl rfl (by kernel_rfl) (by kernel_rfl) (tl_outU (u := undef) rfl rfl) ?_
           refine d_first 31 rfl rfl rfl (by kernel_rfl) (by kernel_rfl) (tl_outU (u := undef) rfl rfl) ?_
           refine d_first 32 rfl rfl rfl (by kernel_rfl) (by kernel_rfl) (tl_out (b := true) rfl rfl) ?_
           refine d_first 33 rfl rfl rfl (by kernel_rfl) (by kernel_rfl) (tl_in (b := true) rfl (tl_pv (pv_pick_t rfl rfl))) ?_
           refine d_first 34 rfl rfl rfl (by kernel_rfl) (by kernel_rfl) (tl_pv (pv_pick_t rfl rfl)) ?_
           refine d_done (by kernel_rfl) ?_
           refine t_seq ?_
           refine p_true rfl rfl ?_
           refine p_seq rfl ?_
           refine p_region rfl ?_
           refine wo_pv (pv_assign rfl) rfl ?_
           refine q_seq ?_
           refine p_ret rfl ?_
           refine to_block_ret ?_
           refine t_seq_ret ?_
           refine to_inv_ret ?_
           refine to_block_ret ?_
           refine t_seq_ret ?_
           have hn : ¬ OkT own l j := fun o => by
            have h0 : 0 < j := by omega
            obtain ⟨r1, r2⟩ := rise_bad o h0
            rw [hg] at r1 r2
            simp_all
           refine fin_ret () (vs := [_]) (Cs := []) rfl (.tmp rfl .nil) (by rw [hbad hn]; rfl) trivial ent_pick
          ·
           refine d_first 13 rfl rfl rfl (by kernel_rfl) (by kernel_rfl) (tl_in (b := false) rfl (tl_pv (pv_move rfl))) ?_
           refine d_first 14 rfl rfl rfl (by kernel_rfl) (by kernel_rfl) (tl_in (b := false) rfl (tl_pv (pv_move rfl))) ?_
           refine d_first 15 rfl rfl rfl (by kernel_rfl) (by kernel_rfl) (tl_in (b := false) rfl (tl_pv (pv_sub rfl rfl (by omega)))) ?_
           refine d_first 16 rfl rfl rfl (by kernel_rfl) (by kernel_rfl) (tl_in (b := false) rfl (tl_elemAddr (sz := 4) (m := j - 1) (kk := 4 * (j - 1)) Tryz.underlying28 ti66 rfl rfl rfl (by omega) (by omega) (by omega) (Nat.mul_comm _ _))) ?_
           refine d_first 17 rfl rfl rfl (by kernel_rfl) (by kernel_rfl) (tl_in (b := false) rfl (tl_efield (kk := 4 * (j - 1) + 1) Tryz.underlying66 rfl ti9 rfl rfl rfl rfl (by omega))) ?_
           refine d_first 18 rfl rfl rfl (by kernel_rfl) (by kernel_rfl) (tl_in (b := false) rfl (tl_eload Tryz.underlying9 rfl rfl (tgget (j := j - 1) (by omega)).1)) ?_
           refine d_first 19 rfl rfl rfl (by kernel_rfl) (by kernel_rfl) (tl_in (b := false) rfl (tl_pv (pv_fieldAddrk Tryz.underlying66 rfl ti9 rfl rfl (k := 1) rfl (by first | exact Nat.zero_add _ | exact Nat.add_zero _ | exact rfl)))) ?_
           refine d_first 20 rfl rfl rfl (by kernel_rfl) (by kernel_rfl) (tl_in (b := false) rfl (tl_load Tryz.underlying9 rfl rfl rfl)) ?_
           refine d_first 21 rfl rfl rfl (by kernel_rfl) (by kernel_rfl) (tl_in (b := false) rfl (tl_pv (pv_seql rfl rfl))) ?_
           refine d_first 22 rfl rfl rfl (by kernel_rfl) (by kernel_rfl) (tl_in (b := false) rfl (tl_pv (pv_move rfl))) ?_
           first | refine d_gite (j := 22) rfl rfl (fun h74 => ?_) (fun h74 => ?_) | refine d_gsplit (j := 22) rfl rfl (fun h74 => ?_) (fun h74 => ?_)
           ·
            refine d_first 23 rfl rfl rfl (by kernel_rfl) (by kernel_rfl) (tl_in (b := true) rfl (tl_pv (pv_move rfl))) ?_
            refine d_first 24 rfl rfl rfl (by kernel_rfl) (by kernel_rfl) (tl_in (b := true) rfl (tl_pv (pv_move rfl))) ?_
            refine d_first 25 rfl rfl rfl (by kernel_rfl) (by kernel_rfl) (tl_in (b := true) rfl (tl_pv (pv_sub rfl rfl (by omega)))) ?_
            refine d_first 26 rfl rfl rfl (by kernel_rfl) (by kernel_rfl) (tl_in (b := true) rfl (tl_elemAddr (sz := 4) (m := j - 1) (kk := 4 * (j - 1)) Tryz.underlying28 ti66 rfl rfl rfl (by omega) (by omega) (by omega) (Nat.mul_comm _ _))) ?_
            refine d_first 27 rfl rfl rfl (by kernel_rfl) (by kernel_rfl) (tl_in (b := true) rfl (tl_efield (kk := 4 * (j - 1) + 2) Tryz.underlying66 rfl ti9 rfl rfl rfl rfl (by omega))) ?_
            refine d_first 28 rfl rfl rfl (by kernel_rfl) (by kernel_rfl) (tl_in (b := true) rfl (tl_eload Tryz.underlying9 rfl rfl (tgget (j := j - 1) (by omega)).2)) ?_
            refine d_first 29 rfl rfl rfl (by kernel_rfl) (by kernel_rfl) (tl_in (b := true) rfl (tl_pv (pv_fieldAddrk Tryz.underlying66 rfl ti9 rfl rfl (k := 2) rfl (by first | exact Nat.zero_add _ | exact Nat.add_zero _ | exact rfl)))) ?_
            refine d_first 30 rfl rfl rfl (by kernel_rfl) (by kernel_rfl) (tl_in (b := true) rfl (tl_load Tryz.underlying9 rfl rfl rfl)) ?_
            refine d_first 31 rfl rfl rfl (by kernel_rfl) (by kernel_rfl) (tl_in (b := true) rfl (tl_pv (pv_sgeq rfl rfl))) ?_
            refine d_first 32 rfl rfl rfl (by kernel_rfl) (by kernel_rfl) (tl_in (b := false) rfl (tl_pv (pv_pick_t rfl rfl))) ?_
            refine d_first 33 rfl rfl rfl (by kernel_rfl) (by kernel_rfl) (tl_in (b := true) rfl (tl_pv (pv_pick_f rfl rfl))) ?_
            refine d_first 34 rfl rfl rfl (by kernel_rfl) (by kernel_rfl) (tl_pv (pv_pick_t rfl rfl)) ?_
            refine d_done (by kernel_rfl) ?_
            refine t_seq ?_
            first | refine p_ite rfl rfl (fun h86 => ?_) (fun h86 => ?_) | refine p_cond rfl rfl (fun h86 => ?_) (fun h86 => ?_)
            ·
             refine p_seq rfl ?_
             refine p_region rfl ?_
             refine wo_pv (pv_assign rfl) rfl ?_
             refine q_seq ?_
             refine p_ret rfl ?_
             refine to_block_ret ?_
             refine t_seq_ret ?_
             refine to_inv_ret ?_
             refine to_block_ret ?_
             refine t_seq_ret ?_
             have hn : ¬ OkT own l j := fun o => by
              have h0 : 0 < j := by omega
              obtain ⟨r1, r2⟩ := rise_bad o h0
              rw [hg] at r1 r2
              simp_all
             refine fin_ret () (vs := [_]) (Cs := []) rfl (.tmp rfl .nil) (by rw [hbad hn]; rfl) trivial ent_pick
            ·
             refine p_skip rfl ?_
             refine to_block ?_
             refine t_seq ?_
             refine p_region rfl ?_
             refine wo_pv (pv_add rfl rfl (by omega)) rfl ?_
             refine wo_pv (pv_move rfl) rfl ?_
             refine wo_nil ?_
             have hokj : OkT own l j := by
              refine ⟨by rw [hg]; exact hkind, by rw [hg]; exact Classical.not_not.1 h28, by rw [hg]; omega, ?_, ?_⟩
              · rw [hg]
                cases own <;> simp_all [isN]
              · intro h0
                rw [hg]
                first
                | (exfalso; omega)
                | (have e1 : blt (l.getD (j - 1) tg0).name t.name = true ∨ (l.getD (j - 1) tg0).name = t.name := by
                     cases hb1 : blt (l.getD (j - 1) tg0).name t.name with
                     | true => exact .inl rfl
                     | false =>
                       rw [hb1, Bool.false_or] at h64
                       exact .inr (by simpa using h64)
                   first
                   | exact ⟨e1, fun e => absurd e h74⟩
                   | exact ⟨e1, fun _ => by simpa using h86⟩)
             refine to_inv ⟨j + 1, by omega, fun i hi => ?_⟩ (by dsimp only; omega) ⟨rfl, rfl, rfl, rfl, rfl, trivial⟩ ent_pick
             by_cases he : i = j
             · rw [he]; exact hokj
             · exact hok i (by omega)
           ·
            refine d_first 23 rfl rfl rfl (by kernel_rfl) (by kernel_rfl) (tl_out (b := false) rfl rfl) ?_
            refine d_first 24 rfl rfl rfl (by kernel_rfl) (by kernel_rfl) (tl_out (b := false) rfl rfl) ?_
            refine d_first 25 rfl rfl rfl (by kernel_rfl) (by kernel_rfl) (tl_out (b := false) rfl rfl) ?_
            refine d_first 26 rfl rfl rfl (by kernel_rfl) (by kernel_rfl) (tl_out (b := false) rfl rfl) ?_
            refine d_first 27 rfl rfl rfl (by kernel_rfl) (by kernel_rfl) (tl_out (b := false) rfl rfl) ?_
            refine d_first 28 rfl rfl rfl (by kernel_rfl) (by kernel_rfl) (tl_out (b := false) rfl rfl) ?_
            refine d_first 29 rfl rfl rfl (by kernel_rfl) (by kernel_rfl) (tl_out (b := false) rfl rfl) ?_
            refine d_first 30 rfl rfl rfl (by kernel_rfl) (by kernel_rfl) (tl_out (b := false) rfl rfl) ?_
            refine d_first 31 rfl rfl rfl (by kernel_rfl) (by kernel_rfl) (tl_out (b := false) rfl rfl) ?_
            refine d_first 32 rfl rfl rfl (by kernel_rfl) (by kernel_rfl) (tl_in (b := false) rfl (tl_pv (pv_pick_f rfl rfl))) ?_
            refine d_first 33 rfl rfl rfl (by kernel_rfl) (by kernel_rfl) (tl_in (b := true) rfl (tl_pv (pv_pick_f rfl rfl))) ?_
            refine d_first 34 rfl rfl rfl (by kernel_rfl) (by kernel_rfl) (tl_pv (pv_pick_t rfl rfl)) ?_
            refine d_done (by kernel_rfl) ?_
            refine t_seq ?_
            refine p_false rfl rfl ?_
            refine p_skip rfl ?_
            refine to_block ?_
            refine t_seq ?_
            refine p_region rfl ?_
            refine wo_pv (pv_add rfl rfl (by omega)) rfl ?_
            refine wo_pv (pv_move rfl) rfl ?_
            refine wo_nil ?_
            have hokj : OkT own l j := by
             refine ⟨by rw [hg]; exact hkind, by rw [hg]; exact Classical.not_not.1 h28, by rw [hg]; omega, ?_, ?_⟩
             · rw [hg]
               cases own <;> simp_all [isN]
             · intro h0
               rw [hg]
               first
               | (exfalso; omega)
               | (have e1 : blt (l.getD (j - 1) tg0).name t.name = true ∨ (l.getD (j - 1) tg0).name = t.name := by
                    cases hb1 : blt (l.getD (j - 1) tg0).name t.name with
                    | true => exact .inl rfl
                    | false =>
                      rw [hb1, Bool.false_or] at h64
                      exact .inr (by simpa using h64)
                  first
                  | exact ⟨e1, fun e => absurd e h74⟩
                  | exact ⟨e1, fun _ => by simpa using h86⟩)
            refine to_inv ⟨j + 1, by omega, fun i hi => ?_⟩ (by dsimp only; omega) ⟨rfl, rfl, rfl, rfl, rfl, trivial⟩ ent_pick
            by_cases he : i = j
            · rw [he]; exact hokj
            · exact hok i (by omega)
         ·
          refine d_first 3 rfl rfl rfl (by kernel_rfl) (by kernel_rfl) (tl_out (b := false) rfl rfl) ?_
          refine d_first 4 rfl rfl rfl (by kernel_rfl) (by kernel_rfl) (tl_out (b := false) rfl rfl) ?_
          refine d_first 5 rfl rfl rfl (by kernel_rfl) (by kernel_rfl) (tl_out (b := false) rfl rfl) ?_
          refine d_first 6 rfl rfl rfl (by kernel_rfl) (by kernel_rfl) (tl_out (b := false) rfl rfl) ?_
          refine d_first 7 rfl rfl rfl (by kernel_rfl) (by kernel_rfl) (tl_out (b := false) rfl rfl) ?_
          refine d_first 8 rfl rfl rfl (by kernel_rfl) (by kernel_rfl) (tl_out (b := false) rfl rfl) ?_
          refine d_first 9 rfl rfl rfl (by kernel_rfl) (by kernel_rfl) (tl_out (b := false) rfl rfl) ?_
          refine d_first 10 rfl rfl rfl (by kernel_rfl) (by kernel_rfl) (tl_out (b := false) rfl rfl) ?_
          refine d_first 11 rfl rfl rfl (by kernel_rfl) (by kernel_rfl) (tl_out (b := false) rfl rfl) ?_
          refine d_first 12 rfl rfl rfl (by kernel_rfl) (by kernel_rfl) (tl_out (b := false) rfl rfl) ?_
          refine d_first 13 rfl rfl rfl (by kernel_rfl) (by kernel_rfl) (tl_outU (u := undef) rfl rfl) ?_
          refine d_first 14 rfl rfl rfl (by kernel_rfl) (by kernel_rfl) (tl_outU (u := undef) rfl rfl) ?_
          refine d_first 15 rfl rfl rfl (by kernel_rfl) (by kernel_rfl) (tl_outU (u := undef) rfl rfl) ?_
          refine d_first 16 rfl rfl rfl (by kernel_rfl) (by kernel_rfl) (tl_outU (u := undef) rfl rfl) ?_
          refine d_first 17 rfl rfl rfl (by kernel_rfl) (by kernel_rfl) (tl_outU (u := undef) rfl rfl) ?_
          refine d_first 18 rfl rfl rfl (by kernel_rfl) (by kernel_rfl) (tl_outU (u := undef) rfl rfl) ?_
          refine d_first 19 rfl rfl rfl (by kernel_rfl) (by kernel_rfl) (tl_outU (u := undef) rfl rfl) ?_
          refine d_first 20 rfl rfl rfl (by kernel_rfl) (by kernel_rfl) (tl_outU (u := undef) rfl rfl) ?_
          refine d_first 21 rfl rfl rfl (by kernel_rfl) (by kernel_rfl) (tl_outU (u := undef) rfl rfl) ?_
          refine d_first 22 rfl rfl rfl (by kernel_rfl) (by kernel_rfl) (tl_outU (u := undef) rfl rfl) ?_
          refine d_first 23 rfl rfl rfl (by kernel_rfl) (by kernel_rfl) (tl_outU (u := undef) rfl rfl) ?_
          refine d_first 24 rfl rfl rfl (by kernel_rfl) (by kernel_rfl) (tl_outU (u := undef) rfl rfl) ?_
          refine d_first 25 rfl rfl rfl (by kernel_rfl) (by kernel_rfl) (tl_outU (u := undef) rfl rfl) ?_
          refine d_first 26 rfl rfl rfl (by kernel_rfl) (by kernel_rfl) (tl_outU (u := undef) rfl rfl) ?_
          refine d_first 27 rfl rfl rfl (by kernel_rfl) (by kernel_rfl) (tl_outU (u := undef) rfl rfl) ?_
          refine d_first 28 rfl rfl rfl (by kernel_rfl) (by kernel_rfl) (tl_outU (u := undef) rfl rfl) ?_
          refine d_first 29 rfl rfl rfl (by kernel_rfl) (by kernel_rfl) (tl_outU (u := undef) rfl rfl) ?_
          refine d_first 30 rfl rfl rfl (by kernel_rfl) (by kernel_rfl) (tl_outU (u := undef) rfl rfl) ?_
          refine d_first 31 rfl rfl rfl (by kernel_rfl) (by kernel_rfl) (tl_outU (u := undef) rfl rfl) ?_
          refine d_first 32 rfl rfl rfl (by kernel_rfl) (by kernel_rfl) (tl_outU (u := undef) rfl rfl) ?_
          refine d_first 33 rfl rfl rfl (by kernel_rfl) (by kernel_rfl) (tl_out (b := false) rfl rfl) ?_
          refine d_first 34 rfl rfl rfl (by kernel_rfl) (by kernel_rfl) (tl_pv (pv_pick_f rfl rfl)) ?_
          refine d_done (by kernel_rfl) ?_
          refine t_seq ?_
          refine p_false rfl rfl ?_
          refine p_skip rfl ?_
          refine to_block ?_
          refine t_seq ?_
          refine p_region rfl ?_
          refine wo_pv (pv_add rfl rfl (by omega)) rfl ?_
          refine wo_pv (pv_move rfl) rfl ?_
          refine wo_nil ?_
          have hokj : OkT own l j := by
           refine ⟨by rw [hg]; exact hkind, by rw [hg]; exact Classical.not_not.1 h28, by rw [hg]; omega, ?_, ?_⟩
           · rw [hg]
             cases own <;> simp_all [isN]
           · intro h0
             rw [hg]
             first
             | (exfalso; omega)
             | (have e1 : blt (l.getD (j - 1) tg0).name t.name = true ∨ (l.getD (j - 1) tg0).name = t.name := by
                  cases hb1 : blt (l.getD (j - 1) tg0).name t.name with
                  | true => exact .inl rfl
                  | false =>
                    rw [hb1, Bool.false_or] at h64
                    exact .inr (by simpa using h64)
                first
                | exact ⟨e1, fun e => absurd e h74⟩
                | exact ⟨e1, fun _ => by simpa using h86⟩)
          refine to_inv ⟨j + 1, by omega, fun i hi => ?_⟩ (by dsimp only; omega) ⟨rfl, rfl, rfl, rfl, rfl, trivial⟩ ent_pick
          by_cases he : i = j
          · rw [he]; exact hokj
          · exact hok i (by omega)
       ·
        refine wo_out (b := false) rfl rfl rfl ?_
        refine wo_out (b := false) rfl rfl rfl ?_
        refine wo_out (b := false) rfl rfl rfl ?_
        refine wo_out (b := false) rfl rfl rfl ?_
        refine wo_in (b := false) rfl ?_
        refine wo_pv (pv_pick_f rfl rfl) rfl ?_
        refine wo_pv (pv_pick_f rfl rfl) rfl ?_
        refine q_seq ?_
        refine p_false rfl rfl ?_
        refine p_skip rfl ?_
        refine t_seq ?_
        refine p_seq rfl ?_
        refine d_draw rfl rfl rfl [Ce b6 66 [vU (t.kind.toNat : Int), vS t.name, vS t.target, vS t.value], B] ?_
        refine d_first 0 rfl rfl rfl (by kernel_rfl) (by kernel_rfl) (tl_pv (pv_move rfl)) ?_
        refine d_first 1 rfl rfl rfl (by kernel_rfl) (by kernel_rfl) (tl_pv (pv_gtr rfl rfl)) ?_
        refine d_first 2 rfl rfl rfl (by kernel_rfl) (by kernel_rfl) (tl_pv (pv_move rfl)) ?_
        first | refine d_gite (j := 2) rfl rfl (fun h54 => ?_) (fun h54 => ?_) | refine d_gsplit (j := 2) rfl rfl (fun h54 => ?_) (fun h54 => ?_)
        ·
         refine d_first 3 rfl rfl rfl (by kernel_rfl) (by kernel_rfl) (tl_in (b := true) rfl (tl_pv (pv_move rfl))) ?_
         refine d_first 4 rfl rfl rfl (by kernel_rfl) (by kernel_rfl) (tl_in (b := true) rfl (tl_pv (pv_move rfl))) ?_
         refine d_first 5 rfl rfl rfl (by kernel_rfl) (by kernel_rfl) (tl_in (b := true) rfl (tl_pv (pv_sub rfl rfl (by omega)))) ?_
         refine d_first 6 rfl rfl rfl (by kernel_rfl) (by kernel_rfl) (tl_in (b := true) rfl (tl_elemAddr (sz := 4) (m := j - 1) (kk := 4 * (j - 1)) Tryz.underlying28 ti66 rfl rfl rfl (by omega) (by omega) (by omega) (Nat.mul_comm _ _))) ?_
         refine d_first 7 rfl rfl rfl (by kernel_rfl) (by kernel_rfl) (tl_in (b := true) rfl (tl_efield (kk := 4 * (j - 1) + 1) Tryz.underlying66 rfl ti9 rfl rfl rfl rfl (by omega))) ?_
         refine d_first 8 rfl rfl rfl (by kernel_rfl) (by kernel_rfl) (tl_in (b := true) rfl (tl_eload Tryz.underlying9 rfl rfl (tgget (j := j - 1) (by omega)).1)) ?_
         refine d_first 9 rfl rfl rfl (by kernel_rfl) (by kernel_rfl) (tl_in (b := true) rfl (tl_pv (pv_fieldAddrk Tryz.underlying66 rfl ti9 rfl rfl (k := 1) rfl (by first | exact Nat.zero_add _ | exact Nat.add_zero _ | exact rfl)))) ?_
         refine d_first 10 rfl rfl rfl (by kernel_rfl) (by kernel_rfl) (tl_in (b := true) rfl (tl_load Tryz.underlying9 rfl rfl rfl)) ?_
         refine d_first 11 rfl rfl rfl (by kernel_rfl) (by kernel_rfl) (tl_in (b := true) rfl (tl_pv (pv_sgtr rfl rfl))) ?_
         refine d_first 12 rfl rfl rfl (by kernel_rfl) (by kernel_rfl) (tl_in (b := true) rfl (tl_pv (pv_move rfl))) ?_
         first | refine d_gite (j := 12) rfl rfl (fun h64 => ?_) (fun h64 => ?_) | refine d_gsplit (j := 12) rfl rfl (fun h64 => ?_) (fun h64 => ?_)
         ·
          refine d_first 13 rfl rfl rfl (by kernel_rfl) (by kernel_rfl) (tl_out (b := true) rfl rfl) ?_
          refine d_first 14 rfl rfl rfl (by kernel_rfl) (by kernel_rfl) (tl_out (b := true) rfl rfl) ?_
          refine d_first 15 rfl rfl rfl (by kernel_rfl) (by kernel_rfl) (tl_out (b := true) rfl rfl) ?_
          refine d_first 16 rfl rfl rfl (by kernel_rfl) (by kernel_rfl) (tl_out (b := true) rfl rfl) ?_
          refine d_first 17 rfl rfl rfl (by kernel_rfl) (by kernel_rfl) (tl_out (b := true) rfl rfl) ?_
          refine d_first 18 rfl rfl rfl (by kernel_rfl) (by kernel_rfl) (tl_out (b := true) rfl rfl) ?_
          refine d_first 19 rfl rfl rfl (by kernel_rfl) (by kernel_rfl) (tl_out (b := true) rfl rfl) ?_
          refine d_first 20 rfl rfl rfl (by kernel_rfl) (by kernel_rfl) (tl_out (b := true) rfl rfl) ?_
          refine d_first 21 rfl rfl rfl (by kernel_rfl) (by kernel_rfl) (tl_out (b := true) rfl rfl) ?_
          refine d_first 22 rfl rfl rfl (by kernel_rfl) (by kernel_rfl) (tl_out (b := true) rfl rfl) ?_
          refine d_first 23 rfl rfl rfl (by kernel_rfl) (by kernel_rfl) (tl_outU (u := undef) rfl rfl) ?_
          refine d_first 24 rfl rfl rfl (by kernel_rfl) (by kernel_rfl) (tl_outU (u := undef) rfl rfl) ?_
          refine d_first 25 rfl rfl rfl (by kernel_rfl) (by kernel_rfl) (tl_outU (u := undef) rfl rfl) ?_
          refine d_first 26 rfl rfl rfl (by kernel_rfl) (by kernel_rfl) (tl_outU (u := undef) rfl rfl) ?_
          refine d_first 27 rfl rfl rfl (by kernel_rfl) (by kernel_rfl) (tl_outU (u := undef) rfl rfl) ?_
          refine d_first 28 rfl rfl rfl (by kernel_rfl) (by kernel_rfl) (tl_outU (u := undef) rfl rfl) ?_
          refine d_first 29 rfl rfl rfl (by kernel_rfl) (by kernel_rfl) (tl_outU (u := undef) rfl rfl) ?_
          refine d_first 30 rfl rfl rfl (by kernel_rfl) (by kernel_rfl) (tl_outU (u := undef) rfl rfl) ?_
          refine d_first 31 rfl rfl rfl (by kernel_rfl) (by kernel_rfl) (tl_outU (u := undef) rfl rfl) ?_
          refine d_first 32 rfl rfl rfl (by kernel_rfl) (by kernel_rfl) (tl_out (b := true) rfl rfl) ?_
          refine d_first 33 rfl rfl rfl (by kernel_rfl) (by kernel_rfl) (tl_in (b := true) rfl (tl_pv (pv_pick_t rfl rfl))) ?_
          refine d_first 34 rfl rfl rfl (by kernel_rfl) (by kernel_rfl) (tl_pv (pv_pick_t rfl rfl)) ?_
          refine d_done (by kernel_rfl) ?_
          refine t_seq ?_
          refine p_true rfl rfl ?_
          refine p_seq rfl ?_
          refine p_region rfl ?_
          refine wo_pv (pv_assign rfl) rfl ?_
          refine q_seq ?_
          refine p_ret rfl ?_
          refine to_block_ret ?_
          refine t_seq_ret ?_
          refine to_inv_ret ?_
          refine to_block_ret ?_
          refine t_seq_ret ?_
          have hn : ¬ OkT own l j := fun o => by
           have h0 : 0 < j := by omega
           obtain ⟨r1, r2⟩ := rise_bad o h0
           rw [hg] at r1 r2
           simp_all
          refine fin_ret () (vs := [_]) (Cs := []) rfl (.tmp rfl .nil) (by rw [hbad hn]; rfl) trivial ent_pick
         ·
          refine d_first 13 rfl rfl rfl (by kernel_rfl) (by kernel_rfl) (tl_in (b := false) rfl (tl_pv (pv_move rfl))) ?_
          refine d_first 14 rfl rfl rfl (by kernel_rfl) (by kernel_rfl) (tl_in (b := false) rfl (tl_pv (pv_move rfl))) ?_
          refine d_first 15 rfl rfl rfl (by kernel_rfl) (by kernel_rfl) (tl_in (b := false) rfl (tl_pv (pv_sub rfl rfl (by omega)))) ?_
          refine d_first 16 rfl rfl rfl (by kernel_rfl) (by kernel_rfl) (tl_in (b := false) rfl (tl_elemAddr (sz := 4) (m := j - 1) (kk := 4 * (j - 1)) Tryz.underlying28 ti66 rfl rfl rfl (by omega) (by omega) (by omega) (Nat.mul_comm _ _))) ?_
          refine d_first 17 rfl rfl rfl (by kernel_rfl) (by kernel_rfl) (tl_in (b := false) rfl (tl_efield (kk := 4 * (j - 1) + 1) Tryz.underlying66 rfl ti9 rfl rfl rfl rfl (by omega))) ?_
          refine d_first 18 rfl rfl rfl (by kernel_rfl) (by kernel_rfl) (tl_in (b := false) rfl (tl_eload Tryz.underlying9 rfl rfl (tgget (j := j - 1) (by omega)).1)) ?_
          refine d_first 19 rfl rfl rfl (by kernel_rfl) (by kernel_rfl) (tl_in (b := false) rfl (tl_pv (pv_fieldAddrk Tryz.underlying66 rfl ti9 rfl rfl (k := 1) rfl (by first | exact Nat.zero_add _ | exact Nat.add_zero _ | exact rfl)))) ?_
          refine d_first 20 rfl rfl rfl (by kernel_rfl) (by kernel_rfl) (tl_in (b := false) rfl (tl_load Tryz.underlying9 rfl rfl rfl)) ?_
          refine d_first 21 rfl rfl rfl (by kernel_rfl) (by kernel_rfl) (tl_in (b := false) rfl (tl_pv (pv_seql rfl rfl))) ?_
          refine d_first 22 rfl rfl rfl (by kernel_rfl) (by kernel_rfl) (tl_in (b := false) rfl (tl_pv (pv_move rfl))) ?_
          first | refine d_gite (j := 22) rfl rfl (fun h74 => ?_) (fun h74 => ?_) | refine d_gsplit (j := 22) rfl rfl (fun h74 => ?_) (fun h74 => ?_)
          ·
           refine d_first 23 rfl rfl rfl (by kernel_rfl) (by kernel_rfl) (tl_in (b := true) rfl (tl_pv (pv_move rfl))) ?_
           refine d_first 24 rfl rfl rfl (by kernel_rfl) (by kernel_rfl) (tl_in (b := true) rfl (tl_pv (pv_move rfl))) ?_
           refine d_first 25 rfl rfl rfl (by kernel_rfl) (by kernel_rfl) (tl_in (b := true) rfl (tl_pv (pv_sub rfl rfl (by omega)))) ?_
           refine d_first 26 rfl rfl rfl (by kernel_rfl) (by kernel_rfl) (tl_in (b := true) rfl (tl_elemAddr (sz := 4) (m := j - 1) (kk := 4 * (j - 1)) Tryz.underlying28 ti66 rfl rfl rfl (by omega) (by omega) (by omega) (Nat.mul_comm _ _))) ?_
           refine d_first 27 rfl rfl rfl (by kernel_rfl) (by kernel_rfl) (tl_in (b := true) rfl (tl_efield (kk := 4 * (j - 1) + 2) Tryz.underlying66 rfl ti9 rfl rfl rfl rfl (by omega))) ?_
           refine d_first 28 rfl rfl rfl (by kernel_rfl) (by kernel_rfl) (tl_in (b := true) rfl (tl_eload Tryz.underlying9 rfl rfl (tgget (j := j - 1) (by omega)).2)) ?_
           refine d_first 29 rfl rfl rfl (by kernel_rfl) (by kernel_rfl) (tl_in (b := true) rfl (tl_pv (pv_fieldAddrk Tryz.underlying66 rfl ti9 rfl rfl (k := 2) rfl (by first | exact Nat.zero_add _ | exact Nat.add_zero _ | exact rfl)))) ?_
           refine d_first 30 rfl rfl rfl (by kernel_rfl) (by kernel_rfl) (tl_in (b := true) rfl (tl_load Tryz.underlying9 rfl rfl rfl)) ?_
           refine d_first 31 rfl rfl rfl (by kernel_rfl) (by kernel_rfl) (tl_in (b := true) rfl (tl_pv (pv_sgeq rfl rfl))) ?_
           refine d_first 32 rfl rfl rfl (by kernel_rfl) (by kernel_rfl) (tl_in (b := false) rfl (tl_pv (pv_pick_t rfl rfl))) ?_
           refine d_first 33 rfl rfl rfl (by kernel_rfl) (by kernel_rfl) (tl_in (b := true) rfl (tl_pv (pv_pick_f rfl rfl))) ?_
           refine d_first 34 rfl rfl rfl (by kernel_rfl) (by kernel_rfl) (tl_pv (pv_pick_t rfl rfl)) ?_
           refine d_done (by kernel_rfl) ?_
           refine t_seq ?_
           first | refine p_ite rfl rfl (fun h86 => ?_) (fun h86 => ?_) | refine p_cond rfl rfl (fun h86 => ?_) (fun h86 => ?_)
           ·
            refine p_seq rfl ?_
            refine p_region rfl ?_
            refine wo_pv (pv_assign rfl) rfl ?_
            refine q_seq ?_
            refine p_ret rfl ?_
            refine to_block_ret ?_
            refine t_seq_ret ?_
            refine to_inv_ret ?_
            refine to_block_ret ?_
            refine t_seq_ret ?_
            have hn : ¬ OkT own l j := fun o => by
             have h0 : 0 < j := by omega
             obtain ⟨r1, r2⟩ := rise_bad o h0
             rw [hg] at r1 r2
             simp_all
            refine fin_ret () (vs := [_]) (Cs := []) rfl (.tmp rfl .nil) (by rw [hbad hn]; rfl) trivial ent_pick
           ·
            refine p_skip rfl ?_
            refine to_block ?_
            refine t_seq ?_
            refine p_region rfl ?_
            refine wo_pv (pv_add rfl rfl (by omega)) rfl ?_
            refine wo_pv (pv_move rfl) rfl ?_
            refine wo_nil ?_
            have hokj : OkT own l j := by
             refine ⟨by rw [hg]; exact hkind, by rw [hg]; exact Classical.not_not.1 h28, by rw [hg]; omega, ?_, ?_⟩
             · rw [hg]
               cases own <;> simp_all [isN]
             · intro h0
               rw [hg]
               first
               | (exfalso; omega)
               | (have e1 : blt (l.getD (j - 1) tg0).name t.name = true ∨ (l.getD (j - 1) tg0).name = t.name := by
                    cases hb1 : blt (l.getD (j - 1) tg0).name t.name with
                    | true => exact .inl rfl
                    | false =>
                      rw [hb1, Bool.false_or] at h64
                      exact .inr (by simpa using h64)
                  first
                  | exact ⟨e1, fun e => absurd e h74⟩
                  | exact ⟨e1, fun _ => by simpa using h86⟩)
            refine to_inv ⟨j + 1, by omega, fun i hi => ?_⟩ (by dsimp only; omega) ⟨rfl, rfl, rfl, rfl, rfl, trivial⟩ ent_pick
            by_cases he : i = j
            · rw [he]; exact hokj
            · exact hok i (by omega)
          ·
           refine d_first 23 rfl rfl rfl (by kernel_rfl) (by kernel_rfl) (tl_out (b := false) rfl rfl) ?_
           refine d_first 24 rfl rfl rfl (by kernel_rfl) (by kernel_rfl) (tl_out (b := false) rfl rfl) ?_
           refine d_first 25 rfl rfl rfl (by kernel_rfl) (by kernel_rfl) (tl_out (b := false) rfl rfl) ?_
           refine d_first 26 rfl rfl rfl (by kernel_rfl) (by kernel_rfl) (tl_out (b := false) rfl rfl) ?_
           refine d_first 27 rfl rfl rfl (by kernel_rfl) (by kernel_rfl) (tl_out (b := false) rfl rfl) ?_
           refine d_first 28 rfl rfl rfl (by kernel_rfl) (by kernel_rfl) (tl_out (b := false) rfl rfl) ?_
           refine d_first 29 rfl rfl rfl (by kernel_rfl) (by kernel_rfl) (tl_out (b := false) rfl rfl) ?_
           refine d_first 30 rfl rfl rfl (by kernel_rfl) (by kernel_rfl) (tl_out (b := false) rfl rfl) ?_
           refine d_first 31 rfl rfl rfl (by kernel_rfl) (by kernel_rfl) (tl_out (b := false) rfl rfl) ?_
           refine d_first 32 rfl rfl rfl (by kernel_rfl) (by kernel_rfl) (tl_in (b := false) rfl (tl_pv (pv_pick_f rfl rfl))) ?_
           refine d_first 33 rfl rfl rfl (by kernel_rfl) (by kernel_rfl) (tl_in (b := true) rfl (tl_pv (pv_pick_f rfl rfl))) ?_
           refine d_first 34 rfl rfl rfl (by kernel_rfl) (by kernel_rfl) (tl_pv (pv_pick_t rfl rfl)) ?_
           refine d_done (by kernel_rfl) ?_
           refine t_seq ?_
           refine p_false rfl rfl ?_
           refine p_skip rfl ?_
           refine to_block ?_
           refine t_seq ?_
           refine p_region rfl ?_
           refine wo_pv (pv_add rfl rfl (by omega)) rfl ?_
           refine wo_pv (pv_move rfl) rfl ?_
           refine wo_nil ?_
           have hokj : OkT own l j := by
            refine ⟨by rw [hg]; exact hkind, by rw [hg]; exact Classical.not_not.1 h28, by rw [hg]; omega, ?_, ?_⟩
            · rw [hg]
              cases own <;> simp_all [isN]
            · intro h0
              rw [hg]
              first
              | (exfalso; omega)
              | (have e1 : blt (l.getD (j - 1) tg0).name t.name = true ∨ (l.getD (j - 1) tg0).name = t.name := by
                   cases hb1 : blt (l.getD (j - 1) tg0).name t.name with
                   | true => exact .inl rfl
                   | false =>
                     rw [hb1, Bool.false_or] at h64
                     exact .inr (by simpa using h64)
                 first
                 | exact ⟨e1, fun e => absurd e h74⟩
                 | exact ⟨e1, fun _ => by simpa using h86⟩)
           refine to_inv ⟨j + 1, by omega, fun i hi => ?_⟩ (by dsimp only; omega) ⟨rfl, rfl, rfl, rfl, rfl, trivial⟩ ent_pick
           by_cases he : i = j
           · rw [he]; exact hokj
           · exact hok i (by omega)
        ·
         refine d_first 3 rfl rfl rfl (by kernel_rfl) (by kernel_rfl) (tl_out (b := false) rfl rfl) ?_
         refine d_first 4 rfl rfl rfl (by kernel_rfl) (by kernel_rfl) (tl_out (b := false) rfl rfl) ?_
         refine d_first 5 rfl rfl rfl (by kernel_rfl) (by kernel_rfl) (tl_out (b := false) rfl rfl) ?_
         refine d_first 6 rfl rfl rfl (by kernel_rfl) (by kernel_rfl) (tl_out (b := false) rfl rfl) ?_
         refine d_first 7 rfl rfl rfl (by kernel_rfl) (by kernel_rfl) (tl_out (b := false) rfl rfl) ?_
         refine d_first 8 rfl rfl rfl (by kernel_rfl) (by kernel_rfl) (tl_out (b := false) rfl rfl) ?_
         refine d_first 9 rfl rfl rfl (by kernel_rfl) (by kernel_rfl) (tl_out (b := false) rfl rfl) ?_
         refine d_first 10 rfl rfl rfl (by kernel_rfl) (by kernel_rfl) (tl_out (b := false) rfl rfl) ?_
         refine d_first 11 rfl rfl rfl (by kernel_rfl) (by kernel_rfl) (tl_out (b := false) rfl rfl) ?_
         refine d_first 12 rfl rfl rfl (by kernel_rfl) (by kernel_rfl) (tl_out (b := false) rfl rfl) ?_
         refine d_first 13 rfl rfl rfl (by kernel_rfl) (by kernel_rfl) (tl_outU (u := undef) rfl rfl) ?_
         refine d_first 14 rfl rfl rfl (by kernel_rfl) (by kernel_rfl) (tl_outU (u := undef) rfl rfl) ?_
         refine d_first 15 rfl rfl rfl (by kernel_rfl) (by kernel_rfl) (tl_outU (u := undef) rfl rfl) ?_
         refine d_first 16 rfl rfl rfl (by kernel_rfl) (by kernel_rfl) (tl_outU (u := undef) rfl rfl) ?_
         refine d_first 17 rfl rfl rfl (by kernel_rfl) (by kernel_rfl) (tl_outU (u := undef) rfl rfl) ?_
         refine d_first 18 rfl rfl rfl (by kernel_rfl) (by kernel_rfl) (tl_outU (u := undef) rfl rfl) ?_
         refine d_first 19 rfl rfl rfl (by kernel_rfl) (by kernel_rfl) (tl_outU (u := undef) rfl rfl) ?_
         refine d_first 20 rfl rfl rfl (by kernel_rfl) (by kernel_rfl) (tl_outU (u := undef) rfl rfl) ?_
         refine d_first 21 rfl rfl rfl (by kernel_rfl) (by kernel_rfl) (tl_outU (u := undef) rfl rfl) ?_
         refine d_first 22 rfl rfl rfl (by kernel_rfl) (by kernel_rfl) (tl_outU (u := undef) rfl rfl) ?_
         refine d_first 23 rfl rfl rfl (by kernel_rfl) (by kernel_rfl) (tl_outU (u := undef) rfl rfl) ?_
         refine d_first 24 rfl rfl rfl (by kernel_rfl) (by kernel_rfl) (tl_outU (u := undef) rfl rfl) ?_
         refine d_first 25 rfl rfl rfl (by kernel_rfl) (by kernel_rfl) (tl_outU (u := undef) rfl rfl) ?_
         refine d_first 26 rfl rfl rfl (by kernel_rfl) (by kernel_rfl) (tl_outU (u := undef) rfl rfl) ?_
         refine d_first 27 rfl rfl rfl (by kernel_rfl) (by kernel_rfl) (tl_outU (u := undef) rfl rfl) ?_
         refine d_first 28 rfl rfl rfl (by kernel_rfl) (by kernel_rfl) (tl_outU (u := undef) rfl rfl) ?_
         refine d_first 29 rfl rfl rfl (by kernel_rfl) (by kernel_rfl) (tl_outU (u := undef) rfl rfl) ?_
         refine d_first 30 rfl rfl rfl (by kernel_rfl) (by kernel_rfl) (tl_outU (u := undef) rfl rfl) ?_
         refine d_first 31 rfl rfl rfl (by kernel_rfl) (by kernel_rfl) (tl_outU (u := undef) rfl rfl) ?_
         refine d_first 32 rfl rfl rfl (by kernel_rfl) (by kernel_rfl) (tl_outU (u := undef) rfl rfl) ?_
         refine d_first 33 rfl rfl rfl (by kernel_rfl) (by kernel_rfl) (tl_out (b := false) rfl rfl) ?_
         refine d_first 34 rfl rfl rfl (by kernel_rfl) (by kernel_rfl) (tl_pv (pv_pick_f rfl rfl)) ?_
         refine d_done (by kernel_rfl) ?_
         refine t_seq ?_
         refine p_false rfl rfl ?_
         refine p_skip rfl ?_
         refine to_block ?_
         refine t_seq ?_
         refine p_region rfl ?_
         refine wo_pv (pv_add rfl rfl (by omega)) rfl ?_
         refine wo_pv (pv_move rfl) rfl ?_
         refine wo_nil ?_
         have hokj : OkT own l j := by
          refine ⟨by rw [hg]; exact hkind, by rw [hg]; exact Classical.not_not.1 h28, by rw [hg]; omega, ?_, ?_⟩
          · rw [hg]
            cases own <;> simp_all [isN]
          · intro h0
            rw [hg]
            first
            | (exfalso; omega)
            | (have e1 : blt (l.getD (j - 1) tg0).name t.name = true ∨ (l.getD (j - 1) tg0).name = t.name := by
                 cases hb1 : blt (l.getD (j - 1) tg0).name t.name with
                 | true => exact .inl rfl
                 | false =>
                   rw [hb1, Bool.false_or] at h64
                   exact .inr (by simpa using h64)
               first
               | exact ⟨e1, fun e => absurd e h74⟩
               | exact ⟨e1, fun _ => by simpa using h86⟩)
         refine to_inv ⟨j + 1, by omega, fun i hi => ?_⟩ (by dsimp only; omega) ⟨rfl, rfl, rfl, rfl, rfl, trivial⟩ ent_pick
         by_cases he : i = j
         · rw [he]; exact hokj
         · exact hok i (by omega)
     ·
      refine wo_out (b := false) rfl rfl rfl ?_
      refine wo_out (b := false) rfl rfl rfl ?_
      refine wo_out (b := false) rfl rfl rfl ?_
      refine wo_in (b := false) rfl ?_
      refine wo_pv (pv_pick_f rfl rfl) rfl ?_
      refine wo_pv (pv_pick_f rfl rfl) rfl ?_
      refine wo_pv (pv_move rfl) rfl ?_
      refine wo_in (b := false) rfl ?_
      refine wo_pv (pv_move rfl) rfl ?_
      refine wo_in (b := false) rfl ?_
      refine wo_pv (by first | exact pv_notd rfl | exact pv_not rfl) rfl ?_
      refine wo_in (b := false) rfl ?_
      refine wo_pv (pv_move rfl) rfl ?_
      first | refine wo_gite (j := 21) rfl rfl (fun h45 => ?_) (fun h45 => ?_) | refine wo_gsplit (j := 21) rfl rfl (fun h45 => ?_) (fun h45 => ?_)
      ·
       refine wo_in (b := true) rfl ?_
       refine wo_pv (pv_fieldAddrk Tryz.underlying66 rfl ti9 rfl rfl (k := 2) rfl (by first | exact Nat.zero_add _ | exact Nat.add_zero _ | exact rfl)) rfl ?_
       refine wo_in (b := true) rfl ?_
       refine r_load Tryz.underlying9 rfl rfl rfl rfl ?_
       refine wo_in (b := true) rfl ?_
       refine r_callF (hash_Is_sp t.target (by omega)) rfl rfl rfl ?_
       refine wo_in (b := true) rfl ?_
       refine wo_pv (by first | exact pv_notd rfl | exact pv_not rfl) rfl ?_
       refine wo_in (b := false) rfl ?_
       refine wo_pv (pv_pick_t rfl rfl) rfl ?_
       refine wo_pv (pv_pick_f rfl rfl) rfl ?_
       refine q_seq ?_
       first | refine p_ite rfl rfl (fun h51 => ?_) (fun h51 => ?_) | refine p_cond rfl rfl (fun h51 => ?_) (fun h51 => ?_)
       ·
        refine p_seq rfl ?_
        refine p_region rfl ?_
        refine wo_pv (pv_assign rfl) rfl ?_
        refine q_seq ?_
        refine p_ret rfl ?_
        refine t_seq_ret ?_
        refine to_block_ret ?_
        refine t_seq_ret ?_
        refine to_inv_ret ?_
        refine to_block_ret ?_
        refine t_seq_ret ?_
        have hn : ¬ OkT own l j := fun o => by
         obtain ⟨_, o2, o3, ⟨o4, o5⟩, _⟩ := o
         rw [hg] at o2 o3 o4 o5
         first
         | omega
         | exact h51 (of_decide_eq_true (o5 (by simpa using h45)))
         | (cases own <;> simp_all [isN]; done)
        refine fin_ret () (vs := [_]) (Cs := []) rfl (.tmp rfl .nil) (by rw [hbad hn]; rfl) trivial ent_pick
       ·
        refine p_skip rfl ?_
        refine t_seq ?_
        refine p_seq rfl ?_
        refine d_draw rfl rfl rfl [Ce b6 66 [vU (t.kind.toNat : Int), vS t.name, vS t.target, vS t.value], B] ?_
        refine d_first 0 rfl rfl rfl (by kernel_rfl) (by kernel_rfl) (tl_pv (pv_move rfl)) ?_
        refine d_first 1 rfl rfl rfl (by kernel_rfl) (by kernel_rfl) (tl_pv (pv_gtr rfl rfl)) ?_
        refine d_first 2 rfl rfl rfl (by kernel_rfl) (by kernel_rfl) (tl_pv (pv_move rfl)) ?_
        first | refine d_gite (j := 2) rfl rfl (fun h54 => ?_) (fun h54 => ?_) | refine d_gsplit (j := 2) rfl rfl (fun h54 => ?_) (fun h54 => ?_)
        ·
         refine d_first 3 rfl rfl rfl (by kernel_rfl) (by kernel_rfl) (tl_in (b := true) rfl (tl_pv (pv_move rfl))) ?_
         refine d_first 4 rfl rfl rfl (by kernel_rfl) (by kernel_rfl) (tl_in (b := true) rfl (tl_pv (pv_move rfl))) ?_
         refine d_first 5 rfl rfl rfl (by kernel_rfl) (by kernel_rfl) (tl_in (b := true) rfl (tl_pv (pv_sub rfl rfl (by omega)))) ?_
         refine d_first 6 rfl rfl rfl (by kernel_rfl) (by kernel_rfl) (tl_in (b := true) rfl (tl_elemAddr (sz := 4) (m := j - 1) (kk := 4 * (j - 1)) Tryz.underlying28 ti66 rfl rfl rfl (by omega) (by omega) (by omega) (Nat.mul_comm _ _))) ?_
         refine d_first 7 rfl rfl rfl (by kernel_rfl) (by kernel_rfl) (tl_in (b := true) rfl (tl_efield (kk := 4 * (j - 1) + 1) Tryz.underlying66 rfl ti9 rfl rfl rfl rfl (by omega))) ?_
         refine d_first 8 rfl rfl rfl (by kernel_rfl) (by kernel_rfl) (tl_in (b := true) rfl (tl_eload Tryz.underlying9 rfl rfl (tgget (j := j - 1) (by omega)).1)) ?_
         refine d_first 9 rfl rfl rfl (by kernel_rfl) (by kernel_rfl) (tl_in (b := true) rfl (tl_pv (pv_fieldAddrk Tryz.underlying66 rfl ti9 rfl rfl (k := 1) rfl (by first | exact Nat.zero_add _ | exact Nat.add_zero _ | exact rfl)))) ?_
         refine d_first 10 rfl rfl rfl (by kernel_rfl) (by kernel_rfl) (tl_in (b := true) rfl (tl_load Tryz.underlying9 rfl rfl rfl)) ?_
         refine d_first 11 rfl rfl rfl (by kernel_rfl) (by kernel_rfl) (tl_in (b := true) rfl (tl_pv (pv_sgtr rfl rfl))) ?_
         refine d_first 12 rfl rfl rfl (by kernel_rfl) (by kernel_rfl) (tl_in (b := true) rfl (tl_pv (pv_move rfl))) ?_
         first | refine d_gite (j := 12) rfl rfl (fun h64 => ?_) (fun h64 => ?_) | refine d_gsplit (j := 12) rfl rfl (fun h64 => ?_) (fun h64 => ?_)
         ·
          refine d_first 13 rfl rfl rfl (by kernel_rfl) (by kernel_rfl) (tl_out (b := true) rfl rfl) ?_
          refine d_first 14 rfl rfl rfl (by kernel_rfl) (by kernel_rfl) (tl_out (b := true) rfl rfl) ?_
          refine d_first 15 rfl rfl rfl (by kernel_rfl) (by kernel_rfl) (tl_out (b := true) rfl rfl) ?_
          refine d_first 16 rfl rfl rfl (by kernel_rfl) (by kernel_rfl) (tl_out (b := true) rfl rfl) ?_
          refine d_first 17 rfl rfl rfl (by kernel_rfl) (by kernel_rfl) (tl_out (b := true) rfl rfl) ?_
          refine d_first 18 rfl rfl rfl (by kernel_rfl) (by kernel_rfl) (tl_out (b := true) rfl rfl) ?_
          refine d_first 19 rfl rfl rfl (by kernel_rfl) (by kernel_rfl) (tl_out (b := true) rfl rfl) ?_
          refine d_first 20 rfl rfl rfl (by kernel_rfl) (by kernel_rfl) (tl_out (b := true) rfl rfl) ?_
          refine d_first 21 rfl rfl rfl (by kernel_rfl) (by kernel_rfl) (tl_out (b := true) rfl rfl) ?_
          refine d_first 22 rfl rfl rfl (by kernel_rfl) (by kernel_rfl) (tl_out (b := true) rfl rfl) ?_
          refine d_first 23 rfl rfl rfl (by kernel_rfl) (by kernel_rfl) (tl_outU (u := undef) rfl rfl) ?_
          refine d_first 24 rfl rfl rfl (by kernel_rfl) (by kernel_rfl) (tl_outU (u := undef) rfl rfl) ?_
          refine d_first 25 rfl rfl rfl (by kernel_rfl) (by kernel_rfl) (tl_outU (u := undef) rfl rfl) ?_
          refine d_first 26 rfl rfl rfl (by kernel_rfl) (by kernel_rfl) (tl_outU (u := undef) rfl rfl) ?_
          refine d_first 27 rfl rfl rfl (by kernel_rfl) (by kernel_rfl) (tl_outU (u := undef) rfl rfl) ?_
          refine d_first 28 rfl rfl rfl (by kernel_rfl) (by kernel_rfl) (tl_outU (u := undef) rfl rfl) ?_
          refine d_first 29 rfl rfl rfl (by kernel_rfl) (by kernel_rfl) (tl_outU (u := undef) rfl rfl) ?_
          refine d_first 30 rfl rfl rfl (by kernel_rfl) (by kernel_rfl) (tl_outU (u := undef) rfl rfl) ?_
          refine d_first 31 rfl rfl rfl (by kernel_rfl) (by kernel_rfl) (tl_outU (u := undef) rfl rfl) ?_
          refine d_first 32 rfl rfl rfl (by kernel_rfl) (by kernel_rfl) (tl_out (b := true) rfl rfl) ?_
          refine d_first 33 rfl rfl rfl (by kernel_rfl) (by kernel_rfl) (tl_in (b := true) rfl (tl_pv (pv_pick_t rfl rfl))) ?_
          refine d_first 34 rfl rfl rfl (by kernel_rfl) (by kernel_rfl) (tl_pv (pv_pick_t rfl rfl)) ?_
          refine d_done (by kernel_rfl) ?_
          refine t_seq ?_
          refine p_true rfl rfl ?_
          refine p_seq rfl ?_
          refine p_region rfl ?_
          refine wo_pv (pv_assign rfl) rfl ?_
          refine q_seq ?_
          refine p_ret rfl ?_
          refine to_block_ret ?_
          refine t_seq_ret ?_
          refine to_inv_ret ?_
          refine to_block_ret ?_
          refine t_seq_ret ?_
          have hn : ¬ OkT own l j := fun o => by
           have h0 : 0 < j := by omega
           obtain ⟨r1, r2⟩ := rise_bad o h0
           rw [hg] at r1 r2
           simp_all
          refine fin_ret () (vs := [_]) (Cs := []) rfl (.tmp rfl .nil) (by rw [hbad hn]; rfl) trivial ent_pick
         ·
          refine d_first 13 rfl rfl rfl (by kernel_rfl) (by kernel_rfl) (tl_in (b := false) rfl (tl_pv (pv_move rfl))) ?_
          refine d_first 14 rfl rfl rfl (by kernel_rfl) (by kernel_rfl) (tl_in (b := false) rfl (tl_pv (pv_move rfl))) ?_
          refine d_first 15 rfl rfl rfl (by kernel_rfl) (by kernel_rfl) (tl_in (b := false) rfl (tl_pv (pv_sub rfl rfl (by omega)))) ?_
          refine d_first 16 rfl rfl rfl (by kernel_rfl) (by kernel_rfl) (tl_in (b := false) rfl (tl_elemAddr (sz := 4) (m := j - 1) (kk := 4 * (j - 1)) Tryz.underlying28 ti66 rfl rfl rfl (by omega) (by omega) (by omega) (Nat.mul_comm _ _))) ?_
          refine d_first 17 rfl rfl rfl (by kernel_rfl) (by kernel_rfl) (tl_in (b := false) rfl (tl_efield (kk := 4 * (j - 1) + 1) Tryz.underlying66 rfl ti9 rfl rfl rfl rfl (by omega))) ?_
          refine d_first 18 rfl rfl rfl (by kernel_rfl) (by kernel_rfl) (tl_in (b := false) rfl (tl_eload Tryz.underlying9 rfl rfl (tgget (j := j - 1) (by omega)).1)) ?_
          refine d_first 19 rfl rfl rfl (by kernel_rfl) (by kernel_rfl) (tl_in (b := false) rfl (tl_pv (pv_fieldAddrk Tryz.underlying66 rfl ti9 rfl rfl (k := 1) rfl (by first | exact Nat.zero_add _ | exact Nat.add_zero _ | exact rfl)))) ?_
          refine d_first 20 rfl rfl rfl (by kernel_rfl) (by kernel_rfl) (tl_in (b := false) rfl (tl_load Tryz.underlying9 rfl rfl rfl)) ?_
          refine d_first 21 rfl rfl rfl (by kernel_rfl) (by kernel_rfl) (tl_in (b := false) rfl (tl_pv (pv_seql rfl rfl))) ?_
          refine d_first 22 rfl rfl rfl (by kernel_rfl) (by kernel_rfl) (tl_in (b := false) rfl (tl_pv (pv_move rfl))) ?_
          first | refine d_gite (j := 22) rfl rfl (fun h74 => ?_) (fun h74 => ?_) | refine d_gsplit (j := 22) rfl rfl (fun h74 => ?_) (fun h74 => ?_)
          ·
           refine d_first 23 rfl rfl rfl (by kernel_rfl) (by kernel_rfl) (tl_in (b := true) rfl (tl_pv (pv_move rfl))) ?_
           refine d_first 24 rfl rfl rfl (by kernel_rfl) (by kernel_rfl) (tl_in (b := true) rfl (tl_pv (pv_move rfl))) ?_
           refine d_first 25 rfl rfl rfl (by kernel_rfl) (by kernel_rfl) (tl_in (b := true) rfl (tl_pv (pv_sub rfl rfl (by omega)))) ?_
           refine d_first 26 rfl rfl rfl (by kernel_rfl) (by kernel_rfl) (tl_in (b := true) rfl (tl_elemAddr (sz := 4) (m := j - 1) (kk := 4 * (j - 1)) Tryz.underlying28 ti66 rfl rfl rfl (by omega) (by omega) (by omega) (Nat.mul_comm _ _))) ?_
           refine d_first 27 rfl rfl rfl (by kernel_rfl) (by kernel_rfl) (tl_in (b := true) rfl (tl_efield (kk := 4 * (j - 1) + 2) Tryz.underlying66 rfl ti9 rfl rfl rfl rfl (by omega))) ?_
           refine d_first 28 rfl rfl rfl (by kernel_rfl) (by kernel_rfl) (tl_in (b := true) rfl (tl_eload Tryz.underlying9 rfl rfl (tgget (j := j - 1) (by omega)).2)) ?_
           refine d_first 29 rfl rfl rfl (by kernel_rfl) (by kernel_rfl) (tl_in (b := true) rfl (tl_pv (pv_fieldAddrk Tryz.underlying66 rfl ti9 rfl rfl (k := 2) rfl (by first | exact Nat.zero_add _ | exact Nat.add_zero _ | exact rfl)))) ?_
           refine d_first 30 rfl rfl rfl (by kernel_rfl) (by kernel_rfl) (tl_in (b := true) rfl (tl_load Tryz.underlying9 rfl rfl rfl)) ?_
           refine d_first 31 rfl rfl rfl (by kernel_rfl) (by kernel_rfl) (tl_in (b := true) rfl (tl_pv (pv_sgeq rfl rfl))) ?_
           refine d_first 32 rfl rfl rfl (by kernel_rfl) (by kernel_rfl) (tl_in (b := false) rfl (tl_pv (pv_pick_t rfl rfl))) ?_
           refine d_first 33 rfl rfl rfl (by kernel_rfl) (by kernel_rfl) (tl_in (b := true) rfl (tl_pv (pv_pick_f rfl rfl))) ?_
           refine d_first 34 rfl rfl rfl (by kernel_rfl) (by kernel_rfl) (tl_pv (pv_pick_t rfl rfl)) ?_
           refine d_done (by kernel_rfl) ?_
           refine t_seq ?_
           first | refine p_ite rfl rfl (fun h86 => ?_) (fun h86 => ?_) | refine p_cond rfl rfl (fun h86 => ?_) (fun h86 => ?_)
           ·
            refine p_seq rfl ?_
            refine p_region rfl ?_
            refine wo_pv (pv_assign rfl) rfl ?_
            refine q_seq ?_
            refine p_ret rfl ?_
            refine to_block_ret ?_
            refine t_seq_ret ?_
            refine to_inv_ret ?_
            refine to_block_ret ?_
            refine t_seq_ret ?_
            have hn : ¬ OkT own l j := fun o => by
             have h0 : 0 < j := by omega
             obtain ⟨r1, r2⟩ := rise_bad o h0
             rw [hg] at r1 r2
             simp_all
            refine fin_ret () (vs := [_]) (Cs := []) rfl (.tmp rfl .nil) (by rw [hbad hn]; rfl) trivial ent_pick
           ·
            refine p_skip rfl ?_
            refine to_block ?_
            refine t_seq ?_
            refine p_region rfl ?_
            refine wo_pv (pv_add rfl rfl (by omega)) rfl ?_
            refine wo_pv (pv_move rfl) rfl ?_
            refine wo_nil ?_
            have hokj : OkT own l j := by
             refine ⟨by rw [hg]; exact hkind, by rw [hg]; exact Classical.not_not.1 h28, by rw [hg]; omega, ?_, ?_⟩
             · rw [hg]
               cases own <;> simp_all [isN]
             · intro h0
               rw [hg]
               first
               | (exfalso; omega)
               | (have e1 : blt (l.getD (j - 1) tg0).name t.name = true ∨ (l.getD (j - 1) tg0).name = t.name := by
                    cases hb1 : blt (l.getD (j - 1) tg0).name t.name with
                    | true => exact .inl rfl
                    | false =>
                      rw [hb1, Bool.false_or] at h64
                      exact .inr (by simpa using h64)
                  first
                  | exact ⟨e1, fun e => absurd e h74⟩
                  | exact ⟨e1, fun _ => by simpa using h86⟩)
            refine to_inv ⟨j + 1, by omega, fun i hi => ?_⟩ (by dsimp only; omega) ⟨rfl, rfl, rfl, rfl, rfl, trivial⟩ ent_pick
            by_cases he : i = j
            · rw [he]; exact hokj
            · exact hok i (by omega)
          ·
           refine d_first 23 rfl rfl rfl (by kernel_rfl) (by kernel_rfl) (tl_out (b := false) rfl rfl) ?_
           refine d_first 24 rfl rfl rfl (by kernel_rfl) (by kernel_rfl) (tl_out (b := false) rfl rfl) ?_
           refine d_first 25 rfl rfl rfl (by kernel_rfl) (by kernel_rfl) (tl_out (b := false) rfl rfl) ?_
           refine d_first 26 rfl rfl rfl (by kernel_rfl) (by kernel_rfl) (tl_out (b := false) rfl rfl) ?_
           refine d_first 27 rfl rfl rfl (by kernel_rfl) (by kernel_rfl) (tl_out (b := false) rfl rfl) ?_
           refine d_first 28 rfl rfl rfl (by kernel_rfl) (by kernel_rfl) (tl_out (b := false) rfl rfl) ?_
           refine d_first 29 rfl rfl rfl (by kernel_rfl) (by kernel_rfl) (tl_out (b := false) rfl rfl) ?_
           refine d_first 30 rfl rfl rfl (by kernel_rfl) (by kernel_rfl) (tl_out (b := false) rfl rfl) ?_
           refine d_first 31 rfl rfl rfl (by kernel_rfl) (by kernel_rfl) (tl_out (b := false) rfl rfl) ?_
           refine d_first 32 rfl rfl rfl (by kernel_rfl) (by kernel_rfl) (tl_in (b := false) rfl (tl_pv (pv_pick_f rfl rfl))) ?_
           refine d_first 33 rfl rfl rfl (by kernel_rfl) (by kernel_rfl) (tl_in (b := true) rfl (tl_pv (pv_pick_f rfl rfl))) ?_
           refine d_first 34 rfl rfl rfl (by kernel_rfl) (by kernel_rfl) (tl_pv (pv_pick_t rfl rfl)) ?_
           refine d_done (by kernel_rfl) ?_
           refine t_seq ?_
           refine p_false rfl rfl ?_
           refine p_skip rfl ?_
           refine to_block ?_
           refine t_seq ?_
           refine p_region rfl ?_
           refine wo_pv (pv_add rfl rfl (by omega)) rfl ?_
           refine wo_pv (pv_move rfl) rfl ?_
           refine wo_nil ?_
           have hokj : OkT own l j := by
            refine ⟨by rw [hg]; exact hkind, by rw [hg]; exact Classical.not_not.1 h28, by rw [hg]; omega, ?_, ?_⟩
            · rw [hg]
              cases own <;> simp_all [isN]
            · intro h0
              rw [hg]
              first
              | (exfalso; omega)
              | (have e1 : blt (l.getD (j - 1) tg0).name t.name = true ∨ (l.getD (j - 1) tg0).name = t.name := by
                   cases hb1 : blt (l.getD (j - 1) tg0).name t.name with
                   | true => exact .inl rfl
                   | false =>
                     rw [hb1, Bool.false_or] at h64
                     exact .inr (by simpa using h64)
                 first
                 | exact ⟨e1, fun e => absurd e h74⟩
                 | exact ⟨e1, fun _ => by simpa using h86⟩)
           refine to_inv ⟨j + 1, by omega, fun i hi => ?_⟩ (by dsimp only; omega) ⟨rfl, rfl, rfl, rfl, rfl, trivial⟩ ent_pick
           by_cases he : i = j
           · rw [he]; exact hokj
           · exact hok i (by omega)
        ·
         refine d_first 3 rfl rfl rfl (by kernel_rfl) (by kernel_rfl) (tl_out (b := false) rfl rfl) ?_
         refine d_first 4 rfl rfl rfl (by kernel_rfl) (by kernel_rfl) (tl_out (b := false) rfl rfl) ?_
         refine d_first 5 rfl rfl rfl (by kernel_rfl) (by kernel_rfl) (tl_out (b := false) rfl rfl) ?_
         refine d_first 6 rfl rfl rfl (by kernel_rfl) (by kernel_rfl) (tl_out (b := false) rfl rfl) ?_
         refine d_first 7 rfl rfl rfl (by kernel_rfl) (by kernel_rfl) (tl_out (b := false) rfl rfl) ?_
         refine d_first 8 rfl rfl rfl (by kernel_rfl) (by kernel_rfl) (tl_out (b := false) rfl rfl) ?_
         refine d_first 9 rfl rfl rfl (by kernel_rfl) (by kernel_rfl) (tl_out (b := false) rfl rfl) ?_
         refine d_first 10 rfl rfl rfl (by kernel_rfl) (by kernel_rfl) (tl_out (b := false) rfl rfl) ?_
         refine d_first 11 rfl rfl rfl (by kernel_rfl) (by kernel_rfl) (tl_out (b := false) rfl rfl) ?_
         refine d_first 12 rfl rfl rfl (by kernel_rfl) (by kernel_rfl) (tl_out (b := false) rfl rfl) ?_
         refine d_first 13 rfl rfl rfl (by kernel_rfl) (by kernel_rfl) (tl_outU (u := undef) rfl rfl) ?_
         refine d_first 14 rfl rfl rfl (by kernel_rfl) (by kernel_rfl) (tl_outU (u := undef) rfl rfl) ?_
         refine d_first 15 rfl rfl rfl (by kernel_rfl) (by kernel_rfl) (tl_outU (u := undef) rfl rfl) ?_
         refine d_first 16 rfl rfl rfl (by kernel_rfl) (by kernel_rfl) (tl_outU (u := undef) rfl rfl) ?_
         refine d_first 17 rfl rfl rfl (by kernel_rfl) (by kernel_rfl) (tl_outU (u := undef) rfl rfl) ?_
         refine d_first 18 rfl rfl rfl (by kernel_rfl) (by kernel_rfl) (tl_outU (u := undef) rfl rfl) ?_
         refine d_first 19 rfl rfl rfl (by kernel_rfl) (by kernel_rfl) (tl_outU (u := undef) rfl rfl) ?_
         refine d_first 20 rfl rfl rfl (by kernel_rfl) (by kernel_rfl) (tl_outU (u := undef) rfl rfl) ?_
         refine d_first 21 rfl rfl rfl (by kernel_rfl) (by kernel_rfl) (tl_outU (u := undef) rfl rfl) ?_
         refine d_first 22 rfl rfl rfl (by kernel_rfl) (by kernel_rfl) (tl_outU (u := undef) rfl rfl) ?_
         refine d_first 23 rfl rfl rfl (by kernel_rfl) (by kernel_rfl) (tl_outU (u := undef) rfl rfl) ?_
         refine d_first 24 rfl rfl rfl (by kernel_rfl) (by kernel_rfl) (tl_outU (u := undef) rfl rfl) ?_
         refine d_first 25 rfl rfl rfl (by kernel_rfl) (by kernel_rfl) (tl_outU (u := undef) rfl rfl) ?_
         refine d_first 26 rfl rfl rfl (by kernel_rfl) (by kernel_rfl) (tl_outU (u := undef) rfl rfl) ?_
         refine d_first 27 rfl rfl rfl (by kernel_rfl) (by kernel_rfl) (tl_outU (u := undef) rfl rfl) ?_
         refine d_first 28 rfl rfl rfl (by kernel_rfl) (by kernel_rfl) (tl_outU (u := undef) rfl rfl) ?_
         refine d_first 29 rfl rfl rfl (by kernel_rfl) (by kernel_rfl) (tl_outU (u := undef) rfl rfl) ?_
         refine d_first 30 rfl rfl rfl (by kernel_rfl) (by kernel_rfl) (tl_outU (u := undef) rfl rfl) ?_
         refine d_first 31 rfl rfl rfl (by kernel_rfl) (by kernel_rfl) (tl_outU (u := undef) rfl rfl) ?_
         refine d_first 32 rfl rfl rfl (by kernel_rfl) (by kernel_rfl) (tl_outU (u := undef) rfl rfl) ?_
         refine d_first 33 rfl rfl rfl (by kernel_rfl) (by kernel_rfl) (tl_out (b := false) rfl rfl) ?_
         refine d_first 34 rfl rfl rfl (by kernel_rfl) (by kernel_rfl) (tl_pv (pv_pick_f rfl rfl)) ?_
         refine d_done (by kernel_rfl) ?_
         refine t_seq ?_
         refine p_false rfl rfl ?_
         refine p_skip rfl ?_
         refine to_block ?_
         refine t_seq ?_
         refine p_region rfl ?_
         refine wo_pv (pv_add rfl rfl (by omega)) rfl ?_
         refine wo_pv (pv_move rfl) rfl ?_
         refine wo_nil ?_
         have hokj : OkT own l j := by
          refine ⟨by rw [hg]; exact hkind, by rw [hg]; exact Classical.not_not.1 h28, by rw [hg]; omega, ?_, ?_⟩
          · rw [hg]
            cases own <;> simp_all [isN]
          · intro h0
            rw [hg]
            first
            | (exfalso; omega)
            | (have e1 : blt (l.getD (j - 1) tg0).name t.name = true ∨ (l.getD (j - 1) tg0).name = t.name := by
                 cases hb1 : blt (l.getD (j - 1) tg0).name t.name with
                 | true => exact .inl rfl
                 | false =>
                   rw [hb1, Bool.false_or] at h64
                   exact .inr (by simpa using h64)
               first
               | exact ⟨e1, fun e => absurd e h74⟩
               | exact ⟨e1, fun _ => by simpa using h86⟩)
         refine to_inv ⟨j + 1, by omega, fun i hi => ?_⟩ (by dsimp only; omega) ⟨rfl, rfl, rfl, rfl, rfl, trivial⟩ ent_pick
         by_cases he : i = j
         · rw [he]; exact hokj
         · exact hok i (by omega)
      ·
       refine wo_out (b := false) rfl rfl rfl ?_
       refine wo_out (b := false) rfl rfl rfl ?_
       refine wo_out (b := false) rfl rfl rfl ?_
       refine wo_out (b := false) rfl rfl rfl ?_
       refine wo_in (b := false) rfl ?_
       refine wo_pv (pv_pick_f rfl rfl) rfl ?_
       refine wo_pv (pv_pick_f rfl rfl) rfl ?_
       refine q_seq ?_
       refine p_false rfl rfl ?_
       refine p_skip rfl ?_
       refine t_seq ?_
       refine p_seq rfl ?_
       refine d_draw rfl rfl rfl [Ce b6 66 [vU (t.kind.toNat : Int), vS t.name, vS t.target, vS t.value], B] ?_
       refine d_first 0 rfl rfl rfl (by kernel_rfl) (by kernel_rfl) (tl_pv (pv_move rfl)) ?_
       refine d_first 1 rfl rfl rfl (by kernel_rfl) (by kernel_rfl) (tl_pv (pv_gtr rfl rfl)) ?_
       refine d_first 2 rfl rfl rfl (by kernel_rfl) (by kernel_rfl) (tl_pv (pv_move rfl)) ?_
       first | refine d_gite (j := 2) rfl rfl (fun h54 => ?_) (fun h54 => ?_) | refine d_gsplit (j := 2) rfl rfl (fun h54 => ?_) (fun h54 => ?_)
       ·
        refine d_first 3 rfl rfl rfl (by kernel_rfl) (by kernel_rfl) (tl_in (b := true) rfl (tl_pv (pv_move rfl))) ?_
        refine d_first 4 rfl rfl rfl (by kernel_rfl) (by kernel_rfl) (tl_in (b := true) rfl (tl_pv (pv_move rfl))) ?_
        refine d_first 5 rfl rfl rfl (by kernel_rfl) (by kernel_rfl) (tl_in (b := true) rfl (tl_pv (pv_sub rfl rfl (by omega)))) ?_
        refine d_first 6 rfl rfl rfl (by kernel_rfl) (by kernel_rfl) (tl_in (b := true) rfl (tl_elemAddr (sz := 4) (m := j - 1) (kk := 4 * (j - 1)) Tryz.underlying28 ti66 rfl rfl rfl (by omega) (by omega) (by omega) (Nat.mul_comm _ _))) ?_
        refine d_first 7 rfl rfl rfl (by kernel_rfl) (by kernel_rfl) (tl_in (b := true) rfl (tl_efield (kk := 4 * (j - 1) + 1) Tryz.underlying66 rfl ti9 rfl rfl rfl rfl (by omega))) ?_
        refine d_first 8 rfl rfl rfl (by kernel_rfl) (by kernel_rfl) (tl_in (b := true) rfl (tl_eload Tryz.underlying9 rfl rfl (tgget (j := j - 1) (by omega)).1)) ?_
        refine d_first 9 rfl rfl rfl (by kernel_rfl) (by kernel_rfl) (tl_in (b := true) rfl (tl_pv (pv_fieldAddrk Tryz.underlying66 rfl ti9 rfl rfl (k := 1) rfl (by first | exact Nat.zero_add _ | exact Nat.add_zero _ | exact rfl)))) ?_
        refine d_first 10 rfl rfl rfl (by kernel_rfl) (by kernel_rfl) (tl_in (b := true) rfl (tl_load Tryz.underlying9 rfl rfl rfl)) ?_
        refine d_first 11 rfl rfl rfl (by kernel_rfl) (by kernel_rfl) (tl_in (b := true) rfl (tl_pv (pv_sgtr rfl rfl))) ?_
        refine d_first 12 rfl rfl rfl (by kernel_rfl) (by kernel_rfl) (tl_in (b := true) rfl (tl_pv (pv_move rfl))) ?_
        first | refine d_gite (j := 12) rfl rfl (fun h64 => ?_) (fun h64 => ?_) | refine d_gsplit (j := 12) rfl rfl (fun h64 => ?_) (fun h64 => ?_)
        ·
         refine d_first 13 rfl rfl rfl (by kernel_rfl) (by kernel_rfl) (tl_out (b := true) rfl rfl) ?_
         refine d_first 14 rfl rfl rfl (by kernel_rfl) (by kernel_rfl) (tl_out (b := true) rfl rfl) ?_
         refine d_first 15 rfl rfl rfl (by kernel_rfl) (by kernel_rfl) (tl_out (b := true) rfl rfl) ?_
         refine d_first 16 rfl rfl rfl (by kernel_rfl) (by kernel_rfl) (tl_out (b := true) rfl rfl) ?_
         refine d_first 17 rfl rfl rfl (by kernel_rfl) (by kernel_rfl) (tl_out (b := true) rfl rfl) ?_
         refine d_first 18 rfl rfl rfl (by kernel_rfl) (by kernel_rfl) (tl_out (b := true) rfl rfl) ?_
         refine d_first 19 rfl rfl rfl (by kernel_rfl) (by kernel_rfl) (tl_out (b := true) rfl rfl) ?_
         refine d_first 20 rfl rfl rfl (by kernel_rfl) (by kernel_rfl) (tl_out (b := true) rfl rfl) ?_
         refine d_first 21 rfl rfl rfl (by kernel_rfl) (by kernel_rfl) (tl_out (b := true) rfl rfl) ?_
         refine d_first 22 rfl rfl rfl (by kernel_rfl) (by kernel_rfl) (tl_out (b := true) rfl rfl) ?_
         refine d_first 23 rfl rfl rfl (by kernel_rfl) (by kernel_rfl) (tl_outU (u := undef) rfl rfl) ?_
         refine d_first 24 rfl rfl rfl (by kernel_rfl) (by kernel_rfl) (tl_outU (u := undef) rfl rfl) ?_
         refine d_first 25 rfl rfl rfl (by kernel_rfl) (by kernel_rfl) (tl_outU (u := undef) rfl rfl) ?_
         refine d_first 26 rfl rfl rfl (by kernel_rfl) (by kernel_rfl) (tl_outU (u := undef) rfl rfl) ?_
         refine d_first 27 rfl rfl rfl (by kernel_rfl) (by kernel_rfl) (tl_outU (u := undef) rfl rfl) ?_
         refine d_first 28 rfl rfl rfl (by kernel_rfl) (by kernel_rfl) (tl_outU (u := undef) rfl rfl) ?_
         refine d_first 29 rfl rfl rfl (by kernel_rfl) (by kernel_rfl) (tl_outU (u := undef) rfl rfl) ?_
         refine d_first 30 rfl rfl rfl (by kernel_rfl) (by kernel_rfl) (tl_outU (u := undef) rfl rfl) ?_
         refine d_first 31 rfl rfl rfl (by kernel_rfl) (by kernel_rfl) (tl_outU (u := undef) rfl rfl) ?_
         refine d_first 32 rfl rfl rfl (by kernel_rfl) (by kernel_rfl) (tl_out (b := true) rfl rfl) ?_
         refine d_first 33 rfl rfl rfl (by kernel_rfl) (by kernel_rfl) (tl_in (b := true) rfl (tl_pv (pv_pick_t rfl rfl))) ?_
         refine d_first 34 rfl rfl rfl (by kernel_rfl) (by kernel_rfl) (tl_pv (pv_pick_t rfl rfl)) ?_
         refine d_done (by kernel_rfl) ?_
         refine t_seq ?_
         refine p_true rfl rfl ?_
         refine p_seq rfl ?_
         refine p_region rfl ?_
         refine wo_pv (pv_assign rfl) rfl ?_
         refine q_seq ?_
         refine p_ret rfl ?_
         refine to_block_ret ?_
         refine t_seq_ret ?_
         refine to_inv_ret ?_
         refine to_block_ret ?_
         refine t_seq_ret ?_
         have hn : ¬ OkT own l j := fun o => by
          have h0 : 0 < j := by omega
          obtain ⟨r1, r2⟩ := rise_bad o h0
          rw [hg] at r1 r2
          simp_all
         refine fin_ret () (vs := [_]) (Cs := []) rfl (.tmp rfl .nil) (by rw [hbad hn]; rfl) trivial ent_pick
        ·
         refine d_first 13 rfl rfl rfl (by kernel_rfl) (by kernel_rfl) (tl_in (b := false) rfl (tl_pv (pv_move rfl))) ?_
         refine d_first 14 rfl rfl rfl (by kernel_rfl) (by kernel_rfl) (tl_in (b := false) rfl (tl_pv (pv_move rfl))) ?_
         refine d_first 15 rfl rfl rfl (by kernel_rfl) (by kernel_rfl) (tl_in (b := false) rfl (tl_pv (pv_sub rfl rfl (by omega)))) ?_
         refine d_first 16 rfl rfl rfl (by kernel_rfl) (by kernel_rfl) (tl_in (b := false) rfl (tl_elemAddr (sz := 4) (m := j - 1) (kk := 4 * (j - 1)) Tryz.underlying28 ti66 rfl rfl rfl (by omega) (by omega) (by omega) (Nat.mul_comm _ _))) ?_
         refine d_first 17 rfl rfl rfl (by kernel_rfl) (by kernel_rfl) (tl_in (b := false) rfl (tl_efield (kk := 4 * (j - 1) + 1) Tryz.underlying66 rfl ti9 rfl rfl rfl rfl (by omega))) ?_
         refine d_first 18 rfl rfl rfl (by kernel_rfl) (by kernel_rfl) (tl_in (b := false) rfl (tl_eload Tryz.underlying9 rfl rfl (tgget (j := j - 1) (by omega)).1)) ?_
         refine d_first 19 rfl rfl rfl (by kernel_rfl) (by kernel_rfl) (tl_in (b := false) rfl (tl_pv (pv_fieldAddrk Tryz.underlying66 rfl ti9 rfl rfl (k := 1) rfl (by first | exact Nat.zero_add _ | exact Nat.add_zero _ | exact rfl)))) ?_
         refine d_first 20 rfl rfl rfl (by kernel_rfl) (by kernel_rfl) (tl_in (b := false) rfl (tl_load Tryz.underlying9 rfl rfl rfl)) ?_
         refine d_first 21 rfl rfl rfl (by kernel_rfl) (by kernel_rfl) (tl_in (b := false) rfl (tl_pv (pv_seql rfl rfl))) ?_
         refine d_first 22 rfl rfl rfl (by kernel_rfl) (by kernel_rfl) (tl_in (b := false) rfl (tl_pv (pv_move rfl))) ?_
         first | refine d_gite (j := 22) rfl rfl (fun h74 => ?_) (fun h74 => ?_) | refine d_gsplit (j := 22) rfl rfl (fun h74 => ?_) (fun h74 => ?_)
         ·
          refine d_first 23 rfl rfl rfl (by kernel_rfl) (by kernel_rfl) (tl_in (b := true) rfl (tl_pv (pv_move rfl))) ?_
          refine d_first 24 rfl rfl rfl (by kernel_rfl) (by kernel_rfl) (tl_in (b := true) rfl (tl_pv (pv_move rfl))) ?_
          refine d_first 25 rfl rfl rfl (by kernel_rfl) (by kernel_rfl) (tl_in (b := true) rfl (tl_pv (pv_sub rfl rfl (by omega)))) ?_
          refine d_first 26 rfl rfl rfl (by kernel_rfl) (by kernel_rfl) (tl_in (b := true) rfl (tl_elemAddr (sz := 4) (m := j - 1) (kk := 4 * (j - 1)) Tryz.underlying28 ti66 rfl rfl rfl (by omega) (by omega) (by omega) (Nat.mul_comm _ _))) ?_
          refine d_first 27 rfl rfl rfl (by kernel_rfl) (by kernel_rfl) (tl_in (b := true) rfl (tl_efield (kk := 4 * (j - 1) + 2) Tryz.underlying66 rfl ti9 rfl rfl rfl rfl (by omega))) ?_
          refine d_first 28 rfl rfl rfl (by kernel_rfl) (by kernel_rfl) (tl_in (b := true) rfl (tl_eload Tryz.underlying9 rfl rfl (tgget (j := j - 1) (by omega)).2)) ?_
          refine d_first 29 rfl rfl rfl (by kernel_rfl) (by kernel_rfl) (tl_in (b := true) rfl (tl_pv (pv_fieldAddrk Tryz.underlying66 rfl ti9 rfl rfl (k := 2) rfl (by first | exact Nat.zero_add _ | exact Nat.add_zero _ | exact rfl)))) ?_
          refine d_first 30 rfl rfl rfl (by kernel_rfl) (by kernel_rfl) (tl_in (b := true) rfl (tl_load Tryz.underlying9 rfl rfl rfl)) ?_
          refine d_first 31 rfl rfl rfl (by kernel_rfl) (by kernel_rfl) (tl_in (b := true) rfl (tl_pv (pv_sgeq rfl rfl))) ?_
          refine d_first 32 rfl rfl rfl (by kernel_rfl) (by kernel_rfl) (tl_in (b := false) rfl (tl_pv (pv_pick_t rfl rfl))) ?_
          refine d_first 33 rfl rfl rfl (by kernel_rfl) (by kernel_rfl) (tl_in (b := true) rfl (tl_pv (pv_pick_f rfl rfl))) ?_
          refine d_first 34 rfl rfl rfl (by kernel_rfl) (by kernel_rfl) (tl_pv (pv_pick_t rfl rfl)) ?_
          refine d_done (by kernel_rfl) ?_
          refine t_seq ?_
          first | refine p_ite rfl rfl (fun h86 => ?_) (fun h86 => ?_) | refine p_cond rfl rfl (fun h86 => ?_) (fun h86 => ?_)
          ·
           refine p_seq rfl ?_
           refine p_region rfl ?_
           refine wo_pv (pv_assign rfl) rfl ?_
           refine q_seq ?_
           refine p_ret rfl ?_
           refine to_block_ret ?_
           refine t_seq_ret ?_
           refine to_inv_ret ?_
           refine to_block_ret ?_
           refine t_seq_ret ?_
           have hn : ¬ OkT own l j := fun o => by
            have h0 : 0 < j := by omega
            obtain ⟨r1, r2⟩ := rise_bad o h0
            rw [hg] at r1 r2
            simp_all
           refine fin_ret () (vs := [_]) (Cs := []) rfl (.tmp rfl .nil) (by rw [hbad hn]; rfl) trivial ent_pick
          ·
           refine p_skip rfl ?_
           refine to_block ?_
           refine t_seq ?_
           refine p_region rfl ?_
           refine wo_pv (pv_add rfl rfl (by omega)) rfl ?_
           refine wo_pv (pv_move rfl) rfl ?_
           refine wo_nil ?_
           have hokj : OkT own l j := by
            refine ⟨by rw [hg]; exact hkind, by rw [hg]; exact Classical.not_not.1 h28, by rw [hg]; omega, ?_, ?_⟩
            · rw [hg]
              cases own <;> simp_all [isN]
            · intro h0
              rw [hg]
              first
              | (exfalso; omega)
              | (have e1 : blt (l.getD (j - 1) tg0).name t.name = true ∨ (l.getD (j - 1) tg0).name = t.name := by
                   cases hb1 : blt (l.getD (j - 1) tg0).name t.name with
                   | true => exact .inl rfl
                   | false =>
                     rw [hb1, Bool.false_or] at h64
                     exact .inr (by simpa using h64)
                 first
                 | exact ⟨e1, fun e => absurd e h74⟩
                 | exact ⟨e1, fun _ => by simpa using h86⟩)
           refine to_inv ⟨j + 1, by omega, fun i hi => ?_⟩ (by dsimp only; omega) ⟨rfl, rfl, rfl, rfl, rfl, trivial⟩ ent_pick
           by_cases he : i = j
           · rw [he]; exact hokj
           · exact hok i (by omega)
         ·
          refine d_first 23 rfl rfl rfl (by kernel_rfl) (by kernel_rfl) (tl_out (b := false) rfl rfl) ?_
          refine d_first 24 rfl rfl rfl (by kernel_rfl) (by kernel_rfl) (tl_out (b := false) rfl rfl) ?_
          refine d_first 25 rfl rfl rfl (by kernel_rfl) (by kernel_rfl) (tl_out (b := false) rfl rfl) ?_
          refine d_first 26 rfl rfl rfl (by kernel_rfl) (by kernel_rfl) (tl_out (b := false) rfl rfl) ?_
          refine d_first 27 rfl rfl rfl (by kernel_rfl) (by kernel_rfl) (tl_out (b := false) rfl rfl) ?_
          refine d_first 28 rfl rfl rfl (by kernel_rfl) (by kernel_rfl) (tl_out (b := false) rfl rfl) ?_
          refine d_first 29 rfl rfl rfl (by kernel_rfl) (by kernel_rfl) (tl_out (b := false) rfl rfl) ?_
          refine d_first 30 rfl rfl rfl (by kernel_rfl) (by kernel_rfl) (tl_out (b := false) rfl rfl) ?_
          refine d_first 31 rfl rfl rfl (by kernel_rfl) (by kernel_rfl) (tl_out (b := false) rfl rfl) ?_
          refine d_first 32 rfl rfl rfl (by kernel_rfl) (by kernel_rfl) (tl_in (b := false) rfl (tl_pv (pv_pick_f rfl rfl))) ?_
          refine d_first 33 rfl rfl rfl (by kernel_rfl) (by kernel_rfl) (tl_in (b := true) rfl (tl_pv (pv_pick_f rfl rfl))) ?_
          refine d_first 34 rfl rfl rfl (by kernel_rfl) (by kernel_rfl) (tl_pv (pv_pick_t rfl rfl)) ?_
          refine d_done (by kernel_rfl) ?_
          refine t_seq ?_
          refine p_false rfl rfl ?_
          refine p_skip rfl ?_
          refine to_block ?_
          refine t_seq ?_
          refine p_region rfl ?_
          refine wo_pv (pv_add rfl rfl (by omega)) rfl ?_
          refine wo_pv (pv_move rfl) rfl ?_
          refine wo_nil ?_
          have hokj : OkT own l j := by
           refine ⟨by rw [hg]; exact hkind, by rw [hg]; exact Classical.not_not.1 h28, by rw [hg]; omega, ?_, ?_⟩
           · rw [hg]
             cases own <;> simp_all [isN]
           · intro h0
             rw [hg]
             first
             | (exfalso; omega)
             | (have e1 : blt (l.getD (j - 1) tg0).name t.name = true ∨ (l.getD (j - 1) tg0).name = t.name := by
                  cases hb1 : blt (l.getD (j - 1) tg0).name t.name with
                  | true => exact .inl rfl
                  | false =>
                    rw [hb1, Bool.false_or] at h64
                    exact .inr (by simpa using h64)
                first
                | exact ⟨e1, fun e => absurd e h74⟩
                | exact ⟨e1, fun _ => by simpa using h86⟩)
          refine to_inv ⟨j + 1, by omega, fun i hi => ?_⟩ (by dsimp only; omega) ⟨rfl, rfl, rfl, rfl, rfl, trivial⟩ ent_pick
          by_cases he : i = j
          · rw [he]; exact hokj
          · exact hok i (by omega)
       ·
        refine d_first 3 rfl rfl rfl (by kernel_rfl) (by kernel_rfl) (tl_out (b := false) rfl rfl) ?_
        refine d_first 4 rfl rfl rfl (by kernel_rfl) (by kernel_rfl) (tl_out (b := false) rfl rfl) ?_
        refine d_first 5 rfl rfl rfl (by kernel_rfl) (by kernel_rfl) (tl_out (b := false) rfl rfl) ?_
        refine d_first 6 rfl rfl rfl (by kernel_rfl) (by kernel_rfl) (tl_out (b := false) rfl rfl) ?_
        refine d_first 7 rfl rfl rfl (by kernel_rfl) (by kernel_rfl) (tl_out (b := false) rfl rfl) ?_
        refine d_first 8 rfl rfl rfl (by kernel_rfl) (by kernel_rfl) (tl_out (b := false) rfl rfl) ?_
        refine d_first 9 rfl rfl rfl (by kernel_rfl) (by kernel_rfl) (tl_out (b := false) rfl rfl) ?_
        refine d_first 10 rfl rfl rfl (by kernel_rfl) (by kernel_rfl) (tl_out (b := false) rfl rfl) ?_
        refine d_first 11 rfl rfl rfl (by kernel_rfl) (by kernel_rfl) (tl_out (b := false) rfl rfl) ?_
        refine d_first 12 rfl rfl rfl (by kernel_rfl) (by kernel_rfl) (tl_out (b := false) rfl rfl) ?_
        refine d_first 13 rfl rfl rfl (by kernel_rfl) (by kernel_rfl) (tl_outU (u := undef) rfl rfl) ?_
        refine d_first 14 rfl rfl rfl (by kernel_rfl) (by kernel_rfl) (tl_outU (u := undef) rfl rfl) ?_
        refine d_first 15 rfl rfl rfl (by kernel_rfl) (by kernel_rfl) (tl_outU (u := undef) rfl rfl) ?_
        refine d_first 16 rfl rfl rfl (by kernel_rfl) (by kernel_rfl) (tl_outU (u := undef) rfl rfl) ?_
        refine d_first 17 rfl rfl rfl (by kernel_rfl) (by kernel_rfl) (tl_outU (u := undef) rfl rfl) ?_
        refine d_first 18 rfl rfl rfl (by kernel_rfl) (by kernel_rfl) (tl_outU (u := undef) rfl rfl) ?_
        refine d_first 19 rfl rfl rfl (by kernel_rfl) (by kernel_rfl) (tl_outU (u := undef) rfl rfl) ?_
        refine d_first 20 rfl rfl rfl (by kernel_rfl) (by kernel_rfl) (tl_outU (u := undef) rfl rfl) ?_
        refine d_first 21 rfl rfl rfl (by kernel_rfl) (by kernel_rfl) (tl_outU (u := undef) rfl rfl) ?_
        refine d_first 22 rfl rfl rfl (by kernel_rfl) (by kernel_rfl) (tl_outU (u := undef) rfl rfl) ?_
        refine d_first 23 rfl rfl rfl (by kernel_rfl) (by kernel_rfl) (tl_outU (u := undef) rfl rfl) ?_
        refine d_first 24 rfl rfl rfl (by kernel_rfl) (by kernel_rfl) (tl_outU (u := undef) rfl rfl) ?_
        refine d_first 25 rfl rfl rfl (by kernel_rfl) (by kernel_rfl) (tl_outU (u := undef) rfl rfl) ?_
        refine d_first 26 rfl rfl rfl (by kernel_rfl) (by kernel_rfl) (tl_outU (u := undef) rfl rfl) ?_
        refine d_first 27 rfl rfl rfl (by kernel_rfl) (by kernel_rfl) (tl_outU (u := undef) rfl rfl) ?_
        refine d_first 28 rfl rfl rfl (by kernel_rfl) (by kernel_rfl) (tl_outU (u := undef) rfl rfl) ?_
        refine d_first 29 rfl rfl rfl (by kernel_rfl) (by kernel_rfl) (tl_outU (u := undef) rfl rfl) ?_
        refine d_first 30 rfl rfl rfl (by kernel_rfl) (by kernel_rfl) (tl_outU (u := undef) rfl rfl) ?_
        refine d_first 31 rfl rfl rfl (by kernel_rfl) (by kernel_rfl) (tl_outU (u := undef) rfl rfl) ?_
        refine d_first 32 rfl rfl rfl (by kernel_rfl) (by kernel_rfl) (tl_outU (u := undef) rfl rfl) ?_
        refine d_first 33 rfl rfl rfl (by kernel_rfl) (by kernel_rfl) (tl_out (b := false) rfl rfl) ?_
        refine d_first 34 rfl rfl rfl (by kernel_rfl) (by kernel_rfl) (tl_pv (pv_pick_f rfl rfl)) ?_
        refine d_done (by kernel_rfl) ?_
        refine t_seq ?_
        refine p_false rfl rfl ?_
        refine p_skip rfl ?_
        refine to_block ?_
        refine t_seq ?_
        refine p_region rfl ?_
        refine wo_pv (pv_add rfl rfl (by omega)) rfl ?_
        refine wo_pv (pv_move rfl) rfl ?_
        refine wo_nil ?_
        have hokj : OkT own l j := by
         refine ⟨by rw [hg]; exact hkind, by rw [hg]; exact Classical.not_not.1 h28, by rw [hg]; omega, ?_, ?_⟩
         · rw [hg]
           cases own <;> simp_all [isN]
         · intro h0
           rw [hg]
           first
           | (exfalso; omega)
           | (have e1 : blt (l.getD (j - 1) tg0).name t.name = true ∨ (l.getD (j - 1) tg0).name = t.name := by
                cases hb1 : blt (l.getD (j - 1) tg0).name t.name with
                | true => exact .inl rfl
                | false =>
                  rw [hb1, Bool.false_or] at h64
                  exact .inr (by simpa using h64)
              first
              | exact ⟨e1, fun e => absurd e h74⟩
              | exact ⟨e1, fun _ => by simpa using h86⟩)
        refine to_inv ⟨j + 1, by omega, fun i hi => ?_⟩ (by dsimp only; omega) ⟨rfl, rfl, rfl, rfl, rfl, trivial⟩ ent_pick
        by_cases he : i = j
        · rw [he]; exact hokj
        · exact hok i (by omega)
  ·
   refine p_seq rfl ?_
   refine p_region rfl ?_
   refine wo_pv (pv_fieldAddrk Tryz.underlying66 rfl ti5 rfl rfl (k := 0) rfl (by first | exact Nat.zero_add _ | exact Nat.add_zero _ | exact rfl)) rfl ?_
   refine r_load Tryz.underlying5 rfl rfl rfl rfl ?_
   refine q_seq ?_
   refine p_block 2 rfl ?_
   refine p_seq rfl ?_
   refine p_seq rfl ?_
   refine p_region rfl ?_
   refine wo_pv (pv_eql rfl rfl) rfl ?_
   refine wo_pv (pv_assign rfl) rfl ?_
   refine q_seq ?_
   first | refine p_ite rfl rfl (fun h16 => ?_) (fun h16 => ?_) | refine p_cond rfl rfl (fun h16 => ?_) (fun h16 => ?_)
   ·
    refine p_skip rfl ?_
    refine t_seq ?_
    first | refine p_ite rfl rfl (fun h16 => ?_) (fun h16 => ?_) | refine p_cond rfl rfl (fun h16 => ?_) (fun h16 => ?_)
    ·
     refine p_skip rfl ?_
     refine to_block ?_
     first
     | exact to_inv ⟨(), .inl (by omega)⟩ trivial ⟨rfl, rfl, rfl, rfl, rfl, rfl, rfl, trivial⟩ ent_pick
     | exact to_inv ⟨(), .inr (.inl (by omega))⟩ trivial ⟨rfl, rfl, rfl, rfl, rfl, rfl, rfl, trivial⟩ ent_pick
     | exact to_inv ⟨(), .inr (.inr ⟨by omega, by simpa using h23⟩)⟩ trivial ⟨rfl, rfl, rfl, rfl, rfl, rfl, rfl, trivial⟩ ent_pick
    ·
     refine p_seq rfl ?_
     refine p_region rfl ?_
     refine wo_pv (pv_eql rfl rfl) rfl ?_
     refine wo_pv (pv_assign rfl) rfl ?_
     refine q_seq ?_
     first | refine p_ite rfl rfl (fun h19 => ?_) (fun h19 => ?_) | refine p_cond rfl rfl (fun h19 => ?_) (fun h19 => ?_)
     ·
      refine p_seq rfl ?_
      refine p_region rfl ?_
      refine wo_pv (pv_fieldAddrk Tryz.underlying66 rfl ti9 rfl rfl (k := 3) rfl (by first | exact Nat.zero_add _ | exact Nat.add_zero _ | exact rfl)) rfl ?_
      refine r_load Tryz.underlying9 rfl rfl rfl rfl ?_
      refine wo_pv (pv_sneq rfl rfl) rfl ?_
      refine q_seq ?_
      first | refine p_ite rfl rfl (fun h23 => ?_) (fun h23 => ?_) | refine p_cond rfl rfl (fun h23 => ?_) (fun h23 => ?_)
      ·
       refine p_seq rfl ?_
       refine p_region rfl ?_
       refine wo_pv (pv_assign rfl) rfl ?_
       refine q_seq ?_
       refine p_ret rfl ?_
       refine to_block_ret ?_
       refine to_inv_ret ?_
       refine to_block_ret ?_
       refine t_seq_ret ?_
       refine to_inv_ret ?_
       refine to_block_ret ?_
       refine t_seq_ret ?_
       have hn : ¬ OkT own l j := fun o => by
        have := o.kind
        rw [hg] at this
        rcases this with h | h | h
        · omega
        · omega
        · exact absurd h.2 (by simpa using h23)
       refine fin_ret () (vs := [_]) (Cs := []) rfl (.tmp rfl .nil) (by rw [hbad hn]; rfl) trivial ent_pick
      ·
       refine p_skip rfl ?_
       refine to_block ?_
       first
       | exact to_inv ⟨(), .inl (by omega)⟩ trivial ⟨rfl, rfl, rfl, rfl, rfl, rfl, rfl, trivial⟩ ent_pick
       | exact to_inv ⟨(), .inr (.inl (by omega))⟩ trivial ⟨rfl, rfl, rfl, rfl, rfl, rfl, rfl, trivial⟩ ent_pick
       | exact to_inv ⟨(), .inr (.inr ⟨by omega, by simpa using h23⟩)⟩ trivial ⟨rfl, rfl, rfl, rfl, rfl, rfl, rfl, trivial⟩ ent_pick
     ·
      refine p_seq rfl ?_
      refine p_region rfl ?_
      refine wo_pv (pv_assign rfl) rfl ?_
      refine q_seq ?_
      refine p_ret rfl ?_
      refine to_block_ret ?_
      refine to_inv_ret ?_
      refine to_block_ret ?_
      refine t_seq_ret ?_
      refine to_inv_ret ?_
      refine to_block_ret ?_
      refine t_seq_ret ?_
      have hn : ¬ OkT own l j := fun o => by
       have := o.kind
       rw [hg] at this
       omega
      refine fin_ret () (vs := [_]) (Cs := []) rfl (.tmp rfl .nil) (by rw [hbad hn]; rfl) trivial ent_pick
   ·
    refine p_region rfl ?_
    refine wo_pv (pv_eql rfl rfl) rfl ?_
    refine wo_pv (pv_assign rfl) rfl ?_
    refine q_seq ?_
    first | refine p_ite rfl rfl (fun h16 => ?_) (fun h16 => ?_) | refine p_cond rfl rfl (fun h16 => ?_) (fun h16 => ?_)
    ·
     refine p_skip rfl ?_
     refine to_block ?_
     first
     | exact to_inv ⟨(), .inl (by omega)⟩ trivial ⟨rfl, rfl, rfl, rfl, rfl, rfl, rfl, trivial⟩ ent_pick
     | exact to_inv ⟨(), .inr (.inl (by omega))⟩ trivial ⟨rfl, rfl, rfl, rfl, rfl, rfl, rfl, trivial⟩ ent_pick
     | exact to_inv ⟨(), .inr (.inr ⟨by omega, by simpa using h23⟩)⟩ trivial ⟨rfl, rfl, rfl, rfl, rfl, rfl, rfl, trivial⟩ ent_pick
    ·
     refine p_seq rfl ?_
     refine p_region rfl ?_
     refine wo_pv (pv_eql rfl rfl) rfl ?_
     refine wo_pv (pv_assign rfl) rfl ?_
     refine q_seq ?_
     first | refine p_ite rfl rfl (fun h19 => ?_) (fun h19 => ?_) | refine p_cond rfl rfl (fun h19 => ?_) (fun h19 => ?_)
     ·
      refine p_seq rfl ?_
      refine p_region rfl ?_
      refine wo_pv (pv_fieldAddrk Tryz.underlying66 rfl ti9 rfl rfl (k := 3) rfl (by first | exact Nat.zero_add _ | exact Nat.add_zero _ | exact rfl)) rfl ?_
      refine r_load Tryz.underlying9 rfl rfl rfl rfl ?_
      refine wo_pv (pv_sneq rfl rfl) rfl ?_
      refine q_seq ?_
      first | refine p_ite rfl rfl (fun h23 => ?_) (fun h23 => ?_) | refine p_cond rfl rfl (fun h23 => ?_) (fun h23 => ?_)
      ·
       refine p_seq rfl ?_
       refine p_region rfl ?_
       refine wo_pv (pv_assign rfl) rfl ?_
       refine q_seq ?_
       refine p_ret rfl ?_
       refine to_block_ret ?_
       refine to_inv_ret ?_
       refine to_block_ret ?_
       refine t_seq_ret ?_
       refine to_inv_ret ?_
       refine to_block_ret ?_
       refine t_seq_ret ?_
       have hn : ¬ OkT own l j := fun o => by
        have := o.kind
        rw [hg] at this
        rcases this with h | h | h
        · omega
        · omega
        · exact absurd h.2 (by simpa using h23)
       refine fin_ret () (vs := [_]) (Cs := []) rfl (.tmp rfl .nil) (by rw [hbad hn]; rfl) trivial ent_pick
      ·
       refine p_skip rfl ?_
       refine to_block ?_
       first
       | exact to_inv ⟨(), .inl (by omega)⟩ trivial ⟨rfl, rfl, rfl, rfl, rfl, rfl, rfl, trivial⟩ ent_pick
       | exact to_inv ⟨(), .inr (.inl (by omega))⟩ trivial ⟨rfl, rfl, rfl, rfl, rfl, rfl, rfl, trivial⟩ ent_pick
       | exact to_inv ⟨(), .inr (.inr ⟨by omega, by simpa using h23⟩)⟩ trivial ⟨rfl, rfl, rfl, rfl, rfl, rfl, rfl, trivial⟩ ent_pick
     ·
      refine p_seq rfl ?_
      refine p_region rfl ?_
      refine wo_pv (pv_assign rfl) rfl ?_
      refine q_seq ?_
      refine p_ret rfl ?_
      refine to_block_ret ?_
      refine to_inv_ret ?_
      refine to_block_ret ?_
      refine t_seq_ret ?_
      refine to_inv_ret ?_
      refine to_block_ret ?_
      refine t_seq_ret ?_
      have hn : ¬ OkT own l j := fun o => by
       have := o.kind
       rw [hg] at this
       omega
      refine fin_ret () (vs := [_]) (Cs := []) rfl (.tmp rfl .nil) (by rw [hbad hn]; rfl) trivial ent_pick
 ·
  refine p_exit 0 rfl ?_
  refine t_seq_exit ?_
  refine to_inv_exit ?_
  refine to_block_here ?_
  refine t_seq ?_
  refine p_seq rfl ?_
  refine p_region rfl ?_
  refine wo_pv (pv_move rfl) rfl ?_
  refine wo_pv (pv_call_len_sl Tryz.underlying28 rfl) rfl ?_
  refine wo_pv (pv_leq rfl rfl) rfl ?_
  refine wo_pv (pv_assign rfl) rfl ?_
  refine q_seq ?_
  refine p_ret rfl ?_
  refine fin_ret () (vs := [_]) (Cs := []) rfl (.tmp rfl .nil) ?_ trivial ent_pick
  show vB _ = vB _
  congr 1
  refine decide_eq_decide.2 ⟨fun h => ⟨fun i hi => hok i (by omega), by omega⟩, fun h => ?_⟩
  have := h.len
  omega
end Go.Proofs.YtibccdcemcgkeaaGreat
end
