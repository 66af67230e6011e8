/- Texts of this proof, put together: SEsc. -/
import Derived.Test.YtibccdcemcgkeaaGreatQ06
import Derived.Test.YtibccdcemcgkeaaGreatQ08
set_option linter.unusedVariables false
set_option linter.unusedSimpArgs false
section
set_option maxRecDepth 100000
namespace Go.Proofs.YtibccdcemcgkeaaGreat
theorem WriteByte_sp (p : Nat) (l : List UInt8) (c : UInt8) (h : l.length + 1 ≤ 140737488355328) : Sp1 Tryz.prog 116 [.pointer (some ⟨p, 0, none⟩), vU c.toNat] [IsB p l] .nilIface [IsB p (l ++ [c])] := by
 refine Sp.body (n := 17) Tryz.call116 Tryz.func116 rfl rfl rfl ?_
 refine wc_exi fun q1 => wc_exi fun q2 => wc_al (wc_pu fun hq => ?_)
 refine p_seq rfl ?_
 refine p_region rfl ?_
 refine wo_pv (pv_assign rfl) rfl ?_
 refine q_seq ?_
 refine p_seq rfl ?_
 refine p_region rfl ?_
 refine wo_pv (pv_move rfl) rfl ?_
 refine r_call1 (copyCheck_sp p q1 q2 hq.1) rfl rfl rfl ?_
 refine q_seq ?_
 refine p_seq rfl ?_
 refine p_region rfl ?_
 refine wo_pv (pv_move rfl) rfl ?_
 refine wo_pv (pv_move rfl) rfl ?_
 refine wo_pv (by first | exact pv_nilCheck_p rfl | exact pv_nilCheck_f rfl) rfl ?_
 refine wo_pv (pv_fieldAddrk Tryz.underlying174 rfl ti89 rfl rfl (k := 1) rfl (by first | exact Nat.zero_add _ | exact Nat.add_zero _ | exact rfl)) rfl ?_
 refine r_load Tryz.underlying89 rfl rfl rfl rfl ?_
 refine wo_pv (pv_move rfl) rfl ?_
 refine r_buildSliceL [_] (cs := [_]) Tryz.underlying89 ti5 rfl rfl rfl rfl rfl rfl rfl rfl (fun b13 => ?_)
 refine r_append1 (sz := 1) (bytes := 1) Tryz.underlying89 ti5 rfl rfl rfl rfl rfl rfl rfl (by rfl) (by rfl) (by omega) (by simp only [maxLen]; omega) rfl (fun a14 c14 => ?_)
 refine wo_pv (by first | exact pv_nilCheck_p rfl | exact pv_nilCheck_f rfl) rfl ?_
 refine wo_pv (pv_fieldAddrk Tryz.underlying174 rfl ti89 rfl rfl (k := 1) rfl (by first | exact Nat.zero_add _ | exact Nat.add_zero _ | exact rfl)) rfl ?_
 refine r_store ti89 rfl rfl rfl rfl (by simp) ?_
 refine q_seq ?_
 refine p_seq rfl ?_
 refine p_region rfl ?_
 refine wo_pv (pv_assign rfl) rfl ?_
 refine q_seq ?_
 refine p_ret rfl ?_
 refine fin_ret () (vs := [_]) (Cs := []) rfl (.tmp rfl .nil) rfl trivial ?_
 refine ent_ex (.pointer (some ⟨p, 0, none⟩)) ?_
 refine ent_ex (.slice a14 (l.length + 1) c14) ?_
 refine ent_al ?_
 have e1 : (l ++ [c]).length = l.length + 1 := List.length_append
 have e2 : vUs (l ++ [c]) = vUs l ++ [vU c.toNat] := by simp [vUs]
 rw [e1, e2]
 refine ent_pu ⟨.inr rfl, fun e => by omega⟩ ent_pick
theorem escape_Put_sp (s : Bs) (hs : s.length ≤ 1099511627776) : SpF Tryz.prog 77 [vS s] (vS (escB s)) := by
 refine Sp.body (n := 28) Tryz.call77 Tryz.func77 rfl rfl rfl ?_
 refine p_seq rfl ?_
 refine p_region rfl ?_
 refine wo_pv (pv_assign rfl) rfl ?_
 refine q_seq ?_
 refine p_seq rfl ?_
 refine p_region rfl ?_
 refine wo_alloc (zs := [.pointer none, .slice none 0 0]) ti174 rfl rfl rfl (fun b3 => ?_)
 refine wo_ent' (fold_newB (p := b3) (by rfl) (by rfl) (by rfl)) ?_
 refine q_seq ?_
 refine p_seq rfl ?_
 refine p_seq rfl ?_
 refine p_region rfl ?_
 refine wo_pv (pv_move rfl) rfl ?_
 refine wo_pv (pv_call_len_s Tryz.underlying9 rfl) rfl ?_
 refine wo_pv (pv_move rfl) rfl ?_
 refine q_seq ?_
 refine p_block 0 rfl ?_
 refine p_loop (fun (i : { j : Nat // j ≤ s.length }) => [(0, vS s), (3, .pointer (some ⟨b3, 0, none⟩)), (6, vI s.length), (7, vI i.1)]) (fun (i : { j : Nat // j ≤ s.length }) => [IsB b3 (escB (s.take i.1))]) (fun (i : { j : Nat // j ≤ s.length }) => s.length - i.1) rfl (⟨0, Nat.zero_le _⟩) ?_ ?_ (fun i => ?_)
 · exact ⟨rfl, rfl, rfl, rfl, trivial⟩
 ·
  exact Ent.refl _
 obtain ⟨j, hj⟩ := i
 dsimp only
 try dsimp only
 refine p_seq rfl ?_
 refine p_region rfl ?_
 refine wo_pv (pv_lss rfl rfl) rfl ?_
 refine q_seq ?_
 refine p_seq rfl ?_
 first | refine p_ite rfl rfl (fun h8 => ?_) (fun h8 => ?_) | refine p_cond rfl rfl (fun h8 => ?_) (fun h8 => ?_)
 ·
  refine p_skip rfl ?_
  refine t_seq ?_
  refine p_seq rfl ?_
  refine p_block 1 rfl ?_
  refine p_seq rfl ?_
  have hjl : j < s.length := by omega
  have htl := (escB_len (s.take j)).2
  rw [List.length_take] at htl
  have hsu : escB (s.take (j + 1)) = escB (s.take j) ++ escC (s.getD j 0) := by
   rw [List.take_succ_eq_append_getElem hjl, escB_app]; simp [escB, hjl]
  refine p_region rfl ?_
  refine wo_pv (pv_move rfl) rfl ?_
  refine wo_pv (pv_assign rfl) rfl ?_
  refine q_seq ?_
  refine p_seq rfl ?_
  refine p_region rfl ?_
  refine wo_pv (pv_move rfl) rfl ?_
  refine wo_pv (pv_move rfl) rfl ?_
  refine wo_pv (pv_indexm Tryz.underlying9 rfl rfl rfl (by omega)) rfl ?_
  refine q_seq ?_
  refine p_block 2 rfl ?_
  refine p_seq rfl ?_
  refine p_region rfl ?_
  refine wo_pv (pv_eql rfl rfl) rfl ?_
  refine wo_pv (pv_assign rfl) rfl ?_
  refine q_seq ?_
  first | refine p_ite rfl rfl (fun h17 => ?_) (fun h17 => ?_) | refine p_cond rfl rfl (fun h17 => ?_) (fun h17 => ?_)
  ·
   refine p_region rfl ?_
   refine r_call1 (WriteString_sp b3 (escB (s.take j)) [92, 115] (by simp only [List.length_cons, List.length_nil]; omega)) rfl rfl rfl ?_
   rw [escC, if_pos (by omega)] at hsu
   refine wo_nil ?_
   refine to_block ?_
   refine to_block ?_
   refine t_seq ?_
   refine p_region rfl ?_
   refine wo_pv (pv_add rfl rfl (by omega)) rfl ?_
   refine wo_pv (pv_move rfl) rfl ?_
   refine wo_nil ?_
   refine to_inv ⟨j + 1, by omega⟩ (by dsimp only; omega) ⟨rfl, rfl, rfl, rfl, trivial⟩ ?_
   dsimp only
   rw [hsu]
   exact ent_pick
  ·
   refine p_seq rfl ?_
   refine p_region rfl ?_
   refine wo_pv (pv_eql rfl rfl) rfl ?_
   refine wo_pv (pv_assign rfl) rfl ?_
   refine q_seq ?_
   first | refine p_ite rfl rfl (fun h20 => ?_) (fun h20 => ?_) | refine p_cond rfl rfl (fun h20 => ?_) (fun h20 => ?_)
   ·
    refine p_region rfl ?_
    refine r_call1 (WriteString_sp b3 (escB (s.take j)) [92, 110] (by simp only [List.length_cons, List.length_nil]; omega)) rfl rfl rfl ?_
    rw [escC, if_neg (by omega), if_pos (by omega)] at hsu
    refine wo_nil ?_
    refine to_block ?_
    refine to_block ?_
    refine t_seq ?_
    refine p_region rfl ?_
    refine wo_pv (pv_add rfl rfl (by omega)) rfl ?_
    refine wo_pv (pv_move rfl) rfl ?_
    refine wo_nil ?_
    refine to_inv ⟨j + 1, by omega⟩ (by dsimp only; omega) ⟨rfl, rfl, rfl, rfl, trivial⟩ ?_
    dsimp only
    rw [hsu]
    exact ent_pick
   ·
    refine p_seq rfl ?_
    refine p_region rfl ?_
    refine wo_pv (pv_eql rfl rfl) rfl ?_
    refine wo_pv (pv_assign rfl) rfl ?_
    refine q_seq ?_
    first | refine p_ite rfl rfl (fun h23 => ?_) (fun h23 => ?_) | refine p_cond rfl rfl (fun h23 => ?_) (fun h23 => ?_)
    ·
     refine p_region rfl ?_
     refine r_call1 (WriteString_sp b3 (escB (s.take j)) [92, 92] (by simp only [List.length_cons, List.length_nil]; omega)) rfl rfl rfl ?_
     rw [escC, if_neg (by omega), if_neg (by omega), if_pos (by omega)] at hsu
     refine wo_nil ?_
     refine to_block ?_
     refine to_block ?_
     refine t_seq ?_
     refine p_region rfl ?_
     refine wo_pv (pv_add rfl rfl (by omega)) rfl ?_
     refine wo_pv (pv_move rfl) rfl ?_
     refine wo_nil ?_
     refine to_inv ⟨j + 1, by omega⟩ (by dsimp only; omega) ⟨rfl, rfl, rfl, rfl, trivial⟩ ?_
     dsimp only
     rw [hsu]
     exact ent_pick
    ·
     refine p_region rfl ?_
     refine wo_pv (pv_move rfl) rfl ?_
     refine wo_pv (pv_move rfl) rfl ?_
     refine wo_pv (pv_indexm Tryz.underlying9 rfl rfl rfl (by omega)) rfl ?_
     refine r_call1 (WriteByte_sp b3 (escB (s.take j)) (s.getD j 0) (by omega)) rfl rfl rfl ?_
     rw [escC, if_neg (by omega), if_neg (by omega), if_neg (by omega)] at hsu
     refine wo_nil ?_
     refine to_block ?_
     refine to_block ?_
     refine t_seq ?_
     refine p_region rfl ?_
     refine wo_pv (pv_add rfl rfl (by omega)) rfl ?_
     refine wo_pv (pv_move rfl) rfl ?_
     refine wo_nil ?_
     refine to_inv ⟨j + 1, by omega⟩ (by dsimp only; omega) ⟨rfl, rfl, rfl, rfl, trivial⟩ ?_
     dsimp only
     rw [hsu]
     exact ent_pick
 ·
  refine p_exit 0 rfl ?_
  refine t_seq_exit ?_
  refine to_inv_exit ?_
  refine to_block_here ?_
  refine t_seq ?_
  refine p_seq rfl ?_
  have hjl : j = s.length := by omega
  subst hjl
  rw [List.take_length]
  refine p_region rfl ?_
  refine r_call1 (String_sp b3 (escB s) (by have := (escB_len s).2; omega)) rfl rfl rfl ?_
  refine wo_pv (pv_assign rfl) rfl ?_
  refine q_seq ?_
  refine p_ret rfl ?_
  refine fin_ret () (vs := [_]) (Cs := []) rfl (.tmp rfl .nil) rfl trivial ?_
  exact ent_nil
theorem ref10_Escape_sp (s : Bs) (hs : s.length ≤ 1099511627776) : SpF Tryz.prog 49 [vS s] (vS (escB s)) := by
 refine Sp.body (n := 34) Tryz.call49 Tryz.func49 rfl rfl rfl ?_
 refine p_seq rfl ?_
 refine p_region rfl ?_
 refine wo_pv (pv_assign rfl) rfl ?_
 refine q_seq ?_
 refine p_seq rfl ?_
 refine p_region rfl ?_
 refine wo_pv (pv_assign rfl) rfl ?_
 refine q_seq ?_
 refine p_seq rfl ?_
 refine p_seq rfl ?_
 refine p_region rfl ?_
 refine wo_pv (pv_assign rfl) rfl ?_
 refine q_seq ?_
 refine p_block 0 rfl ?_
 refine p_loop (fun (i : { j : Nat // j ≤ s.length }) => [(0, vS s), (3, vS (escB (s.take i.1))), (4, vI i.1)]) (fun (i : { j : Nat // j ≤ s.length }) => []) (fun (i : { j : Nat // j ≤ s.length }) => s.length - i.1) rfl (⟨0, Nat.zero_le _⟩) ?_ ?_ (fun i => ?_)
 · exact ⟨rfl, rfl, rfl, trivial⟩
 ·
  exact ent_nil
 obtain ⟨j, hj⟩ := i
 dsimp only
 have htl := (escB_len (s.take j)).2
 rw [List.length_take] at htl
 try dsimp only
 refine p_seq rfl ?_
 refine p_seq rfl ?_
 refine p_region rfl ?_
 refine wo_pv (pv_move rfl) rfl ?_
 refine wo_pv (pv_move rfl) rfl ?_
 refine wo_pv (pv_call_len_s Tryz.underlying9 rfl) rfl ?_
 refine wo_pv (pv_lss rfl rfl) rfl ?_
 refine q_seq ?_
 first | refine p_ite rfl rfl (fun h8 => ?_) (fun h8 => ?_) | refine p_cond rfl rfl (fun h8 => ?_) (fun h8 => ?_)
 ·
  refine p_skip rfl ?_
  refine t_seq ?_
  refine p_seq rfl ?_
  refine p_block 1 rfl ?_
  refine p_seq rfl ?_
  have hjl : j < s.length := by omega
  have hsu : escB (s.take (j + 1)) = escB (s.take j) ++ escC (s.getD j 0) := by
   rw [List.take_succ_eq_append_getElem hjl, escB_app]; simp [escB, hjl]
  refine p_region rfl ?_
  refine wo_pv (pv_move rfl) rfl ?_
  refine wo_pv (pv_move rfl) rfl ?_
  refine wo_pv (pv_indexm Tryz.underlying9 rfl rfl rfl (by omega)) rfl ?_
  refine q_seq ?_
  refine p_block 2 rfl ?_
  refine p_seq rfl ?_
  refine p_region rfl ?_
  refine wo_pv (pv_eql rfl rfl) rfl ?_
  refine wo_pv (pv_assign rfl) rfl ?_
  refine q_seq ?_
  first | refine p_ite rfl rfl (fun h21 => ?_) (fun h21 => ?_) | refine p_cond rfl rfl (fun h21 => ?_) (fun h21 => ?_)
  ·
   rw [escC, if_pos (by omega)] at hsu
   refine p_region rfl ?_
   refine wo_pv (pv_move rfl) rfl ?_
   refine wo_pv (pv_cat rfl rfl (by first | (simp only [List.length_append, List.length_take, List.length_drop, List.length_cons, List.length_nil]; omega) | (simp; try omega))) rfl ?_
   refine wo_pv (pv_assign rfl) rfl ?_
   refine wo_nil ?_
   refine to_block ?_
   refine to_block ?_
   refine t_seq ?_
   refine p_region rfl ?_
   refine wo_pv (pv_move rfl) rfl ?_
   refine wo_pv (pv_add rfl rfl (by omega)) rfl ?_
   refine wo_pv (pv_assign rfl) rfl ?_
   refine wo_nil ?_
   refine to_inv ⟨j + 1, by omega⟩ (by dsimp only; omega) ⟨rfl, by rw [hsu]; rfl, rfl, trivial⟩ ent_nil
  ·
   refine p_seq rfl ?_
   refine p_region rfl ?_
   refine wo_pv (pv_eql rfl rfl) rfl ?_
   refine wo_pv (pv_assign rfl) rfl ?_
   refine q_seq ?_
   first | refine p_ite rfl rfl (fun h25 => ?_) (fun h25 => ?_) | refine p_cond rfl rfl (fun h25 => ?_) (fun h25 => ?_)
   ·
    rw [escC, if_neg (by omega), if_pos (by omega)] at hsu
    refine p_region rfl ?_
    refine wo_pv (pv_move rfl) rfl ?_
    refine wo_pv (pv_cat rfl rfl (by first | (simp only [List.length_append, List.length_take, List.length_drop, List.length_cons, List.length_nil]; omega) | (simp; try omega))) rfl ?_
    refine wo_pv (pv_assign rfl) rfl ?_
    refine wo_nil ?_
    refine to_block ?_
    refine to_block ?_
    refine t_seq ?_
    refine p_region rfl ?_
    refine wo_pv (pv_move rfl) rfl ?_
    refine wo_pv (pv_add rfl rfl (by omega)) rfl ?_
    refine wo_pv (pv_assign rfl) rfl ?_
    refine wo_nil ?_
    refine to_inv ⟨j + 1, by omega⟩ (by dsimp only; omega) ⟨rfl, by rw [hsu]; rfl, rfl, trivial⟩ ent_nil
   ·
    refine p_seq rfl ?_
    refine p_region rfl ?_
    refine wo_pv (pv_eql rfl rfl) rfl ?_
    refine wo_pv (pv_assign rfl) rfl ?_
    refine q_seq ?_
    first | refine p_ite rfl rfl (fun h29 => ?_) (fun h29 => ?_) | refine p_cond rfl rfl (fun h29 => ?_) (fun h29 => ?_)
    ·
     rw [escC, if_neg (by omega), if_neg (by omega), if_pos (by omega)] at hsu
     refine p_region rfl ?_
     refine wo_pv (pv_move rfl) rfl ?_
     refine wo_pv (pv_cat rfl rfl (by first | (simp only [List.length_append, List.length_take, List.length_drop, List.length_cons, List.length_nil]; omega) | (simp; try omega))) rfl ?_
     refine wo_pv (pv_assign rfl) rfl ?_
     refine wo_nil ?_
     refine to_block ?_
     refine to_block ?_
     refine t_seq ?_
     refine p_region rfl ?_
     refine wo_pv (pv_move rfl) rfl ?_
     refine wo_pv (pv_add rfl rfl (by omega)) rfl ?_
     refine wo_pv (pv_assign rfl) rfl ?_
     refine wo_nil ?_
     refine to_inv ⟨j + 1, by omega⟩ (by dsimp only; omega) ⟨rfl, by rw [hsu]; rfl, rfl, trivial⟩ ent_nil
    ·
     rw [escC, if_neg (by omega), if_neg (by omega), if_neg (by omega)] at hsu
     refine p_region rfl ?_
     refine wo_pv (pv_move rfl) rfl ?_
     refine wo_pv (pv_move rfl) rfl ?_
     refine wo_pv (pv_move rfl) rfl ?_
     refine wo_pv (pv_move rfl) rfl ?_
     refine wo_pv (pv_add rfl rfl (by omega)) rfl ?_
     refine wo_pv (pv_slice_inm (m := j) (o := j + 1) Tryz.underlying9 rfl rfl rfl rfl (by omega) (by omega) (by omega)) rfl ?_
     have hone : (s.drop j).take (j + 1 - j) = [s.getD j 0] := by
      rw [drop_cons' hjl, show j + 1 - j = 1 from by omega]; rfl
     rw [hone]
     refine wo_pv (pv_cat rfl rfl (by first | (simp only [List.length_append, List.length_take, List.length_drop, List.length_cons, List.length_nil]; omega) | (simp; try omega))) rfl ?_
     refine wo_pv (pv_assign rfl) rfl ?_
     refine wo_nil ?_
     refine to_block ?_
     refine to_block ?_
     refine t_seq ?_
     refine p_region rfl ?_
     refine wo_pv (pv_move rfl) rfl ?_
     refine wo_pv (pv_add rfl rfl (by omega)) rfl ?_
     refine wo_pv (pv_assign rfl) rfl ?_
     refine wo_nil ?_
     refine to_inv ⟨j + 1, by omega⟩ (by dsimp only; omega) ⟨rfl, by rw [hsu]; rfl, rfl, trivial⟩ ent_nil
 ·
  refine p_exit 0 rfl ?_
  refine t_seq_exit ?_
  refine to_inv_exit ?_
  refine to_block_here ?_
  refine t_seq ?_
  refine p_seq rfl ?_
  refine p_region rfl ?_
  refine wo_pv (pv_move rfl) rfl ?_
  refine wo_pv (pv_assign rfl) rfl ?_
  refine q_seq ?_
  refine p_ret rfl ?_
  have hjl : j = s.length := by omega
  subst hjl
  rw [List.take_length]
  exact fin_ret () (vs := [_]) (Cs := []) rfl (.tmp rfl .nil) rfl trivial ent_nil
/-- What a word reads as. -/
def unV (s : Bs) : Value := .tuple #[vS ((unescB s).getD []), vB (unescB s).isSome]
theorem map_map_app {x : Option Bs} {a b : Bs} : (x.map (b ++ ·)).map (a ++ ·) = x.map ((a ++ b) ++ ·) := by cases x <;> simp
theorem map_nil_app (x : Option Bs) : x = x.map ([] ++ ·) := by cases x <;> rfl
theorem unesc_len : ∀ (n : Nat) (s t : Bs), s.length ≤ n → unescB s = some t → t.length ≤ s.length := by
 intro n
 induction n with
 | zero =>
   intro s t hs h
   have : s = [] := List.eq_nil_of_length_eq_zero (by omega)
   subst this
   cases h; simp
 | succ n ih =>
   intro s t hs h
   cases s with
   | nil => cases h; simp
   | cons c r =>
     simp only [List.length_cons] at hs ⊢
     rw [unescB_eq] at h
     split at h
     · split at h
       · cases h
       · rename_i d r'
         simp only [List.length_cons] at hs ⊢
         split at h
         · cases h
         · cases e : unescB r' with
           | none => rw [e] at h; cases h
           | some u =>
             rw [e] at h
             cases h
             have := ih r' u (by omega) e
             simp only [List.length_cons]; omega
     · split at h
       · cases h
       · cases e : unescB r with
         | none => rw [e] at h; cases h
         | some u =>
           rw [e] at h
           cases h
           have := ih r u (by omega) e
           simp only [List.length_cons]; omega
theorem unescB_len {s t : Bs} (h : unescB s = some t) : t.length ≤ s.length := unesc_len _ s t (Nat.le_refl _) h
theorem un_plain {s : Bs} {i : Nat} (h : i < s.length) (h1 : (s.getD i 0).toNat ≠ 92) (h2 : (s.getD i 0).toNat ≠ 32) (h3 : (s.getD i 0).toNat ≠ 10) : unescB (s.drop i) = (unescB (s.drop (i + 1))).map ([s.getD i 0] ++ ·) := by
 rw [drop_cons' h, unescB_eq, if_neg h1, if_neg (by omega)]; rfl
theorem un_bad {s : Bs} {i : Nat} (h : i < s.length) (h1 : (s.getD i 0).toNat ≠ 92) (h2 : (s.getD i 0).toNat = 32 ∨ (s.getD i 0).toNat = 10) : unescB (s.drop i) = none := by
 rw [drop_cons' h, unescB_eq, if_neg h1, if_pos h2]
theorem un_last {s : Bs} {i : Nat} (h : i < s.length) (h1 : (s.getD i 0).toNat = 92) (h2 : i + 1 = s.length) : unescB (s.drop i) = none := by
 rw [drop_cons' h, unescB_eq, if_pos h1, h2, List.drop_length]
theorem un_two {s : Bs} {i : Nat} (h : i < s.length) (h1 : (s.getD i 0).toNat = 92) (h2 : i + 1 < s.length) : unescB (s.drop i) = match unC (s.getD (i + 1) 0) with | none => none | some e => (unescB (s.drop (i + 2))).map ([e] ++ ·) := by
 rw [drop_cons' h, unescB_eq, if_pos h1, drop_cons' h2]
 rfl
theorem escape_Read_sp (s : Bs) (hs : s.length ≤ 1099511627776) : SpF Tryz.prog 67 [vS s] (unV s) := by
 refine Sp.body (n := 42) Tryz.call67 Tryz.func67 rfl rfl rfl ?_
 refine p_seq rfl ?_
 refine p_region rfl ?_
 refine wo_pv (pv_assign rfl) rfl ?_
 refine wo_pv (pv_assign rfl) rfl ?_
 refine q_seq ?_
 refine p_seq rfl ?_
 refine p_region rfl ?_
 refine wo_alloc (zs := [.pointer none, .slice none 0 0]) ti174 rfl rfl rfl (fun b4 => ?_)
 refine wo_ent' (fold_newB (p := b4) (by rfl) (by rfl) (by rfl)) ?_
 refine q_seq ?_
 refine p_seq rfl ?_
 refine p_seq rfl ?_
 refine p_region rfl ?_
 refine wo_pv (pv_assign rfl) rfl ?_
 refine q_seq ?_
 refine p_block 0 rfl ?_
 refine p_loop (fun (i : { x : Bs × Nat // x.2 ≤ s.length ∧ x.1.length ≤ x.2 ∧ unescB s = (unescB (s.drop x.2)).map (x.1 ++ ·) }) => [(0, vS s), (4, .pointer (some ⟨b4, 0, none⟩)), (5, vI i.1.2)]) (fun (i : { x : Bs × Nat // x.2 ≤ s.length ∧ x.1.length ≤ x.2 ∧ unescB s = (unescB (s.drop x.2)).map (x.1 ++ ·) }) => [IsB b4 i.1.1]) (fun (i : { x : Bs × Nat // x.2 ≤ s.length ∧ x.1.length ≤ x.2 ∧ unescB s = (unescB (s.drop x.2)).map (x.1 ++ ·) }) => s.length - i.1.2) rfl (⟨([], 0), Nat.zero_le _, Nat.zero_le _, map_nil_app (unescB s)⟩) ?_ ?_ (fun i => ?_)
 · exact ⟨rfl, rfl, rfl, trivial⟩
 ·
  exact Ent.refl _
 obtain ⟨⟨out, j⟩, hj, hol, hu⟩ := i
 dsimp only at hj hol hu ⊢
 try dsimp only
 refine p_seq rfl ?_
 refine p_seq rfl ?_
 refine p_region rfl ?_
 refine wo_pv (pv_move rfl) rfl ?_
 refine wo_pv (pv_move rfl) rfl ?_
 refine wo_pv (pv_call_len_s Tryz.underlying9 rfl) rfl ?_
 refine wo_pv (pv_lss rfl rfl) rfl ?_
 refine q_seq ?_
 first | refine p_ite rfl rfl (fun h10 => ?_) (fun h10 => ?_) | refine p_cond rfl rfl (fun h10 => ?_) (fun h10 => ?_)
 ·
  refine p_skip rfl ?_
  refine t_seq ?_
  refine p_seq rfl ?_
  refine p_block 1 rfl ?_
  refine p_seq rfl ?_
  have hjl : j < s.length := by omega
  refine p_region rfl ?_
  refine wo_pv (pv_move rfl) rfl ?_
  refine wo_pv (pv_move rfl) rfl ?_
  refine wo_pv (pv_indexm Tryz.underlying9 rfl rfl rfl (by omega)) rfl ?_
  refine wo_pv (pv_assign rfl) rfl ?_
  refine q_seq ?_
  refine p_seq rfl ?_
  refine p_seq rfl ?_
  refine p_region rfl ?_
  refine wo_pv (pv_move rfl) rfl ?_
  refine wo_pv (pv_eql rfl rfl) rfl ?_
  refine q_seq ?_
  first | refine p_ite rfl rfl (fun h17 => ?_) (fun h17 => ?_) | refine p_cond rfl rfl (fun h17 => ?_) (fun h17 => ?_)
  ·
   refine p_seq rfl ?_
   refine p_seq rfl ?_
   refine p_region rfl ?_
   refine wo_pv (pv_move rfl) rfl ?_
   refine wo_pv (pv_add rfl rfl (by omega)) rfl ?_
   refine wo_pv (pv_assign rfl) rfl ?_
   refine q_seq ?_
   refine p_seq rfl ?_
   refine p_region rfl ?_
   refine wo_pv (pv_move rfl) rfl ?_
   refine wo_pv (pv_move rfl) rfl ?_
   refine wo_pv (pv_call_len_s Tryz.underlying9 rfl) rfl ?_
   refine wo_pv (pv_eql rfl rfl) rfl ?_
   refine q_seq ?_
   first | refine p_ite rfl rfl (fun h23 => ?_) (fun h23 => ?_) | refine p_cond rfl rfl (fun h23 => ?_) (fun h23 => ?_)
   ·
    refine p_seq rfl ?_
    refine p_region rfl ?_
    refine wo_pv (pv_assign rfl) rfl ?_
    refine wo_pv (pv_assign rfl) rfl ?_
    refine q_seq ?_
    refine p_ret rfl ?_
    refine t_seq_ret ?_
    refine t_seq_ret ?_
    refine to_block_ret ?_
    refine t_seq_ret ?_
    refine to_inv_ret ?_
    refine to_block_ret ?_
    refine t_seq_ret ?_
    rw [un_last hjl (by omega) (by omega)] at hu
    refine fin_ret () (vs := [_, _]) (Cs := []) rfl (.tmp rfl (.tmp rfl .nil)) ?_ trivial ent_nil
    rw [unV, hu]; rfl
   ·
    refine p_skip rfl ?_
    refine t_seq ?_
    refine p_seq rfl ?_
    have hj1 : j + 1 < s.length := by omega
    rw [un_two hjl (by omega) hj1] at hu
    refine p_region rfl ?_
    refine wo_pv (pv_move rfl) rfl ?_
    refine wo_pv (pv_move rfl) rfl ?_
    refine wo_pv (pv_indexm (m := j + 1) Tryz.underlying9 rfl rfl (by omega) (by omega)) rfl ?_
    refine q_seq ?_
    refine p_block 2 rfl ?_
    refine p_seq rfl ?_
    refine p_region rfl ?_
    refine wo_pv (pv_eql rfl rfl) rfl ?_
    refine wo_pv (pv_assign rfl) rfl ?_
    refine q_seq ?_
    first | refine p_ite rfl rfl (fun h27 => ?_) (fun h27 => ?_) | refine p_cond rfl rfl (fun h27 => ?_) (fun h27 => ?_)
    ·
     rw [unC, if_pos (by omega)] at hu
     refine p_region rfl ?_
     refine wo_pv (pv_assign rfl) rfl ?_
     refine wo_nil ?_
     refine to_block ?_
     refine t_seq ?_
     refine p_region rfl ?_
     refine wo_pv (pv_move rfl) rfl ?_
     first
     | (rw [un_plain hjl (by omega) (by omega) (by omega)] at hu
        refine r_call1 (WriteByte_sp b4 out (s.getD j 0) (by omega)) rfl rfl rfl ?_)
     | refine r_call1 (WriteByte_sp b4 out 32 (by omega)) rfl rfl rfl ?_
     | refine r_call1 (WriteByte_sp b4 out 10 (by omega)) rfl rfl rfl ?_
     | (rw [hc92]; refine r_call1 (WriteByte_sp b4 out 92 (by omega)) rfl rfl rfl ?_)
     refine wo_nil ?_
     refine to_block ?_
     refine t_seq ?_
     refine p_region rfl ?_
     refine wo_pv (pv_move rfl) rfl ?_
     refine wo_pv (pv_add rfl rfl (by omega)) rfl ?_
     refine wo_pv (pv_assign rfl) rfl ?_
     refine wo_nil ?_
     rw [map_map_app] at hu
     first
     | exact to_inv ⟨(_, j + 1), by dsimp only; omega, by dsimp only; rw [List.length_append]; simp only [List.length_singleton]; omega, hu⟩ (by dsimp only; omega) ⟨rfl, rfl, rfl, trivial⟩ ent_pick
     | exact to_inv ⟨(_, j + 2), by dsimp only; omega, by dsimp only; rw [List.length_append]; simp only [List.length_singleton]; omega, hu⟩ (by dsimp only; omega) ⟨rfl, rfl, vI_eq (by dsimp only; omega), trivial⟩ ent_pick
    ·
     refine p_seq rfl ?_
     refine p_region rfl ?_
     refine wo_pv (pv_eql rfl rfl) rfl ?_
     refine wo_pv (pv_assign rfl) rfl ?_
     refine q_seq ?_
     first | refine p_ite rfl rfl (fun h29 => ?_) (fun h29 => ?_) | refine p_cond rfl rfl (fun h29 => ?_) (fun h29 => ?_)
     ·
      rw [unC, if_neg (by omega), if_pos (by omega)] at hu
      refine p_region rfl ?_
      refine wo_pv (pv_assign rfl) rfl ?_
      refine wo_nil ?_
      refine to_block ?_
      refine t_seq ?_
      refine p_region rfl ?_
      refine wo_pv (pv_move rfl) rfl ?_
      first
      | (rw [un_plain hjl (by omega) (by omega) (by omega)] at hu
         refine r_call1 (WriteByte_sp b4 out (s.getD j 0) (by omega)) rfl rfl rfl ?_)
      | refine r_call1 (WriteByte_sp b4 out 32 (by omega)) rfl rfl rfl ?_
      | refine r_call1 (WriteByte_sp b4 out 10 (by omega)) rfl rfl rfl ?_
      | (rw [hc92]; refine r_call1 (WriteByte_sp b4 out 92 (by omega)) rfl rfl rfl ?_)
      refine wo_nil ?_
      refine to_block ?_
      refine t_seq ?_
      refine p_region rfl ?_
      refine wo_pv (pv_move rfl) rfl ?_
      refine wo_pv (pv_add rfl rfl (by omega)) rfl ?_
      refine wo_pv (pv_assign rfl) rfl ?_
      refine wo_nil ?_
      rw [map_map_app] at hu
      first
      | exact to_inv ⟨(_, j + 1), by dsimp only; omega, by dsimp only; rw [List.length_append]; simp only [List.length_singleton]; omega, hu⟩ (by dsimp only; omega) ⟨rfl, rfl, rfl, trivial⟩ ent_pick
      | exact to_inv ⟨(_, j + 2), by dsimp only; omega, by dsimp only; rw [List.length_append]; simp only [List.length_singleton]; omega, hu⟩ (by dsimp only; omega) ⟨rfl, rfl, vI_eq (by dsimp only; omega), trivial⟩ ent_pick
     ·
      refine p_seq rfl ?_
      refine p_region rfl ?_
      refine wo_pv (pv_eql rfl rfl) rfl ?_
      refine wo_pv (pv_assign rfl) rfl ?_
      refine q_seq ?_
      first | refine p_ite rfl rfl (fun h31 => ?_) (fun h31 => ?_) | refine p_cond rfl rfl (fun h31 => ?_) (fun h31 => ?_)
      ·
       rw [unC, if_neg (by omega), if_neg (by omega), if_pos (by omega)] at hu
       have hc92 : s.getD j 0 = 92 := u8eq.2 (show _ = 92 by omega)
       refine p_skip rfl ?_
       refine to_block ?_
       refine t_seq ?_
       refine p_region rfl ?_
       refine wo_pv (pv_move rfl) rfl ?_
       first
       | (rw [un_plain hjl (by omega) (by omega) (by omega)] at hu
          refine r_call1 (WriteByte_sp b4 out (s.getD j 0) (by omega)) rfl rfl rfl ?_)
       | refine r_call1 (WriteByte_sp b4 out 32 (by omega)) rfl rfl rfl ?_
       | refine r_call1 (WriteByte_sp b4 out 10 (by omega)) rfl rfl rfl ?_
       | (rw [hc92]; refine r_call1 (WriteByte_sp b4 out 92 (by omega)) rfl rfl rfl ?_)
       refine wo_nil ?_
       refine to_block ?_
       refine t_seq ?_
       refine p_region rfl ?_
       refine wo_pv (pv_move rfl) rfl ?_
       refine wo_pv (pv_add rfl rfl (by omega)) rfl ?_
       refine wo_pv (pv_assign rfl) rfl ?_
       refine wo_nil ?_
       rw [map_map_app] at hu
       first
       | exact to_inv ⟨(_, j + 1), by dsimp only; omega, by dsimp only; rw [List.length_append]; simp only [List.length_singleton]; omega, hu⟩ (by dsimp only; omega) ⟨rfl, rfl, rfl, trivial⟩ ent_pick
       | exact to_inv ⟨(_, j + 2), by dsimp only; omega, by dsimp only; rw [List.length_append]; simp only [List.length_singleton]; omega, hu⟩ (by dsimp only; omega) ⟨rfl, rfl, vI_eq (by dsimp only; omega), trivial⟩ ent_pick
      ·
       refine p_seq rfl ?_
       refine p_region rfl ?_
       refine wo_pv (pv_assign rfl) rfl ?_
       refine wo_pv (pv_assign rfl) rfl ?_
       refine q_seq ?_
       refine p_ret rfl ?_
       refine to_block_ret ?_
       refine t_seq_ret ?_
       refine to_block_ret ?_
       refine t_seq_ret ?_
       refine to_inv_ret ?_
       refine to_block_ret ?_
       refine t_seq_ret ?_
       rw [unC, if_neg (by omega), if_neg (by omega), if_neg (by omega)] at hu
       refine fin_ret () (vs := [_, _]) (Cs := []) rfl (.tmp rfl (.tmp rfl .nil)) ?_ trivial ent_nil
       rw [unV, hu]; rfl
  ·
   refine p_seq rfl ?_
   refine p_region rfl ?_
   refine wo_pv (pv_move rfl) rfl ?_
   refine wo_pv (pv_eql rfl rfl) rfl ?_
   refine wo_pv (pv_move rfl) rfl ?_
   first | refine wo_gite (j := 2) rfl rfl (fun h35 => ?_) (fun h35 => ?_) | refine wo_gsplit (j := 2) rfl rfl (fun h35 => ?_) (fun h35 => ?_)
   ·
    refine wo_out (b := true) rfl rfl rfl ?_
    refine wo_out (b := true) rfl rfl rfl ?_
    refine wo_pv (pv_pick_t rfl rfl) rfl ?_
    refine q_seq ?_
    refine p_true rfl rfl ?_
    refine p_seq rfl ?_
    refine p_region rfl ?_
    refine wo_pv (pv_assign rfl) rfl ?_
    refine wo_pv (pv_assign rfl) rfl ?_
    refine q_seq ?_
    refine p_ret rfl ?_
    refine t_seq_ret ?_
    refine to_block_ret ?_
    refine t_seq_ret ?_
    refine to_inv_ret ?_
    refine to_block_ret ?_
    refine t_seq_ret ?_
    rw [un_bad hjl (by omega) (by omega)] at hu
    refine fin_ret () (vs := [_, _]) (Cs := []) rfl (.tmp rfl (.tmp rfl .nil)) ?_ trivial ent_nil
    rw [unV, hu]; rfl
   ·
    refine wo_in (b := false) rfl ?_
    refine wo_pv (pv_move rfl) rfl ?_
    refine wo_in (b := false) rfl ?_
    refine wo_pv (pv_eql rfl rfl) rfl ?_
    refine wo_pv (pv_pick_f rfl rfl) rfl ?_
    refine q_seq ?_
    first | refine p_ite rfl rfl (fun h38 => ?_) (fun h38 => ?_) | refine p_cond rfl rfl (fun h38 => ?_) (fun h38 => ?_)
    ·
     refine p_seq rfl ?_
     refine p_region rfl ?_
     refine wo_pv (pv_assign rfl) rfl ?_
     refine wo_pv (pv_assign rfl) rfl ?_
     refine q_seq ?_
     refine p_ret rfl ?_
     refine t_seq_ret ?_
     refine to_block_ret ?_
     refine t_seq_ret ?_
     refine to_inv_ret ?_
     refine to_block_ret ?_
     refine t_seq_ret ?_
     rw [un_bad hjl (by omega) (by omega)] at hu
     refine fin_ret () (vs := [_, _]) (Cs := []) rfl (.tmp rfl (.tmp rfl .nil)) ?_ trivial ent_nil
     rw [unV, hu]; rfl
    ·
     refine p_skip rfl ?_
     refine t_seq ?_
     refine p_region rfl ?_
     refine wo_pv (pv_move rfl) rfl ?_
     first
     | (rw [un_plain hjl (by omega) (by omega) (by omega)] at hu
        refine r_call1 (WriteByte_sp b4 out (s.getD j 0) (by omega)) rfl rfl rfl ?_)
     | refine r_call1 (WriteByte_sp b4 out 32 (by omega)) rfl rfl rfl ?_
     | refine r_call1 (WriteByte_sp b4 out 10 (by omega)) rfl rfl rfl ?_
     | (rw [hc92]; refine r_call1 (WriteByte_sp b4 out 92 (by omega)) rfl rfl rfl ?_)
     refine wo_nil ?_
     refine to_block ?_
     refine t_seq ?_
     refine p_region rfl ?_
     refine wo_pv (pv_move rfl) rfl ?_
     refine wo_pv (pv_add rfl rfl (by omega)) rfl ?_
     refine wo_pv (pv_assign rfl) rfl ?_
     refine wo_nil ?_
     rw [map_map_app] at hu
     first
     | exact to_inv ⟨(_, j + 1), by dsimp only; omega, by dsimp only; rw [List.length_append]; simp only [List.length_singleton]; omega, hu⟩ (by dsimp only; omega) ⟨rfl, rfl, rfl, trivial⟩ ent_pick
     | exact to_inv ⟨(_, j + 2), by dsimp only; omega, by dsimp only; rw [List.length_append]; simp only [List.length_singleton]; omega, hu⟩ (by dsimp only; omega) ⟨rfl, rfl, vI_eq (by dsimp only; omega), trivial⟩ ent_pick
 ·
  refine p_exit 0 rfl ?_
  refine t_seq_exit ?_
  refine to_inv_exit ?_
  refine to_block_here ?_
  refine t_seq ?_
  refine p_seq rfl ?_
  have hjl : j = s.length := by omega
  subst hjl
  rw [unescB_end (Nat.le_refl _)] at hu
  simp only [Option.map_some, List.append_nil] at hu
  refine p_region rfl ?_
  refine r_call1 (String_sp b4 out (by omega)) rfl rfl rfl ?_
  refine wo_pv (pv_assign rfl) rfl ?_
  refine wo_pv (pv_assign rfl) rfl ?_
  refine q_seq ?_
  refine p_ret rfl ?_
  refine fin_ret () (vs := [_, _]) (Cs := []) rfl (.tmp rfl (.tmp rfl .nil)) ?_ trivial ent_nil
  rw [unV, hu]; rfl
theorem word_not {s : Bs} {j : Nat} (h : j < s.length) (hb : (s.getD j 0).toNat ≤ 32 ∨ 126 < (s.getD j 0).toNat ∨ (s.getD j 0).toNat = 92) : ¬ wordP s := by
 rintro ⟨h1, _⟩
 have := h1 (s.getD j 0) (by simp [h])
 omega
theorem word_all {s : Bs} (h : ∀ i, i < s.length → 32 < (s.getD i 0).toNat ∧ (s.getD i 0).toNat ≤ 126 ∧ (s.getD i 0).toNat ≠ 92) : wordP s ↔ 1 ≤ s.length ∧ s.length ≤ 12 :=
 ⟨fun x => x.2, fun x => ⟨fun c hc => by obtain ⟨i, hi, rfl⟩ := mem_getD (d := 0) hc; exact h i hi, x⟩⟩
theorem escape_Word_sp (s : Bs) (hs : s.length ≤ 9223372036854775807) : SpF Tryz.prog 125 [vS s] (vB (decide (wordP s))) := by
 refine Sp.body (n := 33) Tryz.call125 Tryz.func125 rfl rfl rfl ?_
 refine p_seq rfl ?_
 refine p_region rfl ?_
 refine wo_pv (pv_assign rfl) rfl ?_
 refine q_seq ?_
 refine p_seq rfl ?_
 refine p_seq rfl ?_
 refine p_region rfl ?_
 refine wo_pv (pv_move rfl) rfl ?_
 refine wo_pv (pv_call_len_s Tryz.underlying9 rfl) rfl ?_
 refine wo_pv (pv_move rfl) rfl ?_
 refine q_seq ?_
 refine p_block 0 rfl ?_
 refine p_loop (fun (i : { j : Nat // j ≤ s.length ∧ ∀ i, i < j → 32 < (s.getD i 0).toNat ∧ (s.getD i 0).toNat ≤ 126 ∧ (s.getD i 0).toNat ≠ 92 }) => [(0, vS s), (5, vI s.length), (6, vI i.1)]) (fun (i : { j : Nat // j ≤ s.length ∧ ∀ i, i < j → 32 < (s.getD i 0).toNat ∧ (s.getD i 0).toNat ≤ 126 ∧ (s.getD i 0).toNat ≠ 92 }) => []) (fun (i : { j : Nat // j ≤ s.length ∧ ∀ i, i < j → 32 < (s.getD i 0).toNat ∧ (s.getD i 0).toNat ≤ 126 ∧ (s.getD i 0).toNat ≠ 92 }) => s.length - i.1) rfl (⟨0, Nat.zero_le _, fun i h => by omega⟩) ?_ ?_ (fun i => ?_)
 · exact ⟨rfl, rfl, rfl, trivial⟩
 ·
  exact ent_pick
 obtain ⟨j, hj, hin⟩ := i
 dsimp only
 try dsimp only
 refine p_seq rfl ?_
 refine p_region rfl ?_
 refine wo_pv (pv_lss rfl rfl) rfl ?_
 refine q_seq ?_
 refine p_seq rfl ?_
 first | refine p_ite rfl rfl (fun h7 => ?_) (fun h7 => ?_) | refine p_cond rfl rfl (fun h7 => ?_) (fun h7 => ?_)
 ·
  refine p_skip rfl ?_
  refine t_seq ?_
  refine p_seq rfl ?_
  refine p_block 1 rfl ?_
  refine p_seq rfl ?_
  refine p_region rfl ?_
  refine wo_pv (pv_move rfl) rfl ?_
  refine wo_pv (pv_assign rfl) rfl ?_
  refine q_seq ?_
  refine p_seq rfl ?_
  have hjl : j < s.length := by omega
  refine p_region rfl ?_
  refine wo_pv (pv_move rfl) rfl ?_
  refine wo_pv (pv_move rfl) rfl ?_
  refine wo_pv (pv_indexm Tryz.underlying9 rfl rfl rfl (by omega)) rfl ?_
  refine wo_pv (pv_leq rfl rfl) rfl ?_
  refine wo_pv (pv_move rfl) rfl ?_
  first | refine wo_gite (j := 4) rfl rfl (fun h13 => ?_) (fun h13 => ?_) | refine wo_gsplit (j := 4) rfl rfl (fun h13 => ?_) (fun h13 => ?_)
  ·
   refine wo_out (b := true) rfl rfl rfl ?_
   refine wo_out (b := true) rfl rfl rfl ?_
   refine wo_out (b := true) rfl rfl rfl ?_
   refine wo_out (b := true) rfl rfl rfl ?_
   refine wo_pv (pv_pick_t rfl rfl) rfl ?_
   refine wo_pv (pv_move rfl) rfl ?_
   refine wo_out (b := true) rfl rfl rfl ?_
   refine wo_out (b := true) rfl rfl rfl ?_
   refine wo_out (b := true) rfl rfl rfl ?_
   refine wo_out (b := true) rfl rfl rfl ?_
   refine wo_pv (pv_pick_t rfl rfl) rfl ?_
   refine q_seq ?_
   refine p_true rfl rfl ?_
   refine p_seq rfl ?_
   refine p_region rfl ?_
   refine wo_pv (pv_assign rfl) rfl ?_
   refine q_seq ?_
   refine p_ret rfl ?_
   refine to_block_ret ?_
   refine t_seq_ret ?_
   refine to_inv_ret ?_
   refine to_block_ret ?_
   refine t_seq_ret ?_
   have hn := word_not hjl (by omega)
   refine fin_ret () (vs := [_]) (Cs := []) rfl (.tmp rfl .nil) ?_ trivial ent_nil
   rw [decide_eq_false hn]; rfl
  ·
   refine wo_in (b := false) rfl ?_
   refine wo_pv (pv_move rfl) rfl ?_
   refine wo_in (b := false) rfl ?_
   refine wo_pv (pv_move rfl) rfl ?_
   refine wo_in (b := false) rfl ?_
   refine wo_pv (pv_indexm Tryz.underlying9 rfl rfl rfl (by omega)) rfl ?_
   refine wo_in (b := false) rfl ?_
   refine wo_pv (pv_gtr rfl rfl) rfl ?_
   refine wo_pv (pv_pick_f rfl rfl) rfl ?_
   refine wo_pv (pv_move rfl) rfl ?_
   first | refine wo_gite (j := 10) rfl rfl (fun h19 => ?_) (fun h19 => ?_) | refine wo_gsplit (j := 10) rfl rfl (fun h19 => ?_) (fun h19 => ?_)
   ·
    refine wo_out (b := true) rfl rfl rfl ?_
    refine wo_out (b := true) rfl rfl rfl ?_
    refine wo_out (b := true) rfl rfl rfl ?_
    refine wo_out (b := true) rfl rfl rfl ?_
    refine wo_pv (pv_pick_t rfl rfl) rfl ?_
    refine q_seq ?_
    refine p_true rfl rfl ?_
    refine p_seq rfl ?_
    refine p_region rfl ?_
    refine wo_pv (pv_assign rfl) rfl ?_
    refine q_seq ?_
    refine p_ret rfl ?_
    refine to_block_ret ?_
    refine t_seq_ret ?_
    refine to_inv_ret ?_
    refine to_block_ret ?_
    refine t_seq_ret ?_
    have hn := word_not hjl (by omega)
    refine fin_ret () (vs := [_]) (Cs := []) rfl (.tmp rfl .nil) ?_ trivial ent_nil
    rw [decide_eq_false hn]; rfl
   ·
    refine wo_in (b := false) rfl ?_
    refine wo_pv (pv_move rfl) rfl ?_
    refine wo_in (b := false) rfl ?_
    refine wo_pv (pv_move rfl) rfl ?_
    refine wo_in (b := false) rfl ?_
    refine wo_pv (pv_indexm Tryz.underlying9 rfl rfl rfl (by omega)) rfl ?_
    refine wo_in (b := false) rfl ?_
    refine wo_pv (pv_eql rfl rfl) rfl ?_
    refine wo_pv (pv_pick_f rfl rfl) rfl ?_
    refine q_seq ?_
    first | refine p_ite rfl rfl (fun h24 => ?_) (fun h24 => ?_) | refine p_cond rfl rfl (fun h24 => ?_) (fun h24 => ?_)
    ·
     refine p_seq rfl ?_
     refine p_region rfl ?_
     refine wo_pv (pv_assign rfl) rfl ?_
     refine q_seq ?_
     refine p_ret rfl ?_
     refine to_block_ret ?_
     refine t_seq_ret ?_
     refine to_inv_ret ?_
     refine to_block_ret ?_
     refine t_seq_ret ?_
     have hn := word_not hjl (by omega)
     refine fin_ret () (vs := [_]) (Cs := []) rfl (.tmp rfl .nil) ?_ trivial ent_nil
     rw [decide_eq_false hn]; rfl
    ·
     refine p_skip rfl ?_
     refine to_block ?_
     refine t_seq ?_
     refine p_region rfl ?_
     refine wo_pv (pv_add rfl rfl (by omega)) rfl ?_
     refine wo_pv (pv_move rfl) rfl ?_
     refine wo_nil ?_
     refine to_inv ⟨j + 1, by omega, fun i hi => ?_⟩ (by dsimp only; omega) ⟨rfl, rfl, rfl, trivial⟩ ent_nil
     by_cases he : i = j
     · subst he; omega
     · exact hin i (by omega)
 ·
  refine p_exit 0 rfl ?_
  refine t_seq_exit ?_
  refine to_inv_exit ?_
  refine to_block_here ?_
  refine t_seq ?_
  refine p_seq rfl ?_
  have hall := word_all (s := s) fun i hi => hin i (by omega)
  refine p_region rfl ?_
  refine wo_pv (pv_move rfl) rfl ?_
  refine wo_pv (pv_sneq rfl rfl) rfl ?_
  refine wo_pv (pv_move rfl) rfl ?_
  first | refine wo_gite (j := 2) rfl rfl (fun h28 => ?_) (fun h28 => ?_) | refine wo_gsplit (j := 2) rfl rfl (fun h28 => ?_) (fun h28 => ?_)
  ·
   refine wo_in (b := true) rfl ?_
   refine wo_pv (pv_move rfl) rfl ?_
   refine wo_in (b := true) rfl ?_
   refine wo_pv (pv_call_len_s Tryz.underlying9 rfl) rfl ?_
   refine wo_in (b := true) rfl ?_
   refine wo_pv (pv_leq rfl rfl) rfl ?_
   refine wo_pv (pv_pick_t rfl rfl) rfl ?_
   refine wo_pv (pv_assign rfl) rfl ?_
   refine q_seq ?_
   refine p_ret rfl ?_
   refine fin_ret () (vs := [_]) (Cs := []) rfl (.tmp rfl .nil) ?_ trivial ent_nil
   show vB _ = vB _
   congr 1
   first
   | (have hp := List.length_pos_iff.2 h28
      refine decide_eq_decide.2 (Iff.trans ?_ hall.symm)
      constructor <;> intro h <;> omega)
   | (have hp : s = [] := by simpa using h28
      exact (decide_eq_false (fun h => by have := (hall.1 h).1; rw [hp] at this; simp at this)).symm)
  ·
   refine wo_out (b := false) rfl rfl rfl ?_
   refine wo_out (b := false) rfl rfl rfl ?_
   refine wo_out (b := false) rfl rfl rfl ?_
   refine wo_pv (pv_pick_f rfl rfl) rfl ?_
   refine wo_pv (pv_assign rfl) rfl ?_
   refine q_seq ?_
   refine p_ret rfl ?_
   refine fin_ret () (vs := [_]) (Cs := []) rfl (.tmp rfl .nil) ?_ trivial ent_nil
   show vB _ = vB _
   congr 1
   first
   | (have hp := List.length_pos_iff.2 h28
      refine decide_eq_decide.2 (Iff.trans ?_ hall.symm)
      constructor <;> intro h <;> omega)
   | (have hp : s = [] := by simpa using h28
      exact (decide_eq_false (fun h => by have := (hall.1 h).1; rw [hp] at this; simp at this)).symm)
theorem Index_one_sp (l : List UInt8) (c : UInt8) : SpF Tryz.prog 197 [vS l, vS [c]] (vI (Lib.indexByte l c)) :=
 SpF.of_same Tryz.call197 fun w => Tryz.stringslite_Index_one ⟨⟨l⟩⟩ c w
theorem Contains_one_sp (l : List UInt8) (c : UInt8) : SpF Tryz.prog 175 [vS l, vS [c]] (vB (decide (c ∈ l))) := by
 have e : decide (0 ≤ Lib.indexByte l c) = decide (c ∈ l) := decide_eq_decide.2 ⟨fun h => Classical.byContradiction fun hn => by have := index_neg.2 hn; omega, fun h => Classical.byContradiction fun hn => index_neg.1 (by omega) h⟩
 rw [← e]
 exact SpF.of_same Tryz.call175 fun w => Tryz.strings_Contains_one ⟨⟨l⟩⟩ c w
theorem TrimPrefix_sp (l p : List UInt8) : SpF Tryz.prog 68 [vS l, vS p] (vS (Lib.trimPrefix l p)) :=
 SpF.of_same Tryz.call68 fun w => Tryz.strings_TrimPrefix ⟨⟨l⟩⟩ ⟨⟨p⟩⟩ w
def cutV (d : UInt8) (s : Bs) : Value := .tuple #[vS (cutP d s).1, vS (cutP d s).2.1, vB (cutP d s).2.2]
theorem cutP_index (d : UInt8) (s : Bs) : (Lib.indexByte s d < 0 ∧ cutP d s = (s, [], false)) ∨ ∃ i : Nat, Lib.indexByte s d = (i : Int) ∧ i < s.length ∧ cutP d s = (s.take i, s.drop (i + 1), true) := by
 rw [indexByte_find]
 unfold cutP
 cases h : s.findIdx? (· == d) with
 | none => exact .inl ⟨by decide, rfl⟩
 | some i => exact .inr ⟨i, rfl, (List.findIdx?_eq_some_iff_getElem.1 h).1, rfl⟩
theorem liteCut_sp (s : Bs) (d : UInt8) (hs : s.length ≤ 1099511627776) : SpF Tryz.prog 170 [vS s, vS [d]] (cutV d s) := by
 have hx := index_neg (l := s) (c := d)
 have hc := cutP_index d s
 have hd1 : ([d] : Bs).length = 1 := rfl
 refine Sp.body (n := 23) Tryz.call170 Tryz.func170 rfl rfl rfl ?_
 refine p_seq rfl ?_
 refine p_region rfl ?_
 refine wo_pv (pv_assign rfl) rfl ?_
 refine wo_pv (pv_assign rfl) rfl ?_
 refine wo_pv (pv_assign rfl) rfl ?_
 refine q_seq ?_
 refine p_seq rfl ?_
 refine p_seq rfl ?_
 refine p_region rfl ?_
 refine wo_pv (pv_move rfl) rfl ?_
 refine wo_pv (pv_move rfl) rfl ?_
 refine r_callF (Index_one_sp s d) rfl rfl rfl ?_
 refine wo_pv (pv_assign rfl) rfl ?_
 refine q_seq ?_
 refine p_seq rfl ?_
 refine p_region rfl ?_
 refine wo_pv (pv_move rfl) rfl ?_
 refine wo_pv (pv_geq rfl rfl) rfl ?_
 refine q_seq ?_
 first | refine p_ite rfl rfl (fun h12 => ?_) (fun h12 => ?_) | refine p_cond rfl rfl (fun h12 => ?_) (fun h12 => ?_)
 ·
  obtain ⟨i, hi, hil, hcut⟩ := hc.resolve_left (fun h => by omega)
  rw [hi]
  refine p_seq rfl ?_
  refine d_draw rfl rfl rfl [] ?_
  refine d_first 0 rfl rfl rfl (by kernel_rfl) (by kernel_rfl) (tl_pv (pv_move rfl)) ?_
  refine d_first 1 rfl rfl rfl (by kernel_rfl) (by kernel_rfl) (tl_pv (pv_move rfl)) ?_
  refine d_first 2 rfl rfl rfl (by kernel_rfl) (by kernel_rfl) (tl_pv (pv_slice_tom (m := i) Tryz.underlying9 rfl rfl rfl (by omega))) ?_
  refine d_first 3 rfl rfl rfl (by kernel_rfl) (by kernel_rfl) (tl_pv (pv_move rfl)) ?_
  refine d_first 4 rfl rfl rfl (by kernel_rfl) (by kernel_rfl) (tl_pv (pv_move rfl)) ?_
  refine d_first 5 rfl rfl rfl (by kernel_rfl) (by kernel_rfl) (tl_pv (pv_move rfl)) ?_
  refine d_first 6 rfl rfl rfl (by kernel_rfl) (by kernel_rfl) (tl_pv (pv_call_len_s Tryz.underlying9 rfl)) ?_
  refine d_first 7 rfl rfl rfl (by kernel_rfl) (by kernel_rfl) (tl_pv (pv_add rfl rfl (by omega))) ?_
  refine d_first 8 rfl rfl rfl (by kernel_rfl) (by kernel_rfl) (tl_pv (pv_slice_fromm (m := i + 1) Tryz.underlying9 rfl rfl rfl (by omega))) ?_
  refine d_first 9 rfl rfl rfl (by kernel_rfl) (by kernel_rfl) (tl_pv (pv_assign rfl)) ?_
  refine d_first 10 rfl rfl rfl (by kernel_rfl) (by kernel_rfl) (tl_pv (pv_assign rfl)) ?_
  refine d_first 11 rfl rfl rfl (by kernel_rfl) (by kernel_rfl) (tl_pv (pv_assign rfl)) ?_
  refine d_done (by kernel_rfl) ?_
  refine t_seq ?_
  refine p_ret rfl ?_
  refine t_seq_ret ?_
  refine fin_ret () (vs := [_, _, _]) (Cs := []) rfl (.tmp rfl (.tmp rfl (.tmp rfl .nil))) ?_ trivial ent_nil
  rw [cutV, hcut]; rfl
 ·
  refine p_skip rfl ?_
  refine t_seq ?_
  refine p_seq rfl ?_
  refine p_region rfl ?_
  refine wo_pv (pv_move rfl) rfl ?_
  refine wo_pv (pv_assign rfl) rfl ?_
  refine wo_pv (pv_assign rfl) rfl ?_
  refine wo_pv (pv_assign rfl) rfl ?_
  refine q_seq ?_
  refine p_ret rfl ?_
  refine fin_ret () (vs := [_, _, _]) (Cs := []) rfl (.tmp rfl (.tmp rfl (.tmp rfl .nil))) ?_ trivial ent_nil
  rcases hc with ⟨_, hc⟩ | ⟨i, hi, _, _⟩
  · rw [cutV, hc]; rfl
  · omega
theorem Cut_sp (s : Bs) (d : UInt8) (hs : s.length ≤ 1099511627776) : SpF Tryz.prog 114 [vS s, vS [d]] (cutV d s) := by
 refine Sp.body (n := 13) Tryz.call114 Tryz.func114 rfl rfl rfl ?_
 refine p_seq rfl ?_
 refine p_region rfl ?_
 refine wo_pv (pv_assign rfl) rfl ?_
 refine wo_pv (pv_assign rfl) rfl ?_
 refine wo_pv (pv_assign rfl) rfl ?_
 refine q_seq ?_
 refine p_seq rfl ?_
 refine p_region rfl ?_
 refine wo_pv (pv_move rfl) rfl ?_
 refine wo_pv (pv_move rfl) rfl ?_
 refine r_callF (liteCut_sp s d hs) rfl rfl rfl ?_
 refine wo_pv (pv_extract (v := vS (cutP d s).1) rfl rfl) rfl ?_
 refine wo_pv (pv_extract rfl rfl) rfl ?_
 refine wo_pv (pv_extract rfl rfl) rfl ?_
 refine wo_pv (pv_assign rfl) rfl ?_
 refine wo_pv (pv_assign rfl) rfl ?_
 refine wo_pv (pv_assign rfl) rfl ?_
 refine q_seq ?_
 refine p_ret rfl ?_
 exact fin_ret () (vs := [_, _, _]) (Cs := []) rfl (.tmp rfl (.tmp rfl (.tmp rfl .nil))) rfl trivial ent_nil
/-! Words that blanks part. -/
theorem escape_Words_sp (s : Bs) : Sp Tryz.prog 115 [vS s] [] (X := Nat) (fun b => .func (.func 171) #[] #[.pointer (some ⟨b, 0, none⟩)]) (fun _ => True) (fun b => [Ce b 9 [vS s]]) := by
 refine Sp.body (n := 4) Tryz.call115 Tryz.func115 rfl rfl rfl ?_
 refine p_seq rfl ?_
 refine p_region rfl ?_
 refine wo_box (vs := [_]) rfl rfl rfl (fun b1 => ?_)
 refine wo_pv (pv_assign rfl) rfl ?_
 refine q_seq ?_
 refine p_seq rfl ?_
 refine p_region rfl ?_
 refine wo_pv (pv_makeFunc rfl rfl) rfl ?_
 refine wo_pv (pv_assign rfl) rfl ?_
 refine q_seq ?_
 refine p_ret rfl ?_
 refine fin_ret b1 (vs := [_]) (Cs := []) rfl (.tmp rfl .nil) rfl trivial ?_
 exact ent_pick
abbrev okW (s : Bs) : List Bs → Bs → Prop := fun pre w => ∃ r, splitB 32 s = pre ++ w :: r
abbrev stopW (s : Bs) : List Bs → Prop := fun pre => ∃ r, splitB 32 s = pre ++ r
theorem escape_Words_it (s : Bs) (hs : s.length ≤ 1099511627776) (b : Nat) :
    Iter Tryz.prog 171 [.pointer (some ⟨b, 0, none⟩)] (fun w : Bs => [vS w]) (okW s) (stopW s) [Ce b 9 [vS s]] [] (splitB 32 s) (fun _ => .tuple #[]) := by
 intro y J Jx ys
 refine Sp.body (n := 21) Tryz.call171 Tryz.func171 rfl rfl rfl ?_
 refine p_block 0 rfl ?_
 refine p_loop (fun (i : { x : List Bs × Bs // splitB 32 s = x.1 ++ splitB 32 x.2 ∧ x.2.length ≤ s.length }) => [(0, y), (1, .pointer (some ⟨b, 0, none⟩))]) (fun (i : { x : List Bs × Bs // splitB 32 s = x.1 ++ splitB 32 x.2 ∧ x.2.length ≤ s.length }) => [J i.1.1, Ce b 9 [vS i.1.2]]) (fun (i : { x : List Bs × Bs // splitB 32 s = x.1 ++ splitB 32 x.2 ∧ x.2.length ≤ s.length }) => i.1.2.length) rfl (⟨([], s), rfl, Nat.le_refl _⟩) ?_ ?_ (fun i => ?_)
 · exact ⟨rfl, rfl, trivial⟩
 ·
  exact Ent.refl _
 obtain ⟨⟨pre, t⟩, hpre, htl⟩ := i
 dsimp only at hpre htl ⊢
 try dsimp only
 refine p_block 1 rfl ?_
 refine p_seq rfl ?_
 have hcc : (∃ r, splitB 32 t = (cutP 32 t).1 :: r) ∧ ((cutP 32 t).2.2 = false → splitB 32 t = [(cutP 32 t).1]) ∧ ((cutP 32 t).2.2 = true → splitB 32 t = (cutP 32 t).1 :: splitB 32 (cutP 32 t).2.1 ∧ (cutP 32 t).2.1.length < t.length) := by
  rcases cutP_cases 32 t with ⟨hn, hc⟩ | ⟨x, r, he, hn, hc⟩
  · rw [hc, splitB_one hn]
    refine ⟨⟨[], rfl⟩, fun _ => rfl, ?_⟩
    intro h; cases h
  · rw [hc, he, splitB_cut hn]
    refine ⟨⟨_, rfl⟩, ?_, ?_⟩
    · intro h; cases h
    · intro _
      refine ⟨rfl, ?_⟩
      simp; omega
 generalize hw : (cutP 32 t).1 = w at hcc
 generalize hr : (cutP 32 t).2.1 = rest at hcc
 generalize hm : (cutP 32 t).2.2 = more at hcc
 obtain ⟨hc1, hc2, hc3⟩ := hcc
 refine p_region rfl ?_
 refine r_load Tryz.underlying9 rfl rfl rfl rfl ?_
 refine r_callF (Cut_sp t 32 (by omega)) rfl rfl rfl ?_
 rw [cutV]
 rw [hw, hr, hm]
 refine wo_pv (pv_move rfl) rfl ?_
 refine wo_pv (pv_extract (v := vS w) rfl rfl) rfl ?_
 refine wo_pv (pv_extract (v := vS rest) rfl rfl) rfl ?_
 refine wo_pv (pv_extract (v := vB more) rfl rfl) rfl ?_
 refine wo_pv (pv_assign rfl) rfl ?_
 refine wo_pv (pv_assign rfl) rfl ?_
 refine wo_pv (pv_assign rfl) rfl ?_
 refine q_seq ?_
 refine p_seq rfl ?_
 refine p_seq rfl ?_
 refine p_region rfl ?_
 refine wo_pv (pv_move rfl) rfl ?_
 refine wo_pv (pv_move rfl) rfl ?_
 refine r_yield ys pre w (by obtain ⟨r, hr⟩ := hc1; exact ⟨r, by rw [hpre, hr]⟩) rfl rfl rfl ?_ ?_
 ·
  refine wo_pv (by first | exact pv_notd rfl | exact pv_not rfl) rfl ?_
  refine wo_pv (pv_move rfl) rfl ?_
  refine wo_in (b := false) rfl ?_
  refine wo_pv (pv_move rfl) rfl ?_
  refine wo_in (b := false) rfl ?_
  refine wo_pv (by first | exact pv_notd rfl | exact pv_not rfl) rfl ?_
  refine wo_pv (pv_pick_f rfl rfl) rfl ?_
  refine q_seq ?_
  first | refine p_ite rfl rfl (fun h19 => ?_) (fun h19 => ?_) | refine p_cond rfl rfl (fun h19 => ?_) (fun h19 => ?_)
  ·
   refine p_ret rfl ?_
   refine t_seq_ret ?_
   refine to_block_ret ?_
   refine to_inv_ret ?_
   refine to_block_ret ?_
   first
   | (refine fin_ret (some (pre ++ [w])) (vs := []) (Cs := []) rfl .nil rfl (fun p e => by cases e; obtain ⟨r, hr⟩ := hc1; exact ⟨r, by rw [hpre, hr]; simp⟩) ?_
      simp only [endsAt]
      exact ent_pick)
   | (have hall : splitB 32 s = pre ++ [w] := by rw [hpre, hc2 (by simpa using h19)]
      refine fin_ret none (vs := []) (Cs := []) rfl .nil rfl (fun p e => by cases e) ?_
      simp only [endsAt]
      rw [hall]
      exact ent_pick)
  ·
   refine p_skip rfl ?_
   refine t_seq ?_
   refine p_region rfl ?_
   refine wo_pv (pv_move rfl) rfl ?_
   refine r_store ti9 rfl rfl rfl rfl (by simp; try omega) ?_
   refine wo_nil ?_
   refine to_block ?_
   obtain ⟨h1, h2⟩ := hc3 (by simp_all)
   refine to_inv ⟨(pre ++ [w], rest), ?_, ?_⟩ ?_ ⟨rfl, rfl, trivial⟩ ent_pick
   · dsimp only; rw [hpre, h1]; simp
   · dsimp only; omega
   · dsimp only; omega
 ·
  refine wo_pv (by first | exact pv_notd rfl | exact pv_not rfl) rfl ?_
  refine wo_pv (pv_move rfl) rfl ?_
  refine wo_out (b := true) rfl rfl rfl ?_
  refine wo_out (b := true) rfl rfl rfl ?_
  refine wo_pv (pv_pick_t rfl rfl) rfl ?_
  refine q_seq ?_
  refine p_true rfl rfl ?_
  refine p_ret rfl ?_
  refine t_seq_ret ?_
  refine to_block_ret ?_
  refine to_inv_ret ?_
  refine to_block_ret ?_
  first
  | (refine fin_ret (some (pre ++ [w])) (vs := []) (Cs := []) rfl .nil rfl (fun p e => by cases e; obtain ⟨r, hr⟩ := hc1; exact ⟨r, by rw [hpre, hr]; simp⟩) ?_
     simp only [endsAt]
     exact ent_pick)
  | (have hall : splitB 32 s = pre ++ [w] := by rw [hpre, hc2 (by simpa using h19)]
     refine fin_ret none (vs := []) (Cs := []) rfl .nil rfl (fun p e => by cases e) ?_
     simp only [endsAt]
     rw [hall]
     exact ent_pick)
end Go.Proofs.YtibccdcemcgkeaaGreat
end
