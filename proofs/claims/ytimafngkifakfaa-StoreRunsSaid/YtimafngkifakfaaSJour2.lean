/- Package journal: Open. -/
import Derived.Test.YtimafngkifakfaaSJour
set_option linter.unusedVariables false
set_option maxRecDepth 100000
set_option linter.unusedSimpArgs false
namespace Go.Proofs.Ytimafngkifakfaa

/-- On the way through a disk's sectors. -/
def OpenI (p j b3 b4 : Nat) (D : Dk) (fin : Bool) (k : Nat) : HP :=
  Ex fun a : Option Addr => Ex fun c : Nat => Ex fun t : Bs => Ex fun l : List Bs => Ex fun e : Nat => Al [Pu ((if fin = true then (l, e) = scanD D else scanS (D.secs.drop k) k t l e = scanD D) ∧ t.length ≤ 30 * k ∧ l.length ≤ e ∧ e ≤ k),
    Ce b3 65 [.pointer (some ⟨j, 0, none⟩)], Ce b4 9 [vS t], Ce j 111 [.pointer (some ⟨p, 0, none⟩), .slice a l.length c, vI e, vB false], Row 9 1 (.slice a l.length c) l.length (l.map vS)]
theorem fold_OpenI {p j b3 b4 : Nat} {D : Dk} {fin : Bool} {k : Nat} (t : Bs) (l : List Bs) (e : Nat) (h : (if fin = true then (l, e) = scanD D else scanS (D.secs.drop k) k t l e = scanD D) ∧ t.length ≤ 30 * k ∧ l.length ≤ e ∧ e ≤ k)
    {T3 T4 T er sz n : Nat} {u3 u4 w0 w1 w2 w3 : Value} {xs : List Value} {Hs R1 R2 R3 Rs : List HP} [q3 : OwnC b3 T3 [u3] Hs R1] [q4 : OwnC b4 T4 [u4] R1 R2] [qj : OwnC j T [w0, w1, w2, w3] R2 R3] [qr : RowC w1 er sz n xs R3 Rs]
    (hT : T3 = 65 ∧ T4 = 9 ∧ T = 111 ∧ er = 9 ∧ sz = 1) (e3 : u3 = .pointer (some ⟨j, 0, none⟩)) (e4 : u4 = vS t) (f0 : w0 = .pointer (some ⟨p, 0, none⟩)) (f1 : ∃ a c, w1 = .slice a l.length c) (f2 : w2 = vI e) (f3 : w3 = vB false) (hn : n = l.length) (hx : xs = l.map vS) :
    Ent Hs (OpenI p j b3 b4 D fin k :: Rs) := by
  obtain ⟨a, c, rfl⟩ := f1
  obtain ⟨rfl, rfl, rfl, rfl, rfl⟩ := hT
  subst e3; subst e4; subst f0; subst f2; subst f3; subst hn; subst hx
  refine ent_ex a ?_
  refine ent_ex c ?_
  refine ent_ex t ?_
  refine ent_ex l ?_
  refine ent_ex e ?_
  refine ent_al (ent_pu h ?_)
  exact ent_step (ent_pick1 q3.get) (ent_step (ent_pick1 q4.get) (ent_step (ent_pick1 qj.get) (ent_pick1 qr.get)))
theorem openI_more {p j b3 b4 : Nat} {D : Dk} {fin fin' : Bool} {k k' : Nat} {Hs : List HP} (h : ∀ t l e, (if fin = true then (l, e) = scanD D else scanS (D.secs.drop k) k t l e = scanD D) → (if fin' = true then (l, e) = scanD D else scanS (D.secs.drop k') k' t l e = scanD D)) (hk : k ≤ k') : Ent (OpenI p j b3 b4 D fin k :: Hs) (OpenI p j b3 b4 D fin' k' :: Hs) := by
  refine ent_left fun a => ent_left fun c => ent_left fun t => ent_left fun l => ent_left fun e => ent_leftAl (ent_leftPu fun hq => ?_)
  exact fold_OpenI t l e ⟨h t l e hq.1, by omega, hq.2.2.1, by omega⟩ (by exact ⟨rfl, rfl, rfl, rfl, rfl⟩) (by rfl) (by rfl) (by rfl) (by exact ⟨a, c, rfl⟩) (by rfl) (by rfl) (by rfl) (by rfl)
theorem ok_len {p : Nat} {D : Dk} {M : Kn} {h : Res} (x : (IsD p D).at_ M h) : D.Ok := by
  obtain ⟨a, c, h1, h2, d, e, x1, _⟩ := x
  exact x1
theorem byte_eq (x : UInt8) (n : Nat) (hn : n < 256) : ((x.toNat : Int) = (n : Int)) ↔ x = UInt8.ofNat n := by
  constructor
  · intro h
    have h2 : x.toNat = n := by omega
    rw [← h2]; simp
  · intro h
    subst h
    simp [Nat.mod_eq_of_lt hn]
theorem journal_Open_sp (p : Nat) (D : Dk) : Sp Try.prog 35 [.pointer (some ⟨p, 0, none⟩)] [IsD p D] (X := Nat) (fun q => .pointer (some ⟨q, 0, none⟩)) (fun _ => True) (fun q => [IsJ q p (openJ D), IsD p D]) := by
  refine Sp.body (n := 50) Try.call35 Try.func35 rfl rfl rfl ?_
  refine wc_know (A := IsD p D) .here ok_len (fun ok => ?_)
  have hm := ok.many
  refine p_seq rfl ?_
  refine p_region rfl ?_
  refine wo_pv (pv_assign rfl) rfl ?_
  refine q_seq ?_
  refine p_scope2 rfl ?_
  refine p_seq rfl ?_
  refine p_region rfl ?_
  refine wo_pv (pv_move rfl) rfl ?_
  refine wo_pv (pv_buildS (vs := [_, .slice none 0 0, .int .i64 0, .bool false]) Try.underlying111 ti111 rfl rfl rfl rfl rfl) rfl ?_
  refine wo_box (vs := [_, _, _, _]) rfl rfl rfl (fun b11 => ?_)
  refine wo_alloc (zs := [.pointer none]) ti65 rfl rfl rfl (fun b3 => ?_)
  refine r_store ti65 rfl rfl rfl rfl (by simp; try omega) ?_
  refine q_seq ?_
  refine p_seq rfl ?_
  refine p_region rfl ?_
  refine wo_alloc (zs := [vS []]) ti9 rfl rfl rfl (fun b4 => ?_)
  refine r_store ti9 rfl rfl rfl rfl (by simp; try omega) ?_
  refine q_seq ?_
  refine p_seq rfl ?_
  refine p_label rfl ?_
  refine t_seq ?_
  refine p_seq rfl ?_
  refine p_seq rfl ?_
  refine p_region rfl ?_
  refine wo_pv (pv_move rfl) rfl ?_
  refine r_callX (disk_All_sp p D) rfl rfl rfl (fun x13 hx13 => ?_)
  refine q_seq ?_
  refine p_block 0 rfl ?_
  refine p_rangeFunc (fun pre => [IsD p D, OpenI p b11 b3 b4 D false pre.length]) (fun j pre => match j with | some 0 => [IsD p D, OpenI p b11 b3 b4 D true pre.length] | _ => [Pu False]) rfl (slices_All_it (B := SlI x13.2.1 (D.secs.map vS)) D.secs.length x13.2.2 x13.1 D.secs sla_sli rfl (by omega)) rfl (fun _ => by rfl) rfl ?_ (fun l pre i hok => ?_) ?_ (fun j pre hs => ?_)
  · (refine ent_app ?_; refine ent_cons ?_; refine Ent.trans (row_nil (e := 9) (sz := 1)) ?_; refine ent_step (fold_OpenI [] [] 0 ⟨(by rfl), (by simp), (by simp), (by simp)⟩ (by exact ⟨rfl, rfl, rfl, rfl, rfl⟩) (by rfl) (by rfl) (by rfl) (by exact ⟨none, 0, rfl⟩) (by rfl) (by rfl) (by rfl) (by rfl)) ?_; exact ent_pick)
  · -- a round
    obtain ⟨hi, hlt⟩ := hok
    have hs32 : (D.secs.getD i []).length = 32 := by
      have e : D.secs.getD i [] = D.secs[i] := by simp [hlt]
      rw [e]; exact ok.secs _ (List.getElem_mem _)
    refine wc_front (OpenI p b11 b3 b4 D false pre.length) (wc_exi fun a => wc_exi fun c => wc_exi fun t => wc_exi fun l => wc_exi fun e => wc_al (wc_pu fun hq => ?_))
    rw [if_neg (by simp), ← hi] at hq
    obtain ⟨hsc, htl, hle, hei⟩ := hq
    have hst := scanS_step hlt t l e
    rw [hsc] at hst
    refine p_seq rfl ?_
    refine p_region rfl ?_
    refine wo_pv (pv_assign rfl) rfl ?_
    refine q_seq ?_
    refine p_region rfl ?_
    refine wo_pv (pv_assign rfl) rfl ?_
    refine q_asg ?_
    refine p_block 1 rfl ?_
    refine p_seq rfl ?_
    refine d_draw rfl rfl rfl [] ?_
    refine d_first 0 rfl rfl rfl (by kernel_rfl) (by kernel_rfl) (tl_pv (pv_move rfl)) ?_
    refine d_first 1 rfl rfl rfl (by kernel_rfl) (by kernel_rfl) (tl_pv (pv_indexm (m := 0) Try.underlying9 rfl rfl rfl (by omega))) ?_
    refine d_first 2 rfl rfl rfl (by kernel_rfl) (by kernel_rfl) (tl_pv (pv_conv_in rfl Try.underlying5 Try.underlying3 (by first | exact wrap_byte _ | exact wrap_u8 _ | exact i64_in' (by omega)))) ?_
    refine d_first 3 rfl rfl rfl (by kernel_rfl) (by kernel_rfl) (tl_pv (pv_move rfl)) ?_
    refine d_first 4 rfl rfl rfl (by kernel_rfl) (by kernel_rfl) (tl_pv (pv_indexm (m := 31) Try.underlying9 rfl rfl rfl (by omega))) ?_
    refine d_first 5 rfl rfl rfl (by kernel_rfl) (by kernel_rfl) (tl_pv (pv_assign rfl)) ?_
    refine d_first 6 rfl rfl rfl (by kernel_rfl) (by kernel_rfl) (tl_pv (pv_assign rfl)) ?_
    refine d_done (by kernel_rfl) ?_
    refine t_seq ?_
    refine p_seq rfl ?_
    refine p_seq rfl ?_
    refine p_region rfl ?_
    refine wo_pv (pv_move rfl) rfl ?_
    refine wo_pv (pv_gtr rfl rfl) rfl ?_
    refine q_seq ?_
    first | refine p_ite rfl rfl (fun h22 => ?_) (fun h22 => ?_) | refine p_cond rfl rfl (fun h22 => ?_) (fun h22 => ?_)
    · -- t22 True
      refine p_exit 0 rfl ?_
      refine t_seq_exit ?_
      refine to_block_other rfl ?_
      refine to_round_exit 0 ?_
      have hfin : (l, e) = scanD D := by
        rw [hst]
        by_cases hh : 30 < ((D.secs.getD i []).getD 0 0).toNat
        · rw [if_pos hh]
        · first
          | (exfalso; omega)
          | rw [if_neg hh, if_neg (show ¬ ((D.secs.getD i []).getD 31 0 = 1) from fun h => h30 ((byte_eq _ 1 (by omega)).2 h)), if_neg (show ¬ ((D.secs.getD i []).getD 31 0 = 2) from fun h => h32 ((byte_eq _ 2 (by omega)).2 h))]
      show Ent _ [IsD p D, OpenI p b11 b3 b4 D true (pre ++ [i]).length]
      rw [List.length_append, List.length_singleton, ← hi]
      first
      | exact ent_cons (ent_step (fold_OpenI t l e ⟨by rw [if_pos rfl]; exact hfin, by omega, hle, by omega⟩ (by exact ⟨rfl, rfl, rfl, rfl, rfl⟩) (by rfl) (by rfl) (by rfl) (by exact ⟨_, _, rfl⟩) (by rfl) (by rfl) (by rfl) (by rfl)) ent_nil)
      | exact ent_cons (ent_step (fold_OpenI (t ++ ((D.secs.getD i []).drop 1).take ((D.secs.getD i []).getD 0 0).toNat) l e ⟨by rw [if_pos rfl]; exact hfin, by simp only [List.length_append, List.length_take]; omega, hle, by omega⟩ (by exact ⟨rfl, rfl, rfl, rfl, rfl⟩) (by rfl) (by rfl) (by rfl) (by exact ⟨_, _, rfl⟩) (by rfl) (by rfl) (by rfl) (by rfl)) ent_nil)
    · -- t22 False
      refine p_skip rfl ?_
      refine t_seq ?_
      refine p_seq rfl ?_
      refine d_draw rfl rfl rfl [] ?_
      refine d_first 1 rfl rfl rfl (by kernel_rfl) (by kernel_rfl) (tl_pv (pv_move rfl)) ?_
      refine d_first 2 rfl rfl rfl (by kernel_rfl) (by kernel_rfl) (tl_pv (pv_move rfl)) ?_
      refine d_first 3 rfl rfl rfl (by kernel_rfl) (by kernel_rfl) (tl_pv (pv_add rfl rfl (by omega))) ?_
      refine d_first 4 rfl rfl rfl (by kernel_rfl) (by kernel_rfl) (tl_pv (pv_slice_inm (m := 1) (o := 1 + ((D.secs.getD i []).getD 0 0).toNat) Try.underlying9 rfl rfl rfl rfl (by omega) (by omega) (by omega))) ?_
      refine d_next 0 (by kernel_rfl) rfl ?_
      refine an_load Try.underlying9 rfl rfl rfl rfl ?_
      refine d_first 5 rfl rfl rfl (by kernel_rfl) (by kernel_rfl) (tl_pv (pv_cat rfl rfl (by first | (simp only [List.length_append, List.length_take, List.length_drop, List.length_cons, List.length_nil]; omega) | (simp; try omega)))) ?_
      refine d_next 6 (by kernel_rfl) rfl ?_
      refine an_store ti9 rfl rfl rfl rfl (by simp; try omega) ?_
      refine d_done (by kernel_rfl) ?_
      rw [Nat.add_sub_cancel_left]
      refine t_seq ?_
      refine p_seq rfl ?_
      refine p_region rfl ?_
      refine wo_pv (pv_move rfl) rfl ?_
      refine q_seq ?_
      refine p_block 2 rfl ?_
      refine p_seq rfl ?_
      refine p_region rfl ?_
      refine wo_pv (pv_eql rfl rfl) rfl ?_
      refine wo_pv (pv_assign rfl) rfl ?_
      refine q_seq ?_
      first | refine p_ite rfl rfl (fun h30 => ?_) (fun h30 => ?_) | refine p_cond rfl rfl (fun h30 => ?_) (fun h30 => ?_)
      · -- t30 True
        refine p_skip rfl ?_
        refine to_block ?_
        refine to_block ?_
        refine to_round ?_
        rw [List.length_append, List.length_singleton, ← hi]
        rw [if_neg (by omega)] at hst
        first
        | (rw [if_pos (show (D.secs.getD i []).getD 31 0 = 1 from (byte_eq _ 1 (by omega)).1 h30)] at hst
           exact ent_cons (ent_step (fold_OpenI (t ++ ((D.secs.getD i []).drop 1).take ((D.secs.getD i []).getD 0 0).toNat) l e ⟨by rw [if_neg (by simp)]; exact hst.symm, by simp only [List.length_append, List.length_take]; omega, hle, by omega⟩ (by exact ⟨rfl, rfl, rfl, rfl, rfl⟩) (by rfl) (by rfl) (by rfl) (by exact ⟨_, _, rfl⟩) (by rfl) (by rfl) (by rfl) (by rfl)) ent_nil))
        | (rw [if_neg (show ¬ ((D.secs.getD i []).getD 31 0 = 1) from fun h => h30 ((byte_eq _ 1 (by omega)).2 h)), if_pos (show (D.secs.getD i []).getD 31 0 = 2 from (byte_eq _ 2 (by omega)).1 h32)] at hst
           exact ent_cons (ent_step (fold_OpenI [] (l ++ [t ++ ((D.secs.getD i []).drop 1).take ((D.secs.getD i []).getD 0 0).toNat]) (i + 1) ⟨by rw [if_neg (by simp)]; exact hst.symm, by simp, by simp only [List.length_append, List.length_singleton]; omega, by omega⟩ (by exact ⟨rfl, rfl, rfl, rfl, rfl⟩) (by rfl) (by rfl) (by rfl) (by exact ⟨_, _, by rw [List.length_append, List.length_singleton]⟩) (by rw [show ((i + 1 : Nat) : Int) = (i : Int) + 1 from by omega]) (by rfl) (by rw [List.length_append, List.length_singleton]) (by rw [List.map_append]; rfl)) ent_nil))
      · -- t30 False
        refine p_seq rfl ?_
        refine p_region rfl ?_
        refine wo_pv (pv_eql rfl rfl) rfl ?_
        refine wo_pv (pv_assign rfl) rfl ?_
        refine q_seq ?_
        first | refine p_ite rfl rfl (fun h32 => ?_) (fun h32 => ?_) | refine p_cond rfl rfl (fun h32 => ?_) (fun h32 => ?_)
        · -- t32 True
          refine p_seq rfl ?_
          refine d_draw rfl rfl rfl [Ce b3 65 [.pointer (some ⟨b11, 0, none⟩)], Ce b4 9 [vS (t ++ ((D.secs.getD i []).drop 1).take ((D.secs.getD i []).getD 0 0).toNat)]] ?_
          refine d_first 0 rfl rfl rfl (by kernel_rfl) (by kernel_rfl) (tl_load Try.underlying65 rfl rfl rfl) ?_
          refine d_first 1 rfl rfl rfl (by kernel_rfl) (by kernel_rfl) (tl_load Try.underlying65 rfl rfl rfl) ?_
          refine d_first 2 rfl rfl rfl (by kernel_rfl) (by kernel_rfl) (tl_pv (by first | exact pv_nilCheck_p rfl | exact pv_nilCheck_f rfl)) ?_
          refine d_first 3 rfl rfl rfl (by kernel_rfl) (by kernel_rfl) (tl_pv (pv_fieldAddrk Try.underlying111 rfl ti46 rfl rfl (k := 1) rfl (by first | exact Nat.zero_add _ | exact Nat.add_zero _ | exact rfl))) ?_
          refine d_first 5 rfl rfl rfl (by kernel_rfl) (by kernel_rfl) (tl_load Try.underlying9 rfl rfl rfl) ?_
          refine d_next2 4 6 (by kernel_rfl) rfl rfl ?_ ?_
          · -- op 4
            refine an_load Try.underlying46 rfl rfl rfl rfl ?_
            refine d_next 6 (by kernel_rfl) rfl ?_
            refine an_buildSliceL [_] (cs := [_]) Try.underlying46 ti9 rfl rfl rfl rfl rfl rfl rfl rfl (fun b40 => ?_)
            refine d_next 7 (by kernel_rfl) rfl ?_
            refine an_append1 (sz := 1) (bytes := 16) Try.underlying46 ti9 rfl rfl rfl rfl rfl rfl rfl (by rfl) (by rfl) (by omega) (by simp only [maxLen]; omega) rfl (fun a41 c41 => ?_)
            refine d_first 8 rfl rfl rfl (by kernel_rfl) (by kernel_rfl) (tl_pv (by first | exact pv_nilCheck_p rfl | exact pv_nilCheck_f rfl)) ?_
            refine d_first 9 rfl rfl rfl (by kernel_rfl) (by kernel_rfl) (tl_pv (pv_fieldAddrk Try.underlying111 rfl ti46 rfl rfl (k := 1) rfl (by first | exact Nat.zero_add _ | exact Nat.add_zero _ | exact rfl))) ?_
            refine d_next 10 (by kernel_rfl) rfl ?_
            refine an_store ti46 rfl rfl rfl rfl (by simp; try omega) ?_
            refine d_done (by kernel_rfl) ?_
            refine t_seq ?_
            refine d_draw rfl rfl rfl [Ce b3 65 [.pointer (some ⟨b11, 0, none⟩)]] ?_
            refine d_first 0 rfl rfl rfl (by kernel_rfl) (by kernel_rfl) (tl_load Try.underlying65 rfl rfl rfl) ?_
            refine d_first 1 rfl rfl rfl (by kernel_rfl) (by kernel_rfl) (tl_pv (pv_move rfl)) ?_
            refine d_first 2 rfl rfl rfl (by kernel_rfl) (by kernel_rfl) (tl_pv (pv_add rfl rfl (by omega))) ?_
            refine d_next 3 (by kernel_rfl) rfl ?_
            refine an_store ti9 rfl rfl rfl rfl (by simp; try omega) ?_
            refine d_first 4 rfl rfl rfl (by kernel_rfl) (by kernel_rfl) (tl_pv (by first | exact pv_nilCheck_p rfl | exact pv_nilCheck_f rfl)) ?_
            refine d_first 5 rfl rfl rfl (by kernel_rfl) (by kernel_rfl) (tl_pv (pv_fieldAddrk Try.underlying111 rfl ti3 rfl rfl (k := 2) rfl (by first | exact Nat.zero_add _ | exact Nat.add_zero _ | exact rfl))) ?_
            refine d_next 6 (by kernel_rfl) rfl ?_
            refine an_store ti3 rfl rfl rfl rfl (by simp; try omega) ?_
            refine d_done (by kernel_rfl) ?_
            refine to_block ?_
            refine to_block ?_
            refine to_round ?_
            rw [List.length_append, List.length_singleton, ← hi]
            rw [if_neg (by omega)] at hst
            first
            | (rw [if_pos (show (D.secs.getD i []).getD 31 0 = 1 from (byte_eq _ 1 (by omega)).1 h30)] at hst
               exact ent_cons (ent_step (fold_OpenI (t ++ ((D.secs.getD i []).drop 1).take ((D.secs.getD i []).getD 0 0).toNat) l e ⟨by rw [if_neg (by simp)]; exact hst.symm, by simp only [List.length_append, List.length_take]; omega, hle, by omega⟩ (by exact ⟨rfl, rfl, rfl, rfl, rfl⟩) (by rfl) (by rfl) (by rfl) (by exact ⟨_, _, rfl⟩) (by rfl) (by rfl) (by rfl) (by rfl)) ent_nil))
            | (rw [if_neg (show ¬ ((D.secs.getD i []).getD 31 0 = 1) from fun h => h30 ((byte_eq _ 1 (by omega)).2 h)), if_pos (show (D.secs.getD i []).getD 31 0 = 2 from (byte_eq _ 2 (by omega)).1 h32)] at hst
               exact ent_cons (ent_step (fold_OpenI [] (l ++ [t ++ ((D.secs.getD i []).drop 1).take ((D.secs.getD i []).getD 0 0).toNat]) (i + 1) ⟨by rw [if_neg (by simp)]; exact hst.symm, by simp, by simp only [List.length_append, List.length_singleton]; omega, by omega⟩ (by exact ⟨rfl, rfl, rfl, rfl, rfl⟩) (by rfl) (by rfl) (by rfl) (by exact ⟨_, _, by rw [List.length_append, List.length_singleton]⟩) (by rw [show ((i + 1 : Nat) : Int) = (i : Int) + 1 from by omega]) (by rfl) (by rw [List.length_append, List.length_singleton]) (by rw [List.map_append]; rfl)) ent_nil))
          · -- op 6
            refine an_buildSliceL [_] (cs := [_]) Try.underlying46 ti9 rfl rfl rfl rfl rfl rfl rfl rfl (fun b40 => ?_)
            refine d_next 4 (by kernel_rfl) rfl ?_
            refine an_load Try.underlying46 rfl rfl rfl rfl ?_
            refine d_next 7 (by kernel_rfl) rfl ?_
            refine an_append1 (sz := 1) (bytes := 16) Try.underlying46 ti9 rfl rfl rfl rfl rfl rfl rfl (by rfl) (by rfl) (by omega) (by simp only [maxLen]; omega) rfl (fun a41 c41 => ?_)
            refine d_first 8 rfl rfl rfl (by kernel_rfl) (by kernel_rfl) (tl_pv (by first | exact pv_nilCheck_p rfl | exact pv_nilCheck_f rfl)) ?_
            refine d_first 9 rfl rfl rfl (by kernel_rfl) (by kernel_rfl) (tl_pv (pv_fieldAddrk Try.underlying111 rfl ti46 rfl rfl (k := 1) rfl (by first | exact Nat.zero_add _ | exact Nat.add_zero _ | exact rfl))) ?_
            refine d_next 10 (by kernel_rfl) rfl ?_
            refine an_store ti46 rfl rfl rfl rfl (by simp; try omega) ?_
            refine d_done (by kernel_rfl) ?_
            refine t_seq ?_
            refine d_draw rfl rfl rfl [Ce b3 65 [.pointer (some ⟨b11, 0, none⟩)]] ?_
            refine d_first 0 rfl rfl rfl (by kernel_rfl) (by kernel_rfl) (tl_load Try.underlying65 rfl rfl rfl) ?_
            refine d_first 1 rfl rfl rfl (by kernel_rfl) (by kernel_rfl) (tl_pv (pv_move rfl)) ?_
            refine d_first 2 rfl rfl rfl (by kernel_rfl) (by kernel_rfl) (tl_pv (pv_add rfl rfl (by omega))) ?_
            refine d_next 3 (by kernel_rfl) rfl ?_
            refine an_store ti9 rfl rfl rfl rfl (by simp; try omega) ?_
            refine d_first 4 rfl rfl rfl (by kernel_rfl) (by kernel_rfl) (tl_pv (by first | exact pv_nilCheck_p rfl | exact pv_nilCheck_f rfl)) ?_
            refine d_first 5 rfl rfl rfl (by kernel_rfl) (by kernel_rfl) (tl_pv (pv_fieldAddrk Try.underlying111 rfl ti3 rfl rfl (k := 2) rfl (by first | exact Nat.zero_add _ | exact Nat.add_zero _ | exact rfl))) ?_
            refine d_next 6 (by kernel_rfl) rfl ?_
            refine an_store ti3 rfl rfl rfl rfl (by simp; try omega) ?_
            refine d_done (by kernel_rfl) ?_
            refine to_block ?_
            refine to_block ?_
            refine to_round ?_
            rw [List.length_append, List.length_singleton, ← hi]
            rw [if_neg (by omega)] at hst
            first
            | (rw [if_pos (show (D.secs.getD i []).getD 31 0 = 1 from (byte_eq _ 1 (by omega)).1 h30)] at hst
               exact ent_cons (ent_step (fold_OpenI (t ++ ((D.secs.getD i []).drop 1).take ((D.secs.getD i []).getD 0 0).toNat) l e ⟨by rw [if_neg (by simp)]; exact hst.symm, by simp only [List.length_append, List.length_take]; omega, hle, by omega⟩ (by exact ⟨rfl, rfl, rfl, rfl, rfl⟩) (by rfl) (by rfl) (by rfl) (by exact ⟨_, _, rfl⟩) (by rfl) (by rfl) (by rfl) (by rfl)) ent_nil))
            | (rw [if_neg (show ¬ ((D.secs.getD i []).getD 31 0 = 1) from fun h => h30 ((byte_eq _ 1 (by omega)).2 h)), if_pos (show (D.secs.getD i []).getD 31 0 = 2 from (byte_eq _ 2 (by omega)).1 h32)] at hst
               exact ent_cons (ent_step (fold_OpenI [] (l ++ [t ++ ((D.secs.getD i []).drop 1).take ((D.secs.getD i []).getD 0 0).toNat]) (i + 1) ⟨by rw [if_neg (by simp)]; exact hst.symm, by simp, by simp only [List.length_append, List.length_singleton]; omega, by omega⟩ (by exact ⟨rfl, rfl, rfl, rfl, rfl⟩) (by rfl) (by rfl) (by rfl) (by exact ⟨_, _, by rw [List.length_append, List.length_singleton]⟩) (by rw [show ((i + 1 : Nat) : Int) = (i : Int) + 1 from by omega]) (by rfl) (by rw [List.length_append, List.length_singleton]) (by rw [List.map_append]; rfl)) ent_nil))
        · -- t32 False
          refine p_exit 0 rfl ?_
          refine to_block_other rfl ?_
          refine to_block_other rfl ?_
          refine to_round_exit 0 ?_
          have hfin : (l, e) = scanD D := by
            rw [hst]
            by_cases hh : 30 < ((D.secs.getD i []).getD 0 0).toNat
            · rw [if_pos hh]
            · first
              | (exfalso; omega)
              | rw [if_neg hh, if_neg (show ¬ ((D.secs.getD i []).getD 31 0 = 1) from fun h => h30 ((byte_eq _ 1 (by omega)).2 h)), if_neg (show ¬ ((D.secs.getD i []).getD 31 0 = 2) from fun h => h32 ((byte_eq _ 2 (by omega)).2 h))]
          show Ent _ [IsD p D, OpenI p b11 b3 b4 D true (pre ++ [i]).length]
          rw [List.length_append, List.length_singleton, ← hi]
          first
          | exact ent_cons (ent_step (fold_OpenI t l e ⟨by rw [if_pos rfl]; exact hfin, by omega, hle, by omega⟩ (by exact ⟨rfl, rfl, rfl, rfl, rfl⟩) (by rfl) (by rfl) (by rfl) (by exact ⟨_, _, rfl⟩) (by rfl) (by rfl) (by rfl) (by rfl)) ent_nil)
          | exact ent_cons (ent_step (fold_OpenI (t ++ ((D.secs.getD i []).drop 1).take ((D.secs.getD i []).getD 0 0).toNat) l e ⟨by rw [if_pos rfl]; exact hfin, by simp only [List.length_append, List.length_take]; omega, hle, by omega⟩ (by exact ⟨rfl, rfl, rfl, rfl, rfl⟩) (by rfl) (by rfl) (by rfl) (by exact ⟨_, _, rfl⟩) (by rfl) (by rfl) (by rfl) (by rfl)) ent_nil)
  · -- behind
    rw [List.length_range]
    refine tw_ent (Gs := [OpenI p b11 b3 b4 D false D.secs.length, IsD p D]) ent_pick ?_
    refine tw_ent (openI_more (fin' := true) (fun t l e h => by rw [if_neg (by simp), List.drop_length, scanS] at h; rw [if_pos rfl]; exact h) (Nat.le_refl _)) ?_
    refine to_block ?_
    refine t_seq ?_
    refine p_seq rfl ?_
    refine wc_front (OpenI p b11 b3 b4 D true D.secs.length) (wc_exi fun a => wc_exi fun c => wc_exi fun t => wc_exi fun l => wc_exi fun e => wc_al (wc_pu fun hq => ?_))
    rw [if_pos rfl] at hq
    refine p_region rfl ?_
    refine r_load Try.underlying65 rfl rfl rfl rfl ?_
    refine wo_pv (pv_assign rfl) rfl ?_
    refine q_seq ?_
    refine p_ret rfl ?_
    refine t_scope_ret ?_
    refine fin_ret b11 (vs := [_]) (Cs := []) rfl (.tmp rfl .nil) rfl trivial ?_
    have h1 : l = (openJ D).l := congrArg Prod.fst hq.1
    have h2 : e = (openJ D).e := congrArg Prod.snd hq.1
    exact ent_step (fold_isJ (openJ D) (by rfl) (by exact ⟨rfl, rfl⟩) (by rfl) (by exact ⟨a, c, by rw [h1]⟩) (by rw [h2]) (by rfl) (by rw [h1]) (by rw [h1])) ent_pick
  · -- stopped
    obtain ⟨m, _, hm2, rfl⟩ := hs
    rcases j with _ | _ | j
    · exact wc_no (fun s => by obtain ⟨_, _, _, _, a, _⟩ := s; exact a)
    · rw [List.length_range]
      refine wc_ent0 (Gs := [OpenI p b11 b3 b4 D true m, IsD p D]) (show Ent ([IsD p D, OpenI p b11 b3 b4 D true m] ++ _) _ from ent_pick) ?_
      refine wc_ent0 (openI_more (fin' := true) (k' := D.secs.length) (fun t l e h => h) hm2) ?_
      refine p_exit 0 rfl ?_
      refine to_block_here ?_
      refine t_seq ?_
      refine p_seq rfl ?_
      refine wc_front (OpenI p b11 b3 b4 D true D.secs.length) (wc_exi fun a => wc_exi fun c => wc_exi fun t => wc_exi fun l => wc_exi fun e => wc_al (wc_pu fun hq => ?_))
      rw [if_pos rfl] at hq
      refine p_region rfl ?_
      refine r_load Try.underlying65 rfl rfl rfl rfl ?_
      refine wo_pv (pv_assign rfl) rfl ?_
      refine q_seq ?_
      refine p_ret rfl ?_
      refine t_scope_ret ?_
      refine fin_ret b11 (vs := [_]) (Cs := []) rfl (.tmp rfl .nil) rfl trivial ?_
      have h1 : l = (openJ D).l := congrArg Prod.fst hq.1
      have h2 : e = (openJ D).e := congrArg Prod.snd hq.1
      exact ent_step (fold_isJ (openJ D) (by rfl) (by exact ⟨rfl, rfl⟩) (by rfl) (by exact ⟨a, c, by rw [h1]⟩) (by rw [h2]) (by rfl) (by rw [h1]) (by rw [h1])) ent_pick
    · exact wc_no (fun s => by obtain ⟨_, _, _, _, a, _⟩ := s; exact a)
end Go.Proofs.Ytimafngkifakfaa
