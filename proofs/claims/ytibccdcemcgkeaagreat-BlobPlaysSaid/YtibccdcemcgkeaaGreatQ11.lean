/- Texts of this proof, put together: SDel2, SDel3. -/
import Derived.Test.YtibccdcemcgkeaaGreatQ10
set_option linter.unusedVariables false
set_option linter.unusedSimpArgs false
namespace Go.Proofs.YtibccdcemcgkeaaGreat
section
set_option maxRecDepth 100000
theorem rdF_digs {z : Bool} : ∀ {s : Bs} {n k m j : Nat}, rdF z s n k = some (m, j) → ∀ i, i < j - k → dv (s.getD i 0) ≠ none := by
 intro s
 induction s with
 | nil =>
   intro n k m j h i hi
   simp only [rdF] at h
   split at h
   · cases h
   · cases h; omega
 | cons c r ih =>
   intro n k m j h i hi
   simp only [rdF] at h
   split at h
   · split at h
     · cases h
     · cases h; omega
   · rename_i d hd
     split at h
     · cases h
     · cases i with
       | zero => rw [List.getD_cons_zero, hd]; exact fun h => by cases h
       | succ i => rw [List.getD_cons_succ]; exact ih h i (by omega)
theorem rdN_nl {d : Bs} {n j : Nat} (h : rdN d 0 = some (n, j)) (hj : j < d.length) (h10 : d.getD j 0 = 10) : Lib.indexByte d 10 = (j : Int) := by
 unfold rdN at h
 rw [List.drop_zero] at h
 cases e : rdF (decide (d.getD 0 0 = 48)) d 0 0 with
 | none => rw [e] at h; cases h
 | some x =>
   rw [e] at h
   have hx : x = (n, j) := by cases h; simp
   rw [hx] at e
   have hd := rdF_digs e
   have hf : d.findIdx? (· == 10) = some j := by
    rw [List.findIdx?_eq_some_iff_getElem]
    refine ⟨hj, ?_, fun i hi => ?_⟩
    · have : d[j] = d.getD j 0 := by simp [hj]
      rw [this, h10]; rfl
    · have : d[i] = d.getD i 0 := by simp [show i < d.length by omega]
      rw [this]
      have h2 := hd i (by omega)
      intro h3
      rw [eq_of_beq h3] at h2
      exact h2 (by decide)
   rw [indexByte_find, hf]
theorem applyB_size (src d : Bs) : applyB src d = match sizeB d with
    | none => none
    | some (n, j) => if 300 < n then none else goB src d n (d.length + 1) (j + 1) [] := by
 unfold applyB sizeB
 cases rdN d 0 with
 | none => rfl
 | some x =>
   obtain ⟨n, j⟩ := x
   dsimp only
   by_cases h : d.length ≤ j ∨ d.getD j 0 ≠ 10
   · rw [if_pos h, if_pos (h.elim (fun e => .inl e) (fun e => .inr (.inl e)))]
   · rw [if_neg h]
     dsimp only
     by_cases h3 : 300 < n
     · rw [if_pos (.inr (.inr h3)), if_pos h3]
     · rw [if_neg h3, if_neg (by rintro (e | e | e); exact h (.inl e); exact h (.inr e); exact h3 e)]
theorem sizeB_some {d : Bs} {n j : Nat} (h : sizeB d = some (n, j)) : rdN d 0 = some (n, j) ∧ j < d.length ∧ d.getD j 0 = 10 := by
 unfold sizeB at h
 cases e : rdN d 0 with
 | none => rw [e] at h; cases h
 | some x =>
   rw [e] at h
   dsimp only at h
   split at h
   · cases h
   · rename_i h2
     cases h
     exact ⟨rfl, by omega, Classical.not_not.1 fun h => h2 (.inr h)⟩
def apV (x : Option Bs) : Value := .tuple #[vS (x.getD []), vB x.isSome]
theorem zb98ret3 {G : Prop} (h : G := by
    refine fin_ret () (vs := [_, _]) (Cs := []) rfl (.tmp rfl (.tmp rfl .nil)) ?_ trivial ent_nil
    first
    | rfl
    | (try dsimp only
       rw [if_pos (by omega)]; rfl)) : G := h
theorem zb98ret8 {G : Prop} (h : G := by
    refine fin_ret () (vs := [_, _]) (Cs := []) rfl (.tmp rfl (.tmp rfl .nil)) ?_ trivial ent_nil
    try dsimp only
    rw [if_neg (by omega), hst]
    first
    | rfl
    | (rw [if_pos (by omega)]; rfl)) : G := h
theorem zb98ret11 {G : Prop} (h : G := by
    refine fin_ret () (vs := [_, _]) (Cs := []) rfl (.tmp rfl (.tmp rfl .nil)) ?_ trivial ent_nil
    try dsimp only
    rw [if_neg (by omega), hst, if_neg (by omega)]; rfl) : G := h
theorem zb98ret15 {G : Prop} (h : G := by
    refine fin_ret () (vs := [_, _]) (Cs := []) rfl (.tmp rfl (.tmp rfl .nil)) ?_ trivial ent_nil
    try dsimp only
    rw [if_neg (by omega), hst]
    first
    | rfl
    | (rw [if_pos (by omega)]; rfl)) : G := h
set_option maxHeartbeats 4000000 in
theorem delta_Apply_sp (src d : Bs) (hs : src.length ≤ 1099511627776) (hd : d.length ≤ 1099511627775) : SpF Tryz.prog 98 [vS src, vS d] (apV (applyB src d)) := by
 have e59 : ∀ c : UInt8, ((c.toNat : Int) = 59) ↔ c = 59 := fun c => u8_eq c 59 (by decide)
 rw [applyB_size]
 obtain ⟨x, hx⟩ : ∃ x, x = sizeB d := ⟨_, rfl⟩
 have hSz := delta_Size_sp d (by omega)
 rw [← hx] at hSz ⊢
 refine Sp.body (n := 90) Tryz.call98 Tryz.func98 rfl rfl rfl ?_
 refine Qc (k:=Qv (k:=Wq (Qc (k:=Vv (k:=?_)))))
 refine r_callF hSz rfl rfl rfl ?_
 refine Vv (k:=?_)
 refine wo_pv (pv_extract (v := vI ((x.getD (0, 0)).1 : Nat)) rfl rfl) rfl ?_
 refine wo_pv (pv_extract (v := vB x.isSome) rfl rfl) rfl ?_
 refine Qv (k:=Wq (Za (k:=Qc (k:=Qv (k:=Vv (k:=Gi 2 (t:=fun h22 => ?_) (f:=fun h22 => ?_)))))))
 ·
  obtain rfl : x = none := by cases x with | none => rfl | some y => simp at h22
  refine O1 (k:=O1 (k:=P1 (k:=Wq (Z1 (k:=Qc (k:=Qv (k:=Wq (Zt (k:=Va ?_)))))))))
  exact zb98ret3
 ·
  obtain ⟨⟨size, j0⟩, rfl⟩ : ∃ y, x = some y := by cases x with | none => simp at h22 | some y => exact ⟨y, rfl⟩
  dsimp only [Option.getD_some]
  obtain ⟨hr0, hj0, h10⟩ := sizeB_some hx.symm
  refine J0 (k:=J0 (k:=P0 (k:=Wq (Zi (t:=fun h25 => ?_) (f:=fun h25 => ?_)))))
  ·
   refine Qc (k:=Qv (k:=Wq (Zt (k:=Va ?_))))
   exact zb98ret3
  ·
   refine Zk (k:=Ya (Qc (k:=Vv (k:=Wq (Qc (k:=Vv (k:=?_)))))))
   refine r_callF (IndexByte_sp d 10) rfl rfl rfl ?_
   rw [show (10 : Int).toNat.toUInt8 = 10 from rfl, rdN_nl hr0 hj0 h10]
   refine Qv (k:=Wq (Zb (k:=?_)))
   refine p_loop (fun (i : { p : Nat × Bs // p.1 ≤ d.length ∧ p.2.length ≤ 300 ∧ goB src d size (d.length + 1) (j0 + 1) [] = goB src d size (d.length + 1) p.1 p.2 }) => [(0, vS src), (1, vS d), (6, vI size), (8, vS i.1.2), (9, vI i.1.1)]) (fun (i : { p : Nat × Bs // p.1 ≤ d.length ∧ p.2.length ≤ 300 ∧ goB src d size (d.length + 1) (j0 + 1) [] = goB src d size (d.length + 1) p.1 p.2 }) => []) (fun (i : { p : Nat × Bs // p.1 ≤ d.length ∧ p.2.length ≤ 300 ∧ goB src d size (d.length + 1) (j0 + 1) [] = goB src d size (d.length + 1) p.1 p.2 }) => d.length - i.1.1) rfl (⟨(j0 + 1, []), by dsimp only; omega, by simp, rfl⟩) ?_ ?_ (fun i => ?_)
   · exact ⟨rfl, rfl, rfl, rfl, rfl, trivial⟩
   ·
    exact ent_pick
   obtain ⟨⟨i, out⟩, hi, ho, hg⟩ := i
   dsimp only at hi ho hg ⊢
   have hst := goB_step (src := src) (size := size) (out := out) hi
   rw [← hg] at hst
   obtain ⟨y, hy⟩ : ∃ y, y = rdN d i := ⟨_, rfl⟩
   have hR := digit_Read_sp d i (by omega) (by omega)
   have hyl : ∀ n j, y = some (n, j) → n ≤ 1073741824 ∧ i < j ∧ j ≤ d.length := fun n j e => by rw [hy] at e; have := rdN_le e; omega
   rw [← hy] at hR hst
   clear hg
   try dsimp only
   refine Zb (k:=Qc (k:=Qv (k:=?_)))
   refine r_callF hR rfl rfl rfl ?_
   refine Vv (k:=?_)
   refine wo_pv (pv_extract (v := vI ((y.getD (0, 0)).1 : Nat)) rfl rfl) rfl ?_
   refine wo_pv (pv_extract (v := vI ((y.getD (0, 0)).2 : Nat)) rfl rfl) rfl ?_
   refine wo_pv (pv_extract (v := vB y.isSome) rfl rfl) rfl ?_
   refine Qv (k:=Vv (k:=Wq (Za (k:=Qc (k:=Qv (k:=Vv (k:=Gi 2 (t:=fun h38 => ?_) (f:=fun h38 => ?_))))))))
   ·
    obtain rfl : y = none := by cases y with | none => rfl | some y => simp at h38
    refine O1 (k:=O1 (k:=O1 (k:=O1 (k:=P1 (k:=Wq (Z1 (k:=Qc (k:=Qv (k:=Wq ?_)))))))))
    refine Zt (k:=Va (Vb (Vi (Vb ?_))))
    exact zb98ret8
   ·
    obtain ⟨⟨n, j⟩, rfl⟩ : ∃ w, y = some w := by cases y with | none => simp at h38 | some w => exact ⟨w, rfl⟩
    obtain ⟨hn, hij, hjl⟩ := hyl n j rfl
    dsimp only [Option.getD_some] at hst ⊢
    refine J0 (k:=J0 (k:=J0 (k:=J0 (k:=P0 (k:=Wq (Zi (t:=fun h43 => ?_) (f:=fun h43 => ?_)))))))
    ·
     refine Qc (k:=Qv (k:=Wq (Zt (k:=Va (Vb (Vi (Vb ?_)))))))
     exact zb98ret8
    ·
     refine Zk (k:=Ya (Za (k:=Za (k:=?_))))
     have hjl2 : j < d.length := by omega
     rw [if_neg (by omega)] at hst
     refine Zr (k:=Qv (k:=?_))
     refine wo_pv (pv_indexm (m := j) Tryz.underlying9 rfl rfl rfl (by omega)) rfl ?_
     refine Vv (k:=Wq (Zi (t:=fun h47 => ?_) (f:=fun h47 => ?_)))
     ·
      rw [if_pos ((e59 _).1 h47)] at hst
      refine Za (k:=Qc (k:=Qv (k:=Qv (k:=Qv (k:=Gi 5 (t:=fun h53 => ?_) (f:=fun h53 => ?_))))))
      ·
       refine O1 (k:=O1 (k:=O1 (k:=O1 (k:=P1 (k:=Vv (k:=O1 (k:=O1 (k:=O1 (k:=O1 (k:=P1 (k:=Wq ?_)))))))))))
       refine Z1 (k:=Qc (k:=Qv (k:=Wq (Zt (k:=Va (Va (Vb (Vi (Vb ?_)))))))))
       exact zb98ret11
      ·
       refine J0 (k:=J0 (k:=J0 (k:=J0 (k:=P0 (k:=Vv (k:=Gi 11 (t:=fun h59 => ?_) (f:=fun h59 => ?_)))))))
       ·
        refine O1 (k:=O1 (k:=O1 (k:=O1 (k:=P1 (k:=Wq (Z1 (k:=Qc (k:=Qv (k:=Wq ?_)))))))))
        refine Zt (k:=Va (Va (Vb (Vi (Vb ?_)))))
        exact zb98ret11
       ·
        refine J0 (k:=J0 (k:=I0 (k:=?_)))
        refine r_callF (delta_Check_sp out (by omega)) rfl rfl rfl ?_
        refine J0 (k:=P0 (k:=Wq (Zi (t:=fun h64 => ?_) (f:=fun h64 => ?_))))
        ·
         refine Qc (k:=Qv (k:=Wq (Zt (k:=Va (Va (Vb (Vi (Vb ?_))))))))
         exact zb98ret11
        ·
         refine Zk (k:=Ya (Qc (k:=Qv (k:=Vv (k:=Wq (Zt (k:=Va (Vb (Vi ?_)))))))))
         refine Vb ?_
         refine fin_ret () (vs := [_, _]) (Cs := []) rfl (.tmp rfl (.tmp rfl .nil)) ?_ trivial ent_nil
         try dsimp only
         rw [if_neg (by omega), hst, if_pos (by omega)]; rfl
     ·
      rw [if_neg (fun h => h47 ((e59 _).2 h))] at hst
      obtain ⟨w, hw⟩ : ∃ w, w = cmdB src d n j := ⟨_, rfl⟩
      have hC := delta_command_sp src d n j hs (by omega) hn (by omega)
      have hwl : ∀ s b, w = some (s, b) → j < b ∧ b ≤ d.length := fun s b e => by rw [hw] at e; have := cmdB_le e; omega
      rw [← hw] at hC hst
      refine Zk (k:=Ya (Qc (k:=Qv (k:=Qv (k:=?_)))))
      refine r_callF hC rfl rfl rfl ?_
      refine Vv (k:=?_)
      refine wo_pv (pv_extract (v := vS (w.getD ([], 0)).1) rfl rfl) rfl ?_
      refine wo_pv (pv_extract (v := vI ((w.getD ([], 0)).2 : Nat)) rfl rfl) rfl ?_
      refine wo_pv (pv_extract (v := vB w.isSome) rfl rfl) rfl ?_
      refine Qv (k:=Vv (k:=Wq (Za (k:=Qc (k:=Qv (k:=Vv (k:=Gi 2 (t:=fun h77 => ?_) (f:=fun h77 => ?_))))))))
      ·
       obtain rfl : w = none := by cases w with | none => rfl | some y => simp at h77
       refine O1 (k:=O1 (k:=O1 (k:=O1 (k:=O1 (k:=O1 (k:=O1 (k:=P1 (k:=Wq (Z1 (k:=Qc (k:=?_)))))))))))
       refine Qv (k:=Wq (Zt (k:=Va (Vb (Vi (Vb ?_))))))
       exact zb98ret15
      ·
       obtain ⟨⟨t, b⟩, rfl⟩ : ∃ v, w = some v := by cases w with | none => simp at h77 | some v => exact ⟨v, rfl⟩
       obtain ⟨hjb, hbl⟩ := hwl t b rfl
       dsimp only [Option.getD_some] at hst ⊢
       refine J0 (k:=J0 (k:=J0 (k:=J0 (k:=J0 (k:=J0 (k:=?_))))))
       refine J0 (k:=P0 (k:=Wq (Zi (t:=fun h85 => ?_) (f:=fun h85 => ?_))))
       ·
        refine Qc (k:=Qv (k:=Wq (Zt (k:=Va (Vb (Vi (Vb ?_)))))))
        exact zb98ret15
       ·
        refine Zk (k:=Ya ?_)
        rw [if_neg (by omega)] at hst
        refine Zr (k:=Qv (k:=?_))
        refine wo_pv (pv_cat rfl rfl (by omega)) rfl ?_
        refine Qv (k:=Vv (k:=Wn (Yb ?_)))
        refine to_inv ⟨(b, out ++ t), by dsimp only; omega, by dsimp only; rw [List.length_append]; omega, hst⟩ (by dsimp only; omega) ⟨rfl, rfl, rfl, rfl, rfl, trivial⟩ ent_nil
theorem cmdB_58 {src d : Bs} {n i : Nat} (h : i < d.length) (hc : d.getD i 0 = 58) : cmdB src d n i = if n = 0 then none else if n ≤ d.length - (i + 1) then some ((d.drop (i + 1)).take n, i + 1 + n) else none := by
 unfold cmdB
 by_cases e : n = 0
 · rw [if_pos (.inl e), if_pos e]
 · rw [if_neg (by omega), if_neg e, if_pos hc]
theorem cmdB_64 {src d : Bs} {n i : Nat} (h : i < d.length) (hc : d.getD i 0 = 64) : cmdB src d n i = if n = 0 then none else match rdN d (i + 1) with
    | none => none
    | some (f, j) => if j < d.length ∧ d.getD j 0 = 44 ∧ f ≤ src.length ∧ n ≤ src.length - f then some ((src.drop f).take n, j + 1) else none := by
 unfold cmdB
 by_cases e : n = 0
 · rw [if_pos (.inl e), if_pos e]
 · rw [if_neg (by omega), if_neg e, if_neg (by rw [hc]; decide), if_pos hc]
   all_goals (cases rdN d (i + 1) <;> rfl)
theorem zb155ret3 {G : Prop} (h : G := by
    refine fin_ret () (vs := [_, _]) (Cs := []) rfl (.tmp rfl (.tmp rfl .nil)) ?_ trivial ent_nil
    first
    | rfl
    | (try dsimp only
       rw [if_pos]
       · rfl
       · first
         | (left; omega)
         | (right; left; intro h; exact absurd ((e10 _).2 h) (by assumption))
         | (right; right; omega))) : G := h
theorem zb155ret8 {G : Prop} (h : G := by
    refine fin_ret () (vs := [_, _]) (Cs := []) rfl (.tmp rfl (.tmp rfl .nil)) ?_ trivial ent_nil
    rw [if_neg hsz, hst]
    first
    | rfl
    | (rw [if_pos (by omega)]; rfl)) : G := h
theorem zb155ret14 {G : Prop} (h : G := by
    refine fin_ret () (vs := [_, _]) (Cs := []) rfl (.tmp rfl (.tmp rfl .nil)) ?_ trivial ent_nil
    rw [if_neg hsz, hst, if_neg (by omega)]; rfl) : G := h
theorem zb155ret18 {G : Prop} (h : G := by
    refine fin_ret () (vs := [_, _]) (Cs := []) rfl (.tmp rfl (.tmp rfl .nil)) ?_ trivial ent_nil
    rw [if_neg hsz, hst]
    first
    | (rw [if_pos (show n = 0 by omega)]; rfl)
    | (rw [if_neg (show ¬ n = 0 by omega), if_neg (show ¬ n ≤ d.length - (j + 1) by omega)]; rfl)
    | (by_cases hq : n ≤ d.length - (j + 1)
       · rw [if_neg (show ¬ n = 0 by omega), if_pos hq]
         dsimp only
         rw [if_pos (by rw [List.length_take, List.length_drop]; omega)]; rfl
       · rw [if_neg (show ¬ n = 0 by omega), if_neg hq]; rfl)) : G := h
theorem zb155next0 {G : Prop} (h : G := by
    first
    | (refine to_inv ⟨(j + 1 + n, out ++ (d.drop (j + 1)).take n), by dsimp only; omega, by dsimp only; rw [List.length_append, htl]; omega, hst⟩ (by dsimp only; omega) ⟨rfl, rfl, rfl, (by dsimp only; rw [show ((j + 1 + n : Nat) : Int) = (j : Int) + 1 + n by omega]; rfl), rfl, trivial⟩ ent_nil)
    | (refine to_inv ⟨(b + 1, out ++ (src.drop f).take n), by dsimp only; omega, by dsimp only; rw [List.length_append, htl]; omega, hst⟩ (by dsimp only; omega) ⟨rfl, rfl, rfl, rfl, rfl, trivial⟩ ent_nil)) : G := h
theorem zb155ret23 {G : Prop} (h : G := by
    refine fin_ret () (vs := [_, _]) (Cs := []) rfl (.tmp rfl (.tmp rfl .nil)) ?_ trivial ent_nil
    rw [if_neg hsz, hst]
    by_cases hn0 : n = 0
    · rw [if_pos hn0]; rfl
    · rw [if_neg hn0]
      first
      | rfl
      | (by_cases hq : b < d.length ∧ d.getD b 0 = 44 ∧ f ≤ src.length ∧ n ≤ src.length - f
         · rw [if_pos hq]
           have hq44 := (e44 _).2 hq.2.1
           dsimp only
           have htl : ((src.drop f).take n).length = n := by rw [List.length_take, List.length_drop]; omega
           first
           | (exfalso; omega)
           | (rw [if_pos (by rw [htl]; omega)]; rfl)
         · rw [if_neg hq]; rfl)) : G := h
set_option maxHeartbeats 8000000 in
theorem ref1_Apply_sp (src d : Bs) (hs : src.length ≤ 1099511627776) (hd : d.length ≤ 1099511627775) : SpF Tryz.prog 155 [vS src, vS d] (apV (applyB src d)) := by
 have e59 : ∀ c : UInt8, ((c.toNat : Int) = 59) ↔ c = 59 := fun c => u8_eq c 59 (by decide)
 have e58 : ∀ c : UInt8, ((c.toNat : Int) = 58) ↔ c = 58 := fun c => u8_eq c 58 (by decide)
 have e64 : ∀ c : UInt8, ((c.toNat : Int) = 64) ↔ c = 64 := fun c => u8_eq c 64 (by decide)
 have e44 : ∀ c : UInt8, ((c.toNat : Int) = 44) ↔ c = 44 := fun c => u8_eq c 44 (by decide)
 have e10 : ∀ c : UInt8, ((c.toNat : Int) = 10) ↔ c = 10 := fun c => u8_eq c 10 (by decide)
 unfold applyB
 obtain ⟨x, hx⟩ : ∃ x, x = rdN d 0 := ⟨_, rfl⟩
 have hR0 := ref1_Read_sp d 0 (by omega) (by omega)
 have hxl : ∀ n j, x = some (n, j) → n ≤ 1073741824 ∧ j ≤ d.length := fun n j e => by rw [hx] at e; have := rdN_le e; omega
 rw [← hx] at hR0 ⊢
 refine Sp.body (n := 172) Tryz.call155 Tryz.func155 rfl rfl rfl ?_
 refine Qc (k:=Qv (k:=Wq (Qc (k:=Vv (k:=?_)))))
 refine r_callF hR0 rfl rfl rfl ?_
 refine Vv (k:=?_)
 refine wo_pv (pv_extract (v := vI ((x.getD (0, 0)).1 : Nat)) rfl rfl) rfl ?_
 refine wo_pv (pv_extract (v := vI (rdJ x)) rfl rfl) rfl ?_
 refine Qv (k:=Wq (Za (k:=Qc (k:=Qv (k:=Vv (k:=Gi 2 (t:=fun h21 => ?_) (f:=fun h21 => ?_)))))))
 ·
  obtain rfl : x = none := by cases x with | none => rfl | some y => exact absurd h21 (Int.not_lt.2 (Int.natCast_nonneg _))
  refine O1 (k:=O1 (k:=O1 (k:=O1 (k:=P1 (k:=Vv (k:=O1 (k:=O1 (k:=O1 (k:=O1 (k:=P1 (k:=Vv (k:=?_))))))))))))
  refine O1 (k:=O1 (k:=P1 (k:=Wq (Z1 (k:=Qc (k:=Qv (k:=Wq (Zt (k:=Va ?_)))))))))
  exact zb155ret3
 ·
  obtain ⟨⟨size, j0⟩, rfl⟩ : ∃ y, x = some y := by cases x with | none => exact absurd (by decide) h21 | some y => exact ⟨y, rfl⟩
  obtain ⟨hz0, hj0⟩ := hxl size j0 rfl
  dsimp only [Option.getD_some, rdJ]
  refine J0 (k:=J0 (k:=J0 (k:=J0 (k:=P0 (k:=Vv (k:=Gi 8 (t:=fun h27 => ?_) (f:=fun h27 => ?_)))))))
  ·
   refine O1 (k:=O1 (k:=O1 (k:=O1 (k:=P1 (k:=Vv (k:=O1 (k:=O1 (k:=P1 (k:=Wq (Z1 (k:=Za (k:=?_))))))))))))
   refine Zr (k:=Qv (k:=Wq (Zt (k:=Va ?_))))
   exact zb155ret3
  ·
   refine J0 (k:=J0 (k:=I0 (k:=?_)))
   refine wo_pv (pv_indexm (m := j0) Tryz.underlying9 rfl rfl rfl (by omega)) rfl ?_
   refine J0 (k:=P0 (k:=Vv (k:=Gi 14 (t:=fun h33 => ?_) (f:=fun h33 => ?_))))
   ·
    refine O1 (k:=O1 (k:=P1 (k:=Wq (Z1 (k:=Qc (k:=Qv (k:=Wq (Zt (k:=Va ?_)))))))))
    exact zb155ret3
   ·
    refine J0 (k:=J0 (k:=P0 (k:=Wq (Zi (t:=fun h36 => ?_) (f:=fun h36 => ?_)))))
    ·
     refine Qc (k:=Qv (k:=Wq (Zt (k:=Va ?_))))
     exact zb155ret3
    ·
     have hsz : ¬ (d.length ≤ j0 ∨ d.getD j0 0 ≠ 10 ∨ 300 < size) := by
      rintro (h | h | h)
      · omega
      · exact h ((e10 _).1 (by first | assumption | (apply Classical.not_not.1; assumption)))
      · omega
     refine Zk (k:=Ya (Qc (k:=Qv (k:=Vv (k:=Wq (Qc (k:=Vv (k:=Wq ?_))))))))
     refine Zb (k:=?_)
     refine p_loop (fun (i : { p : Nat × Bs // p.1 ≤ d.length ∧ p.2.length ≤ 300 ∧ goB src d size (d.length + 1) (j0 + 1) [] = goB src d size (d.length + 1) p.1 p.2 }) => [(0, vS src), (1, vS d), (6, vI size), (7, vI i.1.1), (8, vS i.1.2)]) (fun (i : { p : Nat × Bs // p.1 ≤ d.length ∧ p.2.length ≤ 300 ∧ goB src d size (d.length + 1) (j0 + 1) [] = goB src d size (d.length + 1) p.1 p.2 }) => []) (fun (i : { p : Nat × Bs // p.1 ≤ d.length ∧ p.2.length ≤ 300 ∧ goB src d size (d.length + 1) (j0 + 1) [] = goB src d size (d.length + 1) p.1 p.2 }) => d.length - i.1.1) rfl (⟨(j0 + 1, []), by dsimp only; omega, by simp, rfl⟩) ?_ ?_ (fun i => ?_)
     · exact ⟨rfl, rfl, rfl, rfl, rfl, trivial⟩
     ·
      exact ent_pick
     obtain ⟨⟨i, out⟩, hi, ho, hg⟩ := i
     dsimp only at hi ho hg ⊢
     have hst := goB_step (src := src) (size := size) (out := out) hi
     rw [← hg] at hst
     obtain ⟨y, hy⟩ : ∃ y, y = rdN d i := ⟨_, rfl⟩
     have hR := ref1_Read_sp d i (by omega) (by omega)
     have hyl : ∀ n j, y = some (n, j) → n ≤ 1073741824 ∧ i < j ∧ j ≤ d.length := fun n j e => by rw [hy] at e; have := rdN_le e; omega
     rw [← hy] at hR hst
     clear hg
     try dsimp only
     refine Zb (k:=Qc (k:=Qv (k:=?_)))
     refine r_callF hR rfl rfl rfl ?_
     refine Vv (k:=?_)
     refine wo_pv (pv_extract (v := vI ((y.getD (0, 0)).1 : Nat)) rfl rfl) rfl ?_
     refine wo_pv (pv_extract (v := vI (rdJ y)) rfl rfl) rfl ?_
     refine Qv (k:=Wq (Za (k:=Qc (k:=Qv (k:=Vv (k:=Gi 2 (t:=fun h47 => ?_) (f:=fun h47 => ?_)))))))
     ·
      obtain rfl : y = none := by cases y with | none => rfl | some y => exact absurd h47 (Int.not_lt.2 (Int.natCast_nonneg _))
      refine O1 (k:=O1 (k:=O1 (k:=O1 (k:=P1 (k:=Wq (Z1 (k:=Qc (k:=Qv (k:=Wq ?_)))))))))
      refine Zt (k:=Va (Vb (Vi (Vb ?_))))
      exact zb155ret8
     ·
      obtain ⟨⟨n, j⟩, rfl⟩ : ∃ w, y = some w := by cases y with | none => exact absurd (by decide) h47 | some w => exact ⟨w, rfl⟩
      obtain ⟨hn, hij, hjl⟩ := hyl n j rfl
      dsimp only [Option.getD_some, rdJ] at hst ⊢
      refine J0 (k:=J0 (k:=J0 (k:=J0 (k:=P0 (k:=Wq (Zi (t:=fun h52 => ?_) (f:=fun h52 => ?_)))))))
      ·
       refine Qc (k:=Qv (k:=Wq (Zt (k:=Va (Vb (Vi (Vb ?_)))))))
       exact zb155ret8
      ·
       refine Zk (k:=Ya (Za (k:=?_)))
       have hjl2 : j < d.length := by omega
       rw [if_neg (by omega)] at hst
       refine Zr (k:=Qv (k:=?_))
       refine wo_pv (pv_indexm (m := j) Tryz.underlying9 rfl rfl rfl (by omega)) rfl ?_
       refine Wq (Zb (k:=Qc (k:=Qv (k:=Wq (Zi (t:=fun h56 => ?_) (f:=fun h56 => ?_))))))
       ·
        rw [if_pos ((e59 _).1 h56)] at hst
        refine Qc (k:=Qv (k:=Qv (k:=Qv (k:=Gi 5 (t:=fun h63 => ?_) (f:=fun h63 => ?_)))))
        ·
         refine J1 (k:=J1 (k:=J1 (k:=J1 (k:=P1 (k:=Vv (k:=Gi 11 (t:=fun h69 => ?_) (f:=fun h69 => ?_)))))))
         ·
          refine J1 (k:=J1 (k:=I1 (k:=?_)))
          refine r_callF (ref1_Check_sp out (by omega)) rfl rfl rfl ?_
          refine J1 (k:=P1 (k:=Vv (k:=Wq (Za (k:=Qc (k:=Qv (k:=Wq (Zi (t:=fun h76 => ?_) (f:=fun h76 => ?_)))))))))
          ·
           refine Qc (k:=Qv (k:=Wq (Zt (k:=Va (Vb (Vb (Vi (Vb ?_))))))))
           exact zb155ret14
          ·
           refine Zk (k:=Ya (Qc (k:=Qv (k:=Vv (k:=Wq (Zt (k:=Vb (Vb (Vi ?_)))))))))
           refine Vb ?_
           refine fin_ret () (vs := [_, _]) (Cs := []) rfl (.tmp rfl (.tmp rfl .nil)) ?_ trivial ent_nil
           rw [if_neg hsz, hst, if_pos (by omega)]; rfl
         ·
          refine O0 (k:=O0 (k:=O0 (k:=O0 (k:=P0 (k:=Vv (k:=Wq (Za (k:=Qc (k:=Qv (k:=?_))))))))))
          refine Wq (Z1 (k:=Qc (k:=Qv (k:=Wq (Zt (k:=Va (Vb (Vb (Vi ?_)))))))))
          refine Vb ?_
          exact zb155ret14
        ·
         refine O0 (k:=O0 (k:=O0 (k:=O0 (k:=P0 (k:=Vv (k:=O0 (k:=O0 (k:=O0 (k:=O0 (k:=P0 (k:=Vv (k:=?_))))))))))))
         refine Wq (Za (k:=Qc (k:=Qv (k:=Wq (Z1 (k:=Qc (k:=Qv (k:=?_))))))))
         refine Wq (Zt (k:=Va (Vb (Vb (Vi (Vb ?_))))))
         exact zb155ret14
       ·
        rw [if_neg (fun h => h56 ((e59 _).2 h))] at hst
        refine Qc (k:=Qv (k:=Wq (Zi (t:=fun h78 => ?_) (f:=fun h78 => ?_))))
        ·
         rw [cmdB_58 hjl2 ((e58 _).1 h78)] at hst
         refine Za (k:=Qc (k:=Qv (k:=Vv (k:=Gi 2 (t:=fun h82 => ?_) (f:=fun h82 => ?_)))))
         ·
          refine O1 (k:=O1 (k:=O1 (k:=O1 (k:=O1 (k:=O1 (k:=P1 (k:=Vv (k:=O1 (k:=O1 (k:=O1 (k:=O1 (k:=?_))))))))))))
          refine O1 (k:=O1 (k:=O1 (k:=P1 (k:=Wq (Z1 (k:=Qc (k:=Qv (k:=Wq (Zt (k:=?_))))))))))
          refine Va (Vb (Vb (Vi (Vb ?_))))
          exact zb155ret18
         ·
          refine J0 (k:=J0 (k:=J0 (k:=J0 (k:=J0 (k:=J0 (k:=?_))))))
          refine P0 (k:=Vv (k:=Gi 10 (t:=fun h90 => ?_) (f:=fun h90 => ?_)))
          ·
           refine O1 (k:=O1 (k:=O1 (k:=O1 (k:=O1 (k:=O1 (k:=O1 (k:=P1 (k:=Wq (Z1 (k:=Qc (k:=?_)))))))))))
           refine Qv (k:=Wq (Zt (k:=Va (Vb (Vb (Vi (Vb ?_)))))))
           exact zb155ret18
          ·
           refine J0 (k:=J0 (k:=J0 (k:=J0 (k:=J0 (k:=J0 (k:=?_))))))
           refine J0 (k:=P0 (k:=Wq (Zi (t:=fun h98 => ?_) (f:=fun h98 => ?_))))
           ·
            refine Qc (k:=Qv (k:=Wq (Zt (k:=Va (Vb (Vb (Vi (Vb ?_))))))))
            exact zb155ret18
           ·
            rw [if_neg (show ¬ n = 0 by omega), if_pos (show n ≤ d.length - (j + 1) by omega)] at hst
            dsimp only at hst
            have htl : ((d.drop (j + 1)).take n).length = n := by rw [List.length_take, List.length_drop]; omega
            rw [if_neg (by rw [htl]; omega)] at hst
            refine Zk (k:=Ya (Zr (k:=Qv (k:=Qv (k:=Qv (k:=Qv (k:=?_)))))))
            refine wo_pv (pv_slice_inm (m := j + 1) (o := j + 1 + n) Tryz.underlying9 rfl rfl rfl (by omega) (by omega) (by omega) (by omega)) rfl ?_
            rw [show j + 1 + n - (j + 1) = n by omega]
            refine wo_pv (pv_cat rfl rfl (by rw [htl]; omega)) rfl ?_
            refine Qv (k:=Qv (k:=Qv (k:=Wn (Yb (Yb ?_)))))
            exact zb155next0
        ·
         refine Qc (k:=Qv (k:=Wq (Zi (t:=fun h113 => ?_) (f:=fun h113 => ?_))))
         ·
          rw [cmdB_64 hjl2 ((e64 _).1 h113)] at hst
          obtain ⟨w, hw⟩ : ∃ w, w = rdN d (j + 1) := ⟨_, rfl⟩
          have hR2 := ref1_Read_sp d (j + 1) (by omega) (by omega)
          have hwl : ∀ f b, w = some (f, b) → f ≤ 1073741824 ∧ j + 1 < b ∧ b ≤ d.length := fun f b e => by rw [hw] at e; have := rdN_le e; omega
          rw [← hw] at hR2 hst
          refine Qc (k:=Qv (k:=Vv (k:=?_)))
          refine r_callF hR2 rfl rfl rfl ?_
          refine Vv (k:=?_)
          refine wo_pv (pv_extract (v := vI ((w.getD (0, 0)).1 : Nat)) rfl rfl) rfl ?_
          refine wo_pv (pv_extract (v := vI (rdJ w)) rfl rfl) rfl ?_
          refine Qv (k:=Wq (Za (k:=Qc (k:=Qv (k:=Vv (k:=Gi 2 (t:=fun h124 => ?_) (f:=fun h124 => ?_)))))))
          ·
           obtain rfl : w = none := by cases w with | none => rfl | some y => exact absurd h124 (Int.not_lt.2 (Int.natCast_nonneg _))
           refine O1 (k:=O1 (k:=O1 (k:=O1 (k:=P1 (k:=Vv (k:=O1 (k:=O1 (k:=O1 (k:=O1 (k:=P1 (k:=Vv (k:=?_))))))))))))
           refine O1 (k:=O1 (k:=P1 (k:=Vv (k:=O1 (k:=O1 (k:=O1 (k:=O1 (k:=O1 (k:=O1 (k:=P1 (k:=Vv (k:=?_))))))))))))
           refine O1 (k:=O1 (k:=O1 (k:=O1 (k:=P1 (k:=Vv (k:=O1 (k:=O1 (k:=O1 (k:=O1 (k:=O1 (k:=O1 (k:=?_))))))))))))
           refine P1 (k:=Wq (Z1 (k:=Qc (k:=Qv (k:=Wq (Zt (k:=Va (Vb (Vb ?_)))))))))
           refine Vi (Vb ?_)
           exact zb155ret23
          ·
           obtain ⟨⟨f, b⟩, rfl⟩ : ∃ v, w = some v := by cases w with | none => exact absurd (by decide) h124 | some v => exact ⟨v, rfl⟩
           obtain ⟨hf, hjb, hbl⟩ := hwl f b rfl
           dsimp only [Option.getD_some, rdJ] at hst ⊢
           refine J0 (k:=J0 (k:=J0 (k:=J0 (k:=P0 (k:=Vv (k:=Gi 8 (t:=fun h130 => ?_) (f:=fun h130 => ?_)))))))
           ·
            refine O1 (k:=O1 (k:=O1 (k:=O1 (k:=P1 (k:=Vv (k:=O1 (k:=O1 (k:=P1 (k:=Vv (k:=O1 (k:=O1 (k:=?_))))))))))))
            refine O1 (k:=O1 (k:=O1 (k:=O1 (k:=P1 (k:=Vv (k:=O1 (k:=O1 (k:=O1 (k:=O1 (k:=P1 (k:=Vv (k:=?_))))))))))))
            refine O1 (k:=O1 (k:=O1 (k:=O1 (k:=O1 (k:=O1 (k:=P1 (k:=Wq (Z1 (k:=Qc (k:=Vv (k:=?_)))))))))))
            refine Vv (k:=Wq (Zt (k:=Va (Vb (Vb (Vi (Vb ?_)))))))
            exact zb155ret23
           ·
            refine J0 (k:=J0 (k:=I0 (k:=?_)))
            refine wo_pv (pv_indexm (m := b) Tryz.underlying9 rfl rfl rfl (by omega)) rfl ?_
            refine J0 (k:=P0 (k:=Vv (k:=Gi 14 (t:=fun h136 => ?_) (f:=fun h136 => ?_))))
            ·
             refine O1 (k:=O1 (k:=P1 (k:=Vv (k:=O1 (k:=O1 (k:=O1 (k:=O1 (k:=O1 (k:=O1 (k:=P1 (k:=Vv (k:=?_))))))))))))
             refine O1 (k:=O1 (k:=O1 (k:=O1 (k:=P1 (k:=Vv (k:=O1 (k:=O1 (k:=O1 (k:=O1 (k:=O1 (k:=O1 (k:=?_))))))))))))
             refine P1 (k:=Wq (Z1 (k:=Qc (k:=Qv (k:=Wq (Zt (k:=Va (Vb (Vb ?_)))))))))
             refine Vi (Vb ?_)
             exact zb155ret23
            ·
             refine J0 (k:=J0 (k:=P0 (k:=Vv (k:=Gi 18 (t:=fun h140 => ?_) (f:=fun h140 => ?_)))))
             ·
              refine O1 (k:=O1 (k:=O1 (k:=O1 (k:=O1 (k:=O1 (k:=P1 (k:=Vv (k:=O1 (k:=O1 (k:=O1 (k:=O1 (k:=?_))))))))))))
              refine P1 (k:=Vv (k:=O1 (k:=O1 (k:=O1 (k:=O1 (k:=O1 (k:=O1 (k:=P1 (k:=Wq (Z1 (k:=Za (k:=?_))))))))))))
              refine Zr (k:=Qv (k:=Wq (Zt (k:=Va (Vb (Vb (Vi (Vb ?_))))))))
              exact zb155ret23
             ·
              refine J0 (k:=J0 (k:=J0 (k:=J0 (k:=J0 (k:=J0 (k:=?_))))))
              refine P0 (k:=Vv (k:=Gi 26 (t:=fun h148 => ?_) (f:=fun h148 => ?_)))
              ·
               refine O1 (k:=O1 (k:=O1 (k:=O1 (k:=P1 (k:=Vv (k:=O1 (k:=O1 (k:=O1 (k:=O1 (k:=O1 (k:=O1 (k:=?_))))))))))))
               refine P1 (k:=Wq (Z1 (k:=Qc (k:=Qv (k:=Wq (Zt (k:=Va (Vb (Vb ?_)))))))))
               refine Vi (Vb ?_)
               exact zb155ret23
              ·
               refine J0 (k:=J0 (k:=J0 (k:=J0 (k:=P0 (k:=Vv (k:=Gi 32 (t:=fun h154 => ?_) (f:=fun h154 => ?_)))))))
               ·
                refine O1 (k:=O1 (k:=O1 (k:=O1 (k:=O1 (k:=O1 (k:=P1 (k:=Wq (Z1 (k:=Qc (k:=Vv (k:=?_)))))))))))
                refine Vv (k:=Wq (Zt (k:=Va (Vb (Vb (Vi (Vb ?_)))))))
                exact zb155ret23
               ·
                refine J0 (k:=J0 (k:=J0 (k:=J0 (k:=J0 (k:=J0 (k:=?_))))))
                refine P0 (k:=Wq (Zi (t:=fun h161 => ?_) (f:=fun h161 => ?_)))
                ·
                 refine Qc (k:=Qv (k:=Wq (Zt (k:=Va (Vb (Vb (Vi (Vb ?_))))))))
                 exact zb155ret23
                ·
                 rw [if_neg (show ¬ n = 0 by omega), if_pos ⟨by omega, (e44 _).1 (by first | assumption | omega), by omega, by omega⟩] at hst
                 dsimp only at hst
                 have htl : ((src.drop f).take n).length = n := by rw [List.length_take, List.length_drop]; omega
                 rw [if_neg (by rw [htl]; omega)] at hst
                 refine Zk (k:=Ya (Zr (k:=Qv (k:=Qv (k:=Qv (k:=?_))))))
                 refine wo_pv (pv_slice_inm (m := f) (o := f + n) Tryz.underlying9 rfl rfl rfl rfl (by omega) (by omega) (by omega)) rfl ?_
                 rw [show f + n - f = n by omega]
                 refine wo_pv (pv_cat rfl rfl (by rw [htl]; omega)) rfl ?_
                 refine Qv (k:=Qv (k:=Wn (Yb (Yb ?_))))
                 exact zb155next0
         ·
          refine Qc (k:=Qv (k:=Wq (Zt (k:=Vb (Vb (Vi (Vb ?_)))))))
          refine fin_ret () (vs := [_, _]) (Cs := []) rfl (.tmp rfl (.tmp rfl .nil)) ?_ trivial ent_nil
          have hcn : cmdB src d n j = none := by
           unfold cmdB
           split
           · rfl
           · rw [if_neg (fun h => h78 ((e58 _).2 h)), if_neg (fun h => h113 ((e64 _).2 h))]
          rw [if_neg hsz, hst, hcn]; rfl
end
section
set_option maxRecDepth 100000
/-- How many bytes two texts begin with alike. -/
def lcpN : Bs → Bs → Nat
 | a :: s, b :: t => if a = b then lcpN s t + 1 else 0
 | _, _ => 0
theorem lcp_le : ∀ (s t : Bs), lcpN s t ≤ s.length ∧ lcpN s t ≤ t.length := by
 intro s
 induction s with
 | nil => intro t; simp [lcpN]
 | cons a s ih =>
   intro t
   cases t with
   | nil => simp [lcpN]
   | cons b t =>
     have := ih t
     simp only [lcpN, List.length_cons]
     split <;> omega
theorem lcp_ne : ∀ (s t : Bs) (n : Nat), s.getD n 0 ≠ t.getD n 0 → lcpN s t ≤ n := by
 intro s
 induction s with
 | nil => intro t n _; simp [lcpN]
 | cons a s ih =>
   intro t n h
   cases t with
   | nil => simp [lcpN]
   | cons b t =>
     simp only [lcpN]
     split
     · cases n with
       | zero => rename_i e; exact absurd e (by simpa using h)
       | succ n => have := ih t n (by simpa using h); omega
     · omega
theorem lcp_step {s t : Bs} (hs : s ≠ []) (ht : t ≠ []) (h : s.getD 0 0 = t.getD 0 0) : lcpN s t = 1 + lcpN (s.drop 1) (t.drop 1) := by
 cases s with
 | nil => exact absurd rfl hs
 | cons a s =>
   cases t with
   | nil => exact absurd rfl ht
   | cons b t => simp only [List.getD_cons_zero] at h; simp [lcpN, h, Nat.add_comm]
theorem lcp_take : ∀ (s t : Bs), s.take (lcpN s t) = t.take (lcpN s t) := by
 intro s
 induction s with
 | nil => intro t; simp [lcpN]
 | cons a s ih =>
   intro t
   cases t with
   | nil => simp [lcpN]
   | cons b t =>
     simp only [lcpN]
     split
     · rename_i e; rw [e, List.take_succ_cons, List.take_succ_cons, ih]
     · rfl
def lonS (src rest : Bs) (p : Nat × Nat) (i : Nat) : Nat × Nat := if p.2 < lcpN (src.drop i) rest then (i, lcpN (src.drop i) rest) else p
def lonF (src rest : Bs) : Nat → Nat × Nat
 | 0 => (0, 0)
 | j + 1 => lonS src rest (lonF src rest j) j
def lonB (src rest : Bs) : Nat × Nat := lonF src rest src.length
theorem lonF_ok (src rest : Bs) : ∀ j, j ≤ src.length → (lonF src rest j).1 ≤ src.length ∧ (lonF src rest j).2 = lcpN (src.drop (lonF src rest j).1) rest ∨ (lonF src rest j) = (0, 0) := by
 intro j
 induction j with
 | zero => intro _; exact .inr rfl
 | succ j ih =>
   intro h
   simp only [lonF, lonS]
   split
   · left; exact ⟨by dsimp only; omega, rfl⟩
   · exact ih (by omega)
theorem lonF_le (src rest : Bs) {j : Nat} (h : j ≤ src.length) : (lonF src rest j).1 + (lonF src rest j).2 ≤ src.length ∧ (lonF src rest j).2 ≤ rest.length ∧ (src.drop (lonF src rest j).1).take (lonF src rest j).2 = rest.take (lonF src rest j).2 := by
 rcases lonF_ok src rest j h with ⟨h1, h2⟩ | h1
 · have h3 := lcp_le (src.drop (lonF src rest j).1) rest
   rw [List.length_drop, ← h2] at h3
   refine ⟨by omega, h3.2, ?_⟩
   have h4 := lcp_take (src.drop (lonF src rest j).1) rest
   rwa [← h2] at h4
 · rw [h1]; simp
theorem lonF_stop {src rest : Bs} {j : Nat} (h : rest.length ≤ (lonF src rest j).2) : ∀ k, lonF src rest (j + k) = lonF src rest j := by
 intro k
 induction k with
 | zero => rfl
 | succ k ih =>
   rw [← Nat.add_assoc, lonF, ih, lonS, if_neg]
   have := (lcp_le (src.drop (j + k)) rest).2
   omega
theorem zb143join14 {G : Prop} (h : G := by
    first
    | (have hjs : j = src.length := by omega
       exact to_inv ⟨(f, n), by rw [hp, hjs]; rfl⟩ trivial ⟨rfl, rfl, trivial⟩ ent_nil)
    | (refine to_inv ⟨(f, n), ?_⟩ trivial ⟨rfl, rfl, trivial⟩ ent_nil
       have h3 := lonF_stop (src := src) (rest := rest) (j := j) (by rw [← hp]; dsimp only; omega) (src.length - j)
       rw [show j + (src.length - j) = src.length by omega] at h3
       rw [hp, lonB, h3])) : G := h
theorem zb143next0 {G : Prop} (h : G := by
    first
    | exact to_inv ⟨(j + 1, (j, k)), by dsimp only; omega, by dsimp only; rw [hsu, if_pos (by omega), hk]⟩ (by dsimp only; omega) ⟨rfl, rfl, rfl, rfl, rfl, rfl, trivial⟩ ent_nil
    | (refine to_inv ⟨(j + 1, (f, n)), by dsimp only; omega, ?_⟩ (by dsimp only; omega) ⟨rfl, rfl, rfl, rfl, rfl, rfl, trivial⟩ ent_nil
       dsimp only
       rw [hsu, if_neg]
       first
       | omega
       | (have h5 := lcp_ne (src.drop j) rest n (by
            have hd3 : (src.drop j).getD n 0 = src.getD (j + n) 0 := by simp [List.getD_eq_getElem?_getD, List.getElem?_drop]
            rw [hd3]
            intro e
            exact h34 (by rw [e]))
          omega))) : G := h
theorem zb143join11 {G : Prop} (h : G := by
    first
    | exact to_inv ⟨k, hlk.symm⟩ trivial ⟨rfl, rfl, rfl, rfl, rfl, rfl, rfl, rfl, trivial⟩ ent_nil
    | (refine to_inv ⟨k, ?_⟩ trivial ⟨rfl, rfl, rfl, rfl, rfl, rfl, rfl, rfl, trivial⟩ ent_nil
       have h4 := lcp_le (src.drop (j + k)) (rest.drop k)
       rw [List.length_drop, List.length_drop] at h4
       omega)) : G := h
set_option maxHeartbeats 4000000 in
theorem delta_longest_sp (src rest : Bs) (hs : src.length ≤ 1073741824) (hr : rest.length ≤ 1073741824) : SpF Tryz.prog 143 [vS src, vS rest] (.tuple #[vI (lonB src rest).1, vI (lonB src rest).2]) := by
 refine Sp.body (n := 69) Tryz.call143 Tryz.func143 rfl rfl rfl ?_
 refine Qc (k:=Qv (k:=Wq (Zs (k:=Za (k:=Zl (k:=Ya ?_))))))
 refine p_cut (fun (i : { p : Nat × Nat // p = lonB src rest }) => [(4, vI i.1.1), (5, vI i.1.2)]) (fun (i : { p : Nat × Nat // p = lonB src rest }) => []) rfl (fun i => ?_) ?_
 ·
  obtain ⟨⟨f, n⟩, hp⟩ := i
  dsimp only
  try dsimp only
  refine Qc (k:=Qv (k:=Qv (k:=Wq (Zt (k:=Vs ?_)))))
  refine fin_ret () (vs := [_, _]) (Cs := []) rfl (.tmp rfl (.tmp rfl .nil)) ?_ trivial ent_nil
  rw [← hp]; rfl
 ·
  refine Qc (k:=Qv (k:=Vv (k:=?_)))
  rw [show min (src.length : Int) 1073741824 = (src.length : Int) by omega]
  refine Vv (k:=Wq (Zb (k:=?_)))
  refine p_loop (fun (i : { x : Nat × (Nat × Nat) // x.1 ≤ src.length ∧ x.2 = lonF src rest x.1 }) => [(0, vS src), (1, vS rest), (4, vI i.1.2.1), (5, vI i.1.2.2), (10, vI src.length), (11, vI i.1.1)]) (fun (i : { x : Nat × (Nat × Nat) // x.1 ≤ src.length ∧ x.2 = lonF src rest x.1 }) => []) (fun (i : { x : Nat × (Nat × Nat) // x.1 ≤ src.length ∧ x.2 = lonF src rest x.1 }) => src.length - i.1.1) rfl (⟨(0, (0, 0)), Nat.zero_le _, rfl⟩) ?_ ?_ (fun i => ?_)
  · exact ⟨rfl, rfl, rfl, rfl, rfl, rfl, trivial⟩
  ·
   exact ent_pick
  obtain ⟨⟨j, f, n⟩, hj, hp⟩ := i
  dsimp only at hj hp ⊢
  have hle := lonF_le src rest hj
  have hsu : lonF src rest (j + 1) = lonS src rest (f, n) j := by rw [lonF, ← hp]
  have hll := lcp_le (src.drop j) rest
  rw [← hp] at hle
  rw [List.length_drop] at hll
  dsimp only at hle
  simp only [lonS] at hsu
  try dsimp only
  refine Qc (k:=Vv (k:=Wq (Za (k:=Zi (t:=fun h12 => ?_) (f:=fun h12 => ?_)))))
  ·
   refine Zk (k:=Ya (Za (k:=Zb (k:=Qc (k:=Qv (k:=Wq (Za (k:=Qc (k:=?_)))))))))
   refine Qv (k:=Qv (k:=Wq (Zi (t:=fun h17 => ?_) (f:=fun h17 => ?_))))
   ·
    refine Ze (k:=Xa (Xo (k:=Xa (Xi (Xb ?_)))))
    exact zb143join14
   ·
    refine Zk (k:=Ya (Za (k:=Za (k:=Dw [] (k:=?_)))))
    refine Dv 0 (k:=Dv 1 (k:=Dv 2 (k:=Dv 3 (k:=Dv 4 (k:=Dv 5 (k:=Dv 6 (k:=Gd 6 (t:=fun h24 => ?_) (f:=fun h24 => ?_))))))))
    ·
     refine D1 7 (k:=D1 8 (k:=D1 9 (k:=D1 10 (k:=D1 11 (k:=D1 12 (k:=D1 13 (k:=D1 14 (k:=D1 15 (k:=DP1 16 (k:=Dd (k:=Ya ?_)))))))))))
     refine Z1 (k:=Ze (k:=Xa (Xb (Ya (Zr (k:=Qv (k:=Wn ?_)))))))
     exact zb143next0
    ·
     refine Di 7 (t:=U0 (h:=Uv)) (k:=Di 8 (t:=U0 (h:=Uv)) (k:=Di 9 (t:=U0 (h:=Uv)) (k:=Di 10 (t:=U0 (h:=Uv)) (k:=?_))))
     refine d_first 11 rfl rfl rfl (by kernel_rfl) (by kernel_rfl) (tl_in (b := false) rfl (tl_pv (pv_indexm (m := j + n) Tryz.underlying9 rfl rfl rfl (by omega)))) ?_
     refine Di 12 (t:=U0 (h:=Uv)) (k:=Di 13 (t:=U0 (h:=Uv)) (k:=?_))
     refine d_first 14 rfl rfl rfl (by kernel_rfl) (by kernel_rfl) (tl_in (b := false) rfl (tl_pv (pv_indexm (m := n) Tryz.underlying9 rfl rfl rfl (by omega)))) ?_
     refine Di 15 (t:=U0 (h:=Uv)) (k:=DP0 16 (k:=Dd (k:=Ya (Zi (t:=fun h34 => ?_) (f:=fun h34 => ?_)))))
     ·
      refine Ze (k:=Xa (Xb (Ya (Zr (k:=Qv (k:=Wn ?_))))))
      exact zb143next0
     ·
      refine Zk (k:=Ya (Qc (k:=Vv (k:=Wq ?_))))
      refine p_cut (fun (i : { k : Nat // k = lcpN (src.drop j) rest }) => [(0, vS src), (1, vS rest), (4, vI f), (5, vI n), (6, vI j), (7, vI i.1), (10, vI src.length), (11, vI j)]) (fun (i : { k : Nat // k = lcpN (src.drop j) rest }) => []) rfl (fun i => ?_) ?_
      ·
       obtain ⟨k, hk⟩ := i
       dsimp only
       try dsimp only
       refine Qc (k:=Qv (k:=Vv (k:=Wq (Zi (t:=fun h63 => ?_) (f:=fun h63 => ?_)))))
       ·
        refine Zr (k:=Qv (k:=Qv (k:=Wn (Yb (Ya (Zr (k:=Qv (k:=Wn ?_))))))))
        exact zb143next0
       ·
        refine Zk (k:=Yb (Ya (Zr (k:=Qv (k:=Wn ?_)))))
        exact zb143next0
      ·
       refine Zb (k:=?_)
       refine p_loop (fun (i : { k : Nat // k ≤ rest.length ∧ j + k ≤ src.length ∧ lcpN (src.drop j) rest = k + lcpN (src.drop (j + k)) (rest.drop k) }) => [(0, vS src), (1, vS rest), (4, vI f), (5, vI n), (6, vI j), (7, vI i.1), (10, vI src.length), (11, vI j)]) (fun (i : { k : Nat // k ≤ rest.length ∧ j + k ≤ src.length ∧ lcpN (src.drop j) rest = k + lcpN (src.drop (j + k)) (rest.drop k) }) => []) (fun (i : { k : Nat // k ≤ rest.length ∧ j + k ≤ src.length ∧ lcpN (src.drop j) rest = k + lcpN (src.drop (j + k)) (rest.drop k) }) => rest.length - i.1) rfl (⟨0, Nat.zero_le _, by omega, by simp⟩) ?_ ?_ (fun i => ?_)
       · exact ⟨rfl, rfl, rfl, rfl, rfl, rfl, rfl, rfl, trivial⟩
       ·
        exact ent_pick
       obtain ⟨k, hk1, hk2, hk3⟩ := i
       dsimp only
       have hd1 : (src.drop (j + k)).getD 0 0 = src.getD (j + k) 0 := by simp [List.getD_eq_getElem?_getD, List.getElem?_drop]
       have hd2 : (rest.drop k).getD 0 0 = rest.getD k 0 := by simp [List.getD_eq_getElem?_getD, List.getElem?_drop]
       have hcc : ((src.getD (j + k) 0).toNat : Int) = ((rest.getD k 0).toNat : Int) → src.getD (j + k) 0 = rest.getD k 0 := fun h => UInt8.toNat_inj.1 (by omega)
       try dsimp only
       refine Za (k:=Qc (k:=Qv (k:=Qv (k:=Vv (k:=Gi 4 (t:=fun h39 => ?_) (f:=fun h39 => ?_))))))
       ·
        refine J1 (k:=J1 (k:=J1 (k:=J1 (k:=J1 (k:=J1 (k:=?_))))))
        refine P1 (k:=Wq (Zi (t:=fun h46 => ?_) (f:=fun h46 => ?_)))
        ·
         refine Zk (k:=Ya (Zb (k:=Za (k:=Za (k:=Dw [] (k:=?_))))))
         refine Dv 0 (k:=Dv 1 (k:=Dv 2 (k:=Dv 3 (k:=?_))))
         refine d_first 4 rfl rfl rfl (by kernel_rfl) (by kernel_rfl) (tl_pv (pv_indexm (m := j + k) Tryz.underlying9 rfl rfl rfl (by omega))) ?_
         refine Dv 5 (k:=Dv 6 (k:=?_))
         refine d_first 7 rfl rfl rfl (by kernel_rfl) (by kernel_rfl) (tl_pv (pv_indexm (m := k) Tryz.underlying9 rfl rfl rfl (by omega))) ?_
         refine Dv 8 (k:=Dd (k:=Ya (Zi (t:=fun h55 => ?_) (f:=fun h55 => ?_))))
         ·
          have hlk : lcpN (src.drop j) rest = k := by
           have := lcp_ne (src.drop (j + k)) (rest.drop k) 0 (by rw [hd1, hd2]; exact fun e => h55 (by rw [e]))
           omega
          refine Za (k:=Qc (k:=Qv (k:=Vv (k:=Wq (Zi (t:=fun h58 => ?_) (f:=fun h58 => ?_))))))
          ·
           refine Ze (k:=Xa (Xa (Xo (k:=Xi (Xo (k:=Xi (Xb (Ya (Zr (k:=Qv (k:=?_)))))))))))
           refine Wn ?_
           exact zb143next0
          ·
           refine Zk (k:=Ya (Ze (k:=Xa (Xo (k:=Xi (Xb ?_))))))
           exact zb143join11
         ·
          refine Zk (k:=Ya (Zr (k:=Qv (k:=Vv (k:=Wn (Yb ?_))))))
          refine to_inv ⟨k + 1, by omega, by omega, ?_⟩ (by dsimp only; omega) ⟨rfl, rfl, rfl, rfl, rfl, rfl, rfl, rfl, trivial⟩ ent_nil
          have h3 := lcp_step (s := src.drop (j + k)) (t := rest.drop k) (fun e => by have := congrArg List.length e; rw [List.length_drop] at this; simp at this; omega) (fun e => by have := congrArg List.length e; rw [List.length_drop] at this; simp at this; omega) (by rw [hd1, hd2]; exact hcc (Classical.not_not.1 h55))
          rw [hk3, h3, List.drop_drop, List.drop_drop]
          rw [show j + (k + 1) = j + k + 1 by omega]
          omega
        ·
         refine Ze (k:=Xa (Xi (Xb ?_)))
         exact zb143join11
       ·
        refine O0 (k:=O0 (k:=O0 (k:=O0 (k:=O0 (k:=O0 (k:=P0 (k:=Wq (Z0 (k:=Ze (k:=Xa (Xi ?_)))))))))))
        refine Xb ?_
        exact zb143join11
  ·
   refine Ze (k:=Xa (Xi (Xb ?_)))
   exact zb143join14
/-- A command that puts a text. -/
def plainB (s : Bs) : Bs := if s = [] then [] else putN s.length ++ [58] ++ s
theorem delta_plain_sp (s : Bs) (hs : s.length ≤ 1073741824) : SpF Tryz.prog 144 [vS s] (vS (plainB s)) := by
 have hp := putN_len hs
 refine Sp.body (n := 11) Tryz.call144 Tryz.func144 rfl rfl rfl ?_
 refine Qc (k:=Vv (k:=Wq (Za (k:=Qc (k:=Qv (k:=Wq (Zi (t:=fun h4 => ?_) (f:=fun h4 => ?_))))))))
 ·
  refine Qc (k:=Vv (k:=Wq (Zt (k:=Va ?_))))
  refine fin_ret () (vs := [_]) (Cs := []) rfl (.tmp rfl .nil) ?_ trivial ent_nil
  rw [plainB, if_pos h4]; rfl
 ·
  refine Zk (k:=Ya (Qc (k:=Qv (k:=?_))))
  refine r_callF (digit_Put_sp s.length hs) rfl rfl rfl ?_
  refine wo_pv (pv_cat rfl rfl (by simp only [List.length_singleton]; omega)) rfl ?_
  refine Vv (k:=?_)
  refine wo_pv (pv_cat rfl rfl (by simp only [List.length_append, List.length_singleton]; omega)) rfl ?_
  refine Vv (k:=Wq (Zt (k:=?_)))
  refine fin_ret () (vs := [_]) (Cs := []) rfl (.tmp rfl .nil) ?_ trivial ent_nil
  rw [plainB, if_neg h4]; rfl
theorem plainB_len {s : Bs} (h : s.length ≤ 1073741824) : (plainB s).length ≤ s.length + 7 := by
 have := putN_len h
 unfold plainB
 split
 · simp
 · simp only [List.length_append, List.length_singleton]; omega
/-! Making a delta. -/
def copyB (n f : Nat) (p : Bs) : Bs := p ++ putN n ++ [64] ++ putN f ++ [44]
def mkF (src tgt : Bs) : Nat → Nat → Nat → Bs → Bs
 | 0, _, done, out => out ++ plainB (tgt.drop done) ++ putN (chkB tgt) ++ [59]
 | k + 1, i, done, out => if tgt.length ≤ i then out ++ plainB (tgt.drop done) ++ putN (chkB tgt) ++ [59]
   else if (lonB src (tgt.drop i)).2 < 16 then mkF src tgt k (i + 1) done out
   else mkF src tgt k (i + (lonB src (tgt.drop i)).2) (i + (lonB src (tgt.drop i)).2) (out ++ copyB (lonB src (tgt.drop i)).2 (lonB src (tgt.drop i)).1 (plainB ((tgt.drop done).take (i - done))))
theorem mkF_more (src tgt : Bs) : ∀ (k g i done : Nat) (out : Bs), tgt.length ≤ i + k → tgt.length ≤ i + g → mkF src tgt k i done out = mkF src tgt g i done out := by
 intro k
 induction k with
 | zero =>
   intro g i done out h1 h2
   cases g with
   | zero => rfl
   | succ g => rw [mkF, mkF, if_pos (by omega)]
 | succ k ih =>
   intro g i done out h1 h2
   cases g with
   | zero => rw [mkF, mkF, if_pos (by omega)]
   | succ g =>
     rw [mkF, mkF]
     split
     · rfl
     · split
       · exact ih g _ _ _ (by omega) (by omega)
       · exact ih g _ _ _ (by omega) (by omega)
def makeB (src tgt : Bs) : Bs := if 300 < tgt.length then [] else mkF src tgt tgt.length 0 0 (putN tgt.length ++ [10])
theorem mkF_step (src tgt : Bs) {i : Nat} (h : i < tgt.length) (done : Nat) (out : Bs) : mkF src tgt tgt.length i done out = if (lonB src (tgt.drop i)).2 < 16 then mkF src tgt tgt.length (i + 1) done out
    else mkF src tgt tgt.length (i + (lonB src (tgt.drop i)).2) (i + (lonB src (tgt.drop i)).2) (out ++ copyB (lonB src (tgt.drop i)).2 (lonB src (tgt.drop i)).1 (plainB ((tgt.drop done).take (i - done)))) := by
 obtain ⟨k, hk⟩ : ∃ k, tgt.length = k + 1 := ⟨tgt.length - 1, by omega⟩
 conv => lhs; rw [hk, mkF, if_neg (by omega)]
 split
 · exact mkF_more _ _ _ _ _ _ _ (by omega) (by omega)
 · exact mkF_more _ _ _ _ _ _ _ (by omega) (by omega)
theorem mkF_end (src tgt : Bs) {i : Nat} (h : tgt.length ≤ i) (done : Nat) (out : Bs) : mkF src tgt tgt.length i done out = out ++ plainB (tgt.drop done) ++ putN (chkB tgt) ++ [59] := by
 rw [mkF_more src tgt tgt.length 0 i done out (by omega) (by omega)]; rfl
theorem zb96next0 {G : Prop} (h : G := by
    first
    | exact to_inv ⟨(i + 1, done, out), by dsimp only; omega, by dsimp only; omega, ho, hm⟩ (by dsimp only; omega) ⟨rfl, rfl, rfl, rfl, rfl, trivial⟩ ent_nil
    | exact to_inv ⟨(i + n, i + n, out ++ copyB n f (plainB ((tgt.drop done).take (i - done)))), by dsimp only; omega, by dsimp only; omega, by dsimp only [copyB]; simp only [List.length_append, List.length_singleton]; omega, hm⟩ (by dsimp only; omega) ⟨rfl, rfl, rfl, rfl, rfl, trivial⟩ ent_nil) : G := h
set_option maxHeartbeats 4000000 in
theorem delta_Make_sp (src tgt : Bs) (hs : src.length ≤ 1073741824) (ht : tgt.length ≤ 1073741824) : SpF Tryz.prog 96 [vS src, vS tgt] (vS (makeB src tgt)) := by
 refine Sp.body (n := 63) Tryz.call96 Tryz.func96 rfl rfl rfl ?_
 refine Qc (k:=Vv (k:=Wq (Za (k:=Qc (k:=Qv (k:=Vv (k:=Wq (Zi (t:=fun h12 => ?_) (f:=fun h12 => ?_)))))))))
 ·
  refine Qc (k:=Vv (k:=Wq (Zt (k:=Va ?_))))
  refine fin_ret () (vs := [_]) (Cs := []) rfl (.tmp rfl .nil) ?_ trivial ent_nil
  rw [makeB, if_pos (by omega)]; rfl
 ·
  have h300 : tgt.length ≤ 300 := by omega
  have hpl := putN_len (n := tgt.length) (by omega)
  have hmk : makeB src tgt = mkF src tgt tgt.length 0 0 (putN tgt.length ++ [10]) := by rw [makeB, if_neg (by omega)]
  rw [hmk]
  clear hmk
  refine Zk (k:=Ya (Qc (k:=Qv (k:=?_))))
  refine r_callF (digit_Put_sp tgt.length (by omega)) rfl rfl rfl ?_
  refine wo_pv (pv_cat rfl rfl (by simp only [List.length_singleton]; omega)) rfl ?_
  refine Vv (k:=Wq (Qc (k:=Vv (k:=Wq (Za (k:=Qc (k:=Vv (k:=Wq (Zb (k:=?_))))))))))
  refine p_loop (fun (i : { x : Nat × Nat × Bs // x.2.1 ≤ x.1 ∧ x.1 ≤ tgt.length ∧ x.2.2.length ≤ 7 + 30 * x.2.1 ∧ mkF src tgt tgt.length 0 0 (putN tgt.length ++ [10]) = mkF src tgt tgt.length x.1 x.2.1 x.2.2 }) => [(0, vS src), (1, vS tgt), (5, vS i.1.2.2), (6, vI i.1.2.1), (7, vI i.1.1)]) (fun (i : { x : Nat × Nat × Bs // x.2.1 ≤ x.1 ∧ x.1 ≤ tgt.length ∧ x.2.2.length ≤ 7 + 30 * x.2.1 ∧ mkF src tgt tgt.length 0 0 (putN tgt.length ++ [10]) = mkF src tgt tgt.length x.1 x.2.1 x.2.2 }) => []) (fun (i : { x : Nat × Nat × Bs // x.2.1 ≤ x.1 ∧ x.1 ≤ tgt.length ∧ x.2.2.length ≤ 7 + 30 * x.2.1 ∧ mkF src tgt tgt.length 0 0 (putN tgt.length ++ [10]) = mkF src tgt tgt.length x.1 x.2.1 x.2.2 }) => tgt.length - i.1.1) rfl (⟨(0, 0, putN tgt.length ++ [10]), Nat.le_refl _, Nat.zero_le _, by dsimp only; rw [List.length_append, List.length_singleton]; omega, rfl⟩) ?_ ?_ (fun i => ?_)
  · exact ⟨rfl, rfl, rfl, rfl, rfl, trivial⟩
  ·
   exact ent_pick
  obtain ⟨⟨i, done, out⟩, hdi, hi, ho, hm⟩ := i
  dsimp only at hdi hi ho hm ⊢
  try dsimp only
  refine Za (k:=Qc (k:=Qv (k:=Qv (k:=Wq (Zi (t:=fun h20 => ?_) (f:=fun h20 => ?_))))))
  ·
   refine Zk (k:=Ya (Zb (k:=Za (k:=?_))))
   have hil : i < tgt.length := by omega
   rw [mkF_step src tgt hil] at hm
   have hrl : (tgt.drop i).length = tgt.length - i := List.length_drop
   have hle := lonF_le src (tgt.drop i) (Nat.le_refl src.length)
   change (lonB src (tgt.drop i)).1 + (lonB src (tgt.drop i)).2 ≤ _ ∧ (lonB src (tgt.drop i)).2 ≤ _ ∧ _ at hle
   have hL := delta_longest_sp src (tgt.drop i) hs (by omega)
   obtain ⟨f, n, hfn⟩ : ∃ f n, lonB src (tgt.drop i) = (f, n) := ⟨_, _, rfl⟩
   rw [hfn] at hm hle hL
   dsimp only at hm hle hL
   rw [hrl] at hle
   refine Zr (k:=Qv (k:=Qv (k:=?_)))
   refine r_callF hL rfl rfl rfl ?_
   refine Vv (k:=?_)
   refine wo_pv (pv_extract (v := vI f) rfl rfl) rfl ?_
   refine wo_pv (pv_extract (v := vI n) rfl rfl) rfl ?_
   refine Qv (k:=Wq (Za (k:=Qc (k:=Qv (k:=Wq (Zi (t:=fun h30 => ?_) (f:=fun h30 => ?_)))))))
   ·
    rw [if_pos (by omega)] at hm
    refine Qc (k:=Qv (k:=Vv (k:=Wq (Ze (k:=Xa (Xb ?_))))))
    exact zb96next0
   ·
    rw [if_neg (by omega)] at hm
    have hpt : ((tgt.drop done).take (i - done)).length = i - done := by rw [List.length_take, List.length_drop]; omega
    have hpp := plainB_len (s := (tgt.drop done).take (i - done)) (by omega)
    have hpn := putN_len (n := n) (by omega)
    have hpf := putN_len (n := f) (by omega)
    refine Zk (k:=Ya (Qc (k:=Qv (k:=Qv (k:=?_)))))
    refine wo_pv (pv_slice_inm (m := done) (o := i) Tryz.underlying9 rfl rfl rfl rfl rfl (by omega) (by omega)) rfl ?_
    refine r_callF (delta_plain_sp _ (by omega)) rfl rfl rfl ?_
    refine Vv (k:=?_)
    refine r_callF (digit_Put_sp n (by omega)) rfl rfl rfl ?_
    refine wo_pv (pv_cat rfl rfl (by omega)) rfl ?_
    refine wo_pv (pv_cat rfl rfl (by simp only [List.length_append, List.length_singleton]; omega)) rfl ?_
    refine Vv (k:=?_)
    refine r_callF (digit_Put_sp f (by omega)) rfl rfl rfl ?_
    refine wo_pv (pv_cat rfl rfl (by simp only [List.length_append, List.length_singleton]; omega)) rfl ?_
    refine wo_pv (pv_cat rfl rfl (by simp only [List.length_append, List.length_singleton]; omega)) rfl ?_
    refine wo_pv (pv_cat rfl rfl (by simp only [List.length_append, List.length_singleton]; omega)) rfl ?_
    refine Vv (k:=Wq (Qc (k:=Qv (k:=Qv (k:=Wq (Zr (k:=Qv (k:=?_))))))))
    refine Wn (Yb ?_)
    exact zb96next0
  ·
   refine Ze (k:=Xa (Xi (Xb (Ya (Za (k:=?_))))))
   rw [hm, mkF_end src tgt (by omega)]
   have hpd : (tgt.drop done).length = tgt.length - done := List.length_drop
   have hpp := plainB_len (s := tgt.drop done) (by omega)
   have hpc := putN_len (chkB_lt tgt)
   refine Zr (k:=Qv (k:=Qv (k:=?_)))
   refine r_callF (delta_plain_sp _ (by omega)) rfl rfl rfl ?_
   refine wo_pv (pv_cat rfl rfl (by omega)) rfl ?_
   refine Vv (k:=?_)
   refine r_callF (delta_Check_sp tgt (by omega)) rfl rfl rfl ?_
   refine r_callF (digit_Put_sp (chkB tgt) (chkB_lt tgt)) rfl rfl rfl ?_
   refine wo_pv (pv_cat rfl rfl (by simp only [List.length_append]; omega)) rfl ?_
   refine wo_pv (pv_cat rfl rfl (by simp only [List.length_append, List.length_singleton]; omega)) rfl ?_
   refine Vv (k:=Wq (Zt (k:=?_)))
   exact fin_ret () (vs := [_]) (Cs := []) rfl (.tmp rfl .nil) rfl trivial ent_nil
end
end Go.Proofs.YtibccdcemcgkeaaGreat
