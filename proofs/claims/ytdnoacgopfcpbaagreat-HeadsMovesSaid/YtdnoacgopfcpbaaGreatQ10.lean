/- Texts of this proof, put together: SEsc, SBuf, Args, SCard. -/
import Derived.Lib.MakeNoZero
import Derived.ChangeArms
import Derived.DataReads
import Derived.WideShapes
import Derived.Test.YtdnoacgopfcpbaaGreatQ09
set_option linter.unusedVariables false
set_option linter.unusedSimpArgs false
namespace Go.Proofs.YtdnoacgopfcpbaaGreat
section
set_option maxRecDepth 100000
theorem WriteByte_sp (p : Nat) (l : List UInt8) (c : UInt8) (h : l.length + 1 ≤ 140737488355328) : Sp1 Tryz.prog 156 [.pointer (some ⟨p, 0, none⟩), vU c.toNat] [IsB p l] .nilIface [IsB p (l ++ [c])] := by
 refine Sp.body (n := 17) Tryz.call156 Tryz.func156 rfl rfl rfl ?_
 refine wc_exi fun q1 => wc_exi fun q2 => wc_al (wc_pu fun hq => ?_)
 refine Qc (k:=Vv (k:=Wq (Qc (k:=Vv (k:=?_)))))
 refine r_call1 (copyCheck_sp p q1 q2 hq.1) rfl rfl rfl ?_
 refine Wq (Qc (k:=Qv (k:=Vv (k:=Qx 1 56 (k:=Vv (k:=Zv [_] (cs := [_]) (k:=fun b13 => ?_)))))))
 refine r_append1 (sz := 1) (bytes := 1) Tryz.underlying56 ti5 rfl rfl rfl rfl rfl rfl rfl (by rfl) (by rfl) (by omega) (by simp only [maxLen]; omega) rfl (fun a14 c14 => ?_)
 refine Vv (k:=Vf 1 56 (k:=?_))
 refine r_store ti56 rfl rfl rfl rfl (by simp) ?_
 refine Wq (Qc (k:=Vv (k:=Wq (Zt (k:=?_)))))
 refine fin_ret () (vs := [_]) (Cs := []) rfl (.tmp rfl .nil) rfl trivial ?_
 refine ent_ex (.pointer (some ⟨p, 0, none⟩)) ?_
 refine ent_ex (.slice a14 (l.length + 1) c14) ?_
 refine ent_al ?_
 have e1 : (l ++ [c]).length = l.length + 1 := List.length_append
 have e2 : vUs (l ++ [c]) = vUs l ++ [vU c.toNat] := by simp [vUs]
 rw [e1, e2]
 refine ent_pu ⟨.inr rfl, fun e => by omega⟩ ent_pick
theorem zb163next0 {G : Prop} (h : G := by
    refine to_inv ⟨j + 1, by omega⟩ (by dsimp only; omega) ⟨rfl, rfl, rfl, rfl, trivial⟩ ?_
    dsimp only
    rw [hsu]
    exact ent_pick) : G := h
theorem escape_Put_sp (s : Bs) (hs : s.length ≤ 1099511627776) : SpF Tryz.prog 163 [vS s] (vS (escB s)) := by
 refine Sp.body (n := 28) Tryz.call163 Tryz.func163 rfl rfl rfl ?_
 refine Qc (k:=Vv (k:=Wq (Qc (k:=Zc [.pointer none, .slice none 0 0] (k:=fun b3 => ?_)))))
 refine wo_ent' (fold_newB (p := b3) (by rfl) (by rfl) (by rfl)) ?_
 refine Wq (Za (k:=Qc (k:=Qv (k:=Vv (k:=Wq (Zb (k:=?_)))))))
 refine p_loop (fun (i : { j : Nat // j ≤ s.length }) => [(0, vS s), (3, .pointer (some ⟨b3, 0, none⟩)), (6, vI s.length), (7, vI i.1)]) (fun (i : { j : Nat // j ≤ s.length }) => [IsB b3 (escB (s.take i.1))]) (fun (i : { j : Nat // j ≤ s.length }) => s.length - i.1) rfl (⟨0, Nat.zero_le _⟩) ?_ ?_ (fun i => ?_)
 · exact ⟨rfl, rfl, rfl, rfl, trivial⟩
 ·
  exact Ent.refl _
 obtain ⟨j, hj⟩ := i
 dsimp only
 try dsimp only
 refine Qc (k:=Vv (k:=Wq (Za (k:=Zi (t:=fun h8 => ?_) (f:=fun h8 => ?_)))))
 ·
  refine Zk (k:=Ya (Za (k:=Zb (k:=Za (k:=?_)))))
  have hjl : j < s.length := by omega
  have htl := (escB_len (s.take j)).2
  rw [List.length_take] at htl
  have hsu : escB (s.take (j + 1)) = escB (s.take j) ++ escC (s.getD j 0) := by
   rw [List.take_succ_eq_append_getElem hjl, escB_app]; simp [escB, hjl]
  refine Zr (k:=Qv (k:=Wq (Qc (k:=Qv (k:=Vv (k:=Wq (Zb (k:=Za (k:=?_)))))))))
  refine Zr (k:=Qv (k:=Wq (Zi (t:=fun h17 => ?_) (f:=fun h17 => ?_))))
  ·
   refine Zr (k:=?_)
   refine r_call1 (WriteString_sp b3 (escB (s.take j)) [92, 115] (by simp only [List.length_cons, List.length_nil]; omega)) rfl rfl rfl ?_
   rw [escC, if_pos (by omega)] at hsu
   refine Wn (Yb (Yb (Ya (Zr (k:=Qv (k:=Wn ?_))))))
   exact zb163next0
  ·
   refine Qc (k:=Qv (k:=Wq (Zi (t:=fun h20 => ?_) (f:=fun h20 => ?_))))
   ·
    refine Zr (k:=?_)
    refine r_call1 (WriteString_sp b3 (escB (s.take j)) [92, 110] (by simp only [List.length_cons, List.length_nil]; omega)) rfl rfl rfl ?_
    rw [escC, if_neg (by omega), if_pos (by omega)] at hsu
    refine Wn (Yb (Yb (Ya (Zr (k:=Qv (k:=Wn ?_))))))
    exact zb163next0
   ·
    refine Qc (k:=Qv (k:=Wq (Zi (t:=fun h23 => ?_) (f:=fun h23 => ?_))))
    ·
     refine Zr (k:=?_)
     refine r_call1 (WriteString_sp b3 (escB (s.take j)) [92, 92] (by simp only [List.length_cons, List.length_nil]; omega)) rfl rfl rfl ?_
     rw [escC, if_neg (by omega), if_neg (by omega), if_pos (by omega)] at hsu
     refine Wn (Yb (Yb (Ya (Zr (k:=Qv (k:=Wn ?_))))))
     exact zb163next0
    ·
     refine Zr (k:=Qv (k:=Vv (k:=?_)))
     refine r_call1 (WriteByte_sp b3 (escB (s.take j)) (s.getD j 0) (by omega)) rfl rfl rfl ?_
     rw [escC, if_neg (by omega), if_neg (by omega), if_neg (by omega)] at hsu
     refine Wn (Yb (Yb (Ya (Zr (k:=Qv (k:=Wn ?_))))))
     exact zb163next0
 ·
  refine Ze (k:=Xa (Xi (Xb (Ya (Za (k:=?_))))))
  have hjl : j = s.length := by omega
  subst hjl
  rw [List.take_length]
  refine Zr (k:=?_)
  refine r_call1 (String_sp b3 (escB s) (by have := (escB_len s).2; omega)) rfl rfl rfl ?_
  refine Vv (k:=Wq (Zt (k:=?_)))
  refine fin_ret () (vs := [_]) (Cs := []) rfl (.tmp rfl .nil) rfl trivial ?_
  exact ent_nil
theorem zb50next0 {G : Prop} (h : G := by refine to_inv ⟨j + 1, by omega⟩ (by dsimp only; omega) ⟨rfl, by rw [hsu]; rfl, rfl, trivial⟩ ent_nil) : G := h
theorem ref10_Escape_sp (s : Bs) (hs : s.length ≤ 1099511627776) : SpF Tryz.prog 50 [vS s] (vS (escB s)) := by
 refine Sp.body (n := 34) Tryz.call50 Tryz.func50 rfl rfl rfl ?_
 refine Qc (k:=Vv (k:=Wq (Qc (k:=Vv (k:=Wq (Za (k:=Qc (k:=Vv (k:=?_)))))))))
 refine Wq (Zb (k:=?_))
 refine p_loop (fun (i : { j : Nat // j ≤ s.length }) => [(0, vS s), (3, vS (escB (s.take i.1))), (4, vI i.1)]) (fun (i : { j : Nat // j ≤ s.length }) => []) (fun (i : { j : Nat // j ≤ s.length }) => s.length - i.1) rfl (⟨0, Nat.zero_le _⟩) ?_ ?_ (fun i => ?_)
 · exact ⟨rfl, rfl, rfl, trivial⟩
 ·
  exact ent_nil
 obtain ⟨j, hj⟩ := i
 dsimp only
 have htl := (escB_len (s.take j)).2
 rw [List.length_take] at htl
 try dsimp only
 refine Za (k:=Qc (k:=Qv (k:=Qv (k:=Wq (Zi (t:=fun h8 => ?_) (f:=fun h8 => ?_))))))
 ·
  refine Zk (k:=Ya (Za (k:=Zb (k:=Za (k:=?_)))))
  have hjl : j < s.length := by omega
  have hsu : escB (s.take (j + 1)) = escB (s.take j) ++ escC (s.getD j 0) := by
   rw [List.take_succ_eq_append_getElem hjl, escB_app]; simp [escB, hjl]
  refine Zr (k:=Qv (k:=Vv (k:=Wq (Zb (k:=Qc (k:=Qv (k:=Wq (Zi (t:=fun h21 => ?_) (f:=fun h21 => ?_)))))))))
  ·
   rw [escC, if_pos (by omega)] at hsu
   refine Zr (k:=Qv (k:=Vv (k:=Wn (Yb (Yb (Ya (Zr (k:=Qv (k:=Vv (k:=?_))))))))))
   refine Wn ?_
   exact zb50next0
  ·
   refine Qc (k:=Qv (k:=Wq (Zi (t:=fun h25 => ?_) (f:=fun h25 => ?_))))
   ·
    rw [escC, if_neg (by omega), if_pos (by omega)] at hsu
    refine Zr (k:=Qv (k:=Vv (k:=Wn (Yb (Yb (Ya (Zr (k:=Qv (k:=Vv (k:=?_))))))))))
    refine Wn ?_
    exact zb50next0
   ·
    refine Qc (k:=Qv (k:=Wq (Zi (t:=fun h29 => ?_) (f:=fun h29 => ?_))))
    ·
     rw [escC, if_neg (by omega), if_neg (by omega), if_pos (by omega)] at hsu
     refine Zr (k:=Qv (k:=Vv (k:=Wn (Yb (Yb (Ya (Zr (k:=Qv (k:=Vv (k:=?_))))))))))
     refine Wn ?_
     exact zb50next0
    ·
     rw [escC, if_neg (by omega), if_neg (by omega), if_neg (by omega)] at hsu
     refine Zr (k:=Qv (k:=Qv (k:=Vv (k:=?_))))
     refine wo_pv (pv_slice_inm (m := j) (o := j + 1) Tryz.underlying9 rfl rfl rfl rfl (by omega) (by omega) (by omega)) rfl ?_
     have hone : (s.drop j).take (j + 1 - j) = [s.getD j 0] := by
      rw [drop_cons' hjl, show j + 1 - j = 1 from by omega]; rfl
     rw [hone]
     refine Qv (k:=Wn (Yb (Yb (Ya (Zr (k:=Qv (k:=Vv (k:=Wn ?_))))))))
     exact zb50next0
 ·
  refine Ze (k:=Xa (Xi (Xb (Ya (Qc (k:=Qv (k:=Wq (Zt (k:=?_)))))))))
  have hjl : j = s.length := by omega
  subst hjl
  rw [List.take_length]
  exact fin_ret () (vs := [_]) (Cs := []) rfl (.tmp rfl .nil) rfl trivial ent_nil
/-- What a word reads as. -/
def unV (s : Bs) : Value := .tuple #[vS ((unescB s).getD []), vB (unescB s).isSome]
theorem map_map_app {x : Option Bs} {a b : Bs} : (x.map (b ++ ·)).map (a ++ ·) = x.map ((a ++ b) ++ ·) := by cases x <;> simp
theorem map_nil_app (x : Option Bs) : x = x.map ([] ++ ·) := by cases x <;> rfl
theorem unesc_len : ∀ (n : Nat) (s t : Bs), s.length ≤ n → unescB s = some t → t.length ≤ s.length := by
 intro n
 induction n with
 | zero =>
   intro s t hs h
   have : s = [] := List.eq_nil_of_length_eq_zero (by omega)
   subst this
   cases h; simp
 | succ n ih =>
   intro s t hs h
   cases s with
   | nil => cases h; simp
   | cons c r =>
     simp only [List.length_cons] at hs ⊢
     rw [unescB_eq] at h
     split at h
     · split at h
       · cases h
       · rename_i d r'
         simp only [List.length_cons] at hs ⊢
         split at h
         · cases h
         · cases e : unescB r' with
           | none => rw [e] at h; cases h
           | some u =>
             rw [e] at h
             cases h
             have := ih r' u (by omega) e
             simp only [List.length_cons]; omega
     · split at h
       · cases h
       · cases e : unescB r with
         | none => rw [e] at h; cases h
         | some u =>
           rw [e] at h
           cases h
           have := ih r u (by omega) e
           simp only [List.length_cons]; omega
theorem unescB_len {s t : Bs} (h : unescB s = some t) : t.length ≤ s.length := unesc_len _ s t (Nat.le_refl _) h
theorem un_plain {s : Bs} {i : Nat} (h : i < s.length) (h1 : (s.getD i 0).toNat ≠ 92) (h2 : (s.getD i 0).toNat ≠ 32) (h3 : (s.getD i 0).toNat ≠ 10) : unescB (s.drop i) = (unescB (s.drop (i + 1))).map ([s.getD i 0] ++ ·) := by
 rw [drop_cons' h, unescB_eq, if_neg h1, if_neg (by omega)]; rfl
theorem un_bad {s : Bs} {i : Nat} (h : i < s.length) (h1 : (s.getD i 0).toNat ≠ 92) (h2 : (s.getD i 0).toNat = 32 ∨ (s.getD i 0).toNat = 10) : unescB (s.drop i) = none := by
 rw [drop_cons' h, unescB_eq, if_neg h1, if_pos h2]
theorem un_last {s : Bs} {i : Nat} (h : i < s.length) (h1 : (s.getD i 0).toNat = 92) (h2 : i + 1 = s.length) : unescB (s.drop i) = none := by
 rw [drop_cons' h, unescB_eq, if_pos h1, h2, List.drop_length]
theorem un_two {s : Bs} {i : Nat} (h : i < s.length) (h1 : (s.getD i 0).toNat = 92) (h2 : i + 1 < s.length) : unescB (s.drop i) = match unC (s.getD (i + 1) 0) with | none => none | some e => (unescB (s.drop (i + 2))).map ([e] ++ ·) := by
 rw [drop_cons' h, unescB_eq, if_pos h1, drop_cons' h2]
 rfl
theorem zb107next0 {G : Prop} (h : G := by
    rw [map_map_app] at hu
    first
    | exact to_inv ⟨(_, j + 1), by dsimp only; omega, by dsimp only; rw [List.length_append]; simp only [List.length_singleton]; omega, hu⟩ (by dsimp only; omega) ⟨rfl, rfl, rfl, trivial⟩ ent_pick
    | exact to_inv ⟨(_, j + 2), by dsimp only; omega, by dsimp only; rw [List.length_append]; simp only [List.length_singleton]; omega, hu⟩ (by dsimp only; omega) ⟨rfl, rfl, vI_eq (by dsimp only; omega), trivial⟩ ent_pick) : G := h
theorem zb107ret18 {G : Prop} (h : G := by
    rw [un_bad hjl (by omega) (by omega)] at hu
    refine fin_ret () (vs := [_, _]) (Cs := []) rfl (.tmp rfl (.tmp rfl .nil)) ?_ trivial ent_nil
    rw [unV, hu]; rfl) : G := h
theorem escape_Read_sp (s : Bs) (hs : s.length ≤ 1099511627776) : SpF Tryz.prog 107 [vS s] (unV s) := by
 refine Sp.body (n := 42) Tryz.call107 Tryz.func107 rfl rfl rfl ?_
 refine Qc (k:=Qv (k:=Wq (Qc (k:=Zc [.pointer none, .slice none 0 0] (k:=fun b4 => ?_)))))
 refine wo_ent' (fold_newB (p := b4) (by rfl) (by rfl) (by rfl)) ?_
 refine Wq (Za (k:=Qc (k:=Vv (k:=Wq (Zb (k:=?_))))))
 refine p_loop (fun (i : { x : Bs × Nat // x.2 ≤ s.length ∧ x.1.length ≤ x.2 ∧ unescB s = (unescB (s.drop x.2)).map (x.1 ++ ·) }) => [(0, vS s), (4, .pointer (some ⟨b4, 0, none⟩)), (5, vI i.1.2)]) (fun (i : { x : Bs × Nat // x.2 ≤ s.length ∧ x.1.length ≤ x.2 ∧ unescB s = (unescB (s.drop x.2)).map (x.1 ++ ·) }) => [IsB b4 i.1.1]) (fun (i : { x : Bs × Nat // x.2 ≤ s.length ∧ x.1.length ≤ x.2 ∧ unescB s = (unescB (s.drop x.2)).map (x.1 ++ ·) }) => s.length - i.1.2) rfl (⟨([], 0), Nat.zero_le _, Nat.zero_le _, map_nil_app (unescB s)⟩) ?_ ?_ (fun i => ?_)
 · exact ⟨rfl, rfl, rfl, trivial⟩
 ·
  exact Ent.refl _
 obtain ⟨⟨out, j⟩, hj, hol, hu⟩ := i
 dsimp only at hj hol hu ⊢
 try dsimp only
 refine Za (k:=Qc (k:=Qv (k:=Qv (k:=Wq (Zi (t:=fun h10 => ?_) (f:=fun h10 => ?_))))))
 ·
  refine Zk (k:=Ya (Za (k:=Zb (k:=Za (k:=?_)))))
  have hjl : j < s.length := by omega
  refine Zr (k:=Qv (k:=Qv (k:=Wq (Za (k:=Qc (k:=Qv (k:=Wq ?_)))))))
  refine Zi (t:=fun h17 => ?_) (f:=fun h17 => ?_)
  ·
   refine Za (k:=Qc (k:=Qv (k:=Vv (k:=Wq (Qc (k:=Qv (k:=Vv (k:=?_))))))))
   refine Vv (k:=Wq (Zi (t:=fun h23 => ?_) (f:=fun h23 => ?_)))
   ·
    refine Qc (k:=Qv (k:=Wq (Zt (k:=Va (Va (Vb (Va (Vi (Vb ?_)))))))))
    refine Va ?_
    rw [un_last hjl (by omega) (by omega)] at hu
    refine fin_ret () (vs := [_, _]) (Cs := []) rfl (.tmp rfl (.tmp rfl .nil)) ?_ trivial ent_nil
    rw [unV, hu]; rfl
   ·
    refine Zk (k:=Ya (Za (k:=?_)))
    have hj1 : j + 1 < s.length := by omega
    rw [un_two hjl (by omega) hj1] at hu
    refine Zr (k:=Qv (k:=?_))
    refine wo_pv (pv_indexm (m := j + 1) Tryz.underlying9 rfl rfl (by omega) (by omega)) rfl ?_
    refine Wq (Zb (k:=Qc (k:=Qv (k:=Wq (Zi (t:=fun h27 => ?_) (f:=fun h27 => ?_))))))
    ·
     rw [unC, if_pos (by omega)] at hu
     refine Zr (k:=Vv (k:=Wn (Yb (Ya (Zr (k:=Vv (k:=?_)))))))
     first
     | (rw [un_plain hjl (by omega) (by omega) (by omega)] at hu
        refine r_call1 (WriteByte_sp b4 out (s.getD j 0) (by omega)) rfl rfl rfl ?_)
     | refine r_call1 (WriteByte_sp b4 out 32 (by omega)) rfl rfl rfl ?_
     | refine r_call1 (WriteByte_sp b4 out 10 (by omega)) rfl rfl rfl ?_
     | (rw [hc92]; refine r_call1 (WriteByte_sp b4 out 92 (by omega)) rfl rfl rfl ?_)
     refine Wn (Yb (Ya (Zr (k:=Qv (k:=Vv (k:=Wn ?_))))))
     exact zb107next0
    ·
     refine Qc (k:=Qv (k:=Wq (Zi (t:=fun h29 => ?_) (f:=fun h29 => ?_))))
     ·
      rw [unC, if_neg (by omega), if_pos (by omega)] at hu
      refine Zr (k:=Vv (k:=Wn (Yb (Ya (Zr (k:=Vv (k:=?_)))))))
      first
      | (rw [un_plain hjl (by omega) (by omega) (by omega)] at hu
         refine r_call1 (WriteByte_sp b4 out (s.getD j 0) (by omega)) rfl rfl rfl ?_)
      | refine r_call1 (WriteByte_sp b4 out 32 (by omega)) rfl rfl rfl ?_
      | refine r_call1 (WriteByte_sp b4 out 10 (by omega)) rfl rfl rfl ?_
      | (rw [hc92]; refine r_call1 (WriteByte_sp b4 out 92 (by omega)) rfl rfl rfl ?_)
      refine Wn (Yb (Ya (Zr (k:=Qv (k:=Vv (k:=Wn ?_))))))
      exact zb107next0
     ·
      refine Qc (k:=Qv (k:=Wq (Zi (t:=fun h31 => ?_) (f:=fun h31 => ?_))))
      ·
       rw [unC, if_neg (by omega), if_neg (by omega), if_pos (by omega)] at hu
       have hc92 : s.getD j 0 = 92 := u8eq.2 (show _ = 92 by omega)
       refine Zk (k:=Yb (Ya (Zr (k:=Vv (k:=?_)))))
       first
       | (rw [un_plain hjl (by omega) (by omega) (by omega)] at hu
          refine r_call1 (WriteByte_sp b4 out (s.getD j 0) (by omega)) rfl rfl rfl ?_)
       | refine r_call1 (WriteByte_sp b4 out 32 (by omega)) rfl rfl rfl ?_
       | refine r_call1 (WriteByte_sp b4 out 10 (by omega)) rfl rfl rfl ?_
       | (rw [hc92]; refine r_call1 (WriteByte_sp b4 out 92 (by omega)) rfl rfl rfl ?_)
       refine Wn (Yb (Ya (Zr (k:=Qv (k:=Vv (k:=Wn ?_))))))
       exact zb107next0
      ·
       refine Qc (k:=Qv (k:=Wq (Zt (k:=Vb (Va (Vb (Va (Vi (Vb ?_)))))))))
       refine Va ?_
       rw [unC, if_neg (by omega), if_neg (by omega), if_neg (by omega)] at hu
       refine fin_ret () (vs := [_, _]) (Cs := []) rfl (.tmp rfl (.tmp rfl .nil)) ?_ trivial ent_nil
       rw [unV, hu]; rfl
  ·
   refine Qc (k:=Qv (k:=Vv (k:=Gi 2 (t:=fun h35 => ?_) (f:=fun h35 => ?_))))
   ·
    refine O1 (k:=O1 (k:=P1 (k:=Wq (Z1 (k:=Qc (k:=Qv (k:=Wq (Zt (k:=Va ?_)))))))))
    refine Vb (Va (Vi (Vb (Va ?_))))
    exact zb107ret18
   ·
    refine J0 (k:=J0 (k:=P0 (k:=Wq (Zi (t:=fun h38 => ?_) (f:=fun h38 => ?_)))))
    ·
     refine Qc (k:=Qv (k:=Wq (Zt (k:=Va (Vb (Va (Vi (Vb (Va ?_)))))))))
     exact zb107ret18
    ·
     refine Zk (k:=Ya (Zr (k:=Vv (k:=?_))))
     first
     | (rw [un_plain hjl (by omega) (by omega) (by omega)] at hu
        refine r_call1 (WriteByte_sp b4 out (s.getD j 0) (by omega)) rfl rfl rfl ?_)
     | refine r_call1 (WriteByte_sp b4 out 32 (by omega)) rfl rfl rfl ?_
     | refine r_call1 (WriteByte_sp b4 out 10 (by omega)) rfl rfl rfl ?_
     | (rw [hc92]; refine r_call1 (WriteByte_sp b4 out 92 (by omega)) rfl rfl rfl ?_)
     refine Wn (Yb (Ya (Zr (k:=Qv (k:=Vv (k:=Wn ?_))))))
     exact zb107next0
 ·
  refine Ze (k:=Xa (Xi (Xb (Ya (Za (k:=?_))))))
  have hjl : j = s.length := by omega
  subst hjl
  rw [unescB_end (Nat.le_refl _)] at hu
  simp only [Option.map_some, List.append_nil] at hu
  refine Zr (k:=?_)
  refine r_call1 (String_sp b4 out (by omega)) rfl rfl rfl ?_
  refine Qv (k:=Wq (Zt (k:=?_)))
  refine fin_ret () (vs := [_, _]) (Cs := []) rfl (.tmp rfl (.tmp rfl .nil)) ?_ trivial ent_nil
  rw [unV, hu]; rfl
theorem word_not {s : Bs} {j : Nat} (h : j < s.length) (hb : (s.getD j 0).toNat ≤ 32 ∨ 126 < (s.getD j 0).toNat ∨ (s.getD j 0).toNat = 92) : ¬ wordP s := by
 rintro ⟨h1, _⟩
 have := h1 (s.getD j 0) (by simp [h])
 omega
theorem word_all {s : Bs} (h : ∀ i, i < s.length → 32 < (s.getD i 0).toNat ∧ (s.getD i 0).toNat ≤ 126 ∧ (s.getD i 0).toNat ≠ 92) : wordP s ↔ 1 ≤ s.length ∧ s.length ≤ 12 :=
 ⟨fun x => x.2, fun x => ⟨fun c hc => by obtain ⟨i, hi, rfl⟩ := mem_getD (d := 0) hc; exact h i hi, x⟩⟩
theorem zb212ret5 {G : Prop} (h : G := by
    have hn := word_not hjl (by omega)
    refine fin_ret () (vs := [_]) (Cs := []) rfl (.tmp rfl .nil) ?_ trivial ent_nil
    rw [decide_eq_false hn]; rfl) : G := h
theorem zb212ret7 {G : Prop} (h : G := by
    refine fin_ret () (vs := [_]) (Cs := []) rfl (.tmp rfl .nil) ?_ trivial ent_nil
    show vB _ = vB _
    congr 1
    first
    | (have hp := List.length_pos_iff.2 h28
       refine decide_eq_decide.2 (Iff.trans ?_ hall.symm)
       constructor <;> intro h <;> omega)
    | (have hp : s = [] := by simpa using h28
       exact (decide_eq_false (fun h => by have := (hall.1 h).1; rw [hp] at this; simp at this)).symm)) : G := h
theorem escape_Word_sp (s : Bs) (hs : s.length ≤ 9223372036854775807) : SpF Tryz.prog 212 [vS s] (vB (decide (wordP s))) := by
 refine Sp.body (n := 33) Tryz.call212 Tryz.func212 rfl rfl rfl ?_
 refine Qc (k:=Vv (k:=Wq (Za (k:=Qc (k:=Qv (k:=Vv (k:=Wq (Zb (k:=?_)))))))))
 refine p_loop (fun (i : { j : Nat // j ≤ s.length ∧ ∀ i, i < j → 32 < (s.getD i 0).toNat ∧ (s.getD i 0).toNat ≤ 126 ∧ (s.getD i 0).toNat ≠ 92 }) => [(0, vS s), (5, vI s.length), (6, vI i.1)]) (fun (i : { j : Nat // j ≤ s.length ∧ ∀ i, i < j → 32 < (s.getD i 0).toNat ∧ (s.getD i 0).toNat ≤ 126 ∧ (s.getD i 0).toNat ≠ 92 }) => []) (fun (i : { j : Nat // j ≤ s.length ∧ ∀ i, i < j → 32 < (s.getD i 0).toNat ∧ (s.getD i 0).toNat ≤ 126 ∧ (s.getD i 0).toNat ≠ 92 }) => s.length - i.1) rfl (⟨0, Nat.zero_le _, fun i h => by omega⟩) ?_ ?_ (fun i => ?_)
 · exact ⟨rfl, rfl, rfl, trivial⟩
 ·
  exact ent_pick
 obtain ⟨j, hj, hin⟩ := i
 dsimp only
 try dsimp only
 refine Qc (k:=Vv (k:=Wq (Za (k:=Zi (t:=fun h7 => ?_) (f:=fun h7 => ?_)))))
 ·
  refine Zk (k:=Ya (Za (k:=Zb (k:=Qc (k:=Qv (k:=Wq (Za (k:=?_))))))))
  have hjl : j < s.length := by omega
  refine Zr (k:=Qv (k:=Qv (k:=Vv (k:=Gi 4 (t:=fun h13 => ?_) (f:=fun h13 => ?_)))))
  ·
   refine O1 (k:=O1 (k:=O1 (k:=O1 (k:=P1 (k:=Vv (k:=O1 (k:=O1 (k:=O1 (k:=O1 (k:=P1 (k:=Wq ?_)))))))))))
   refine Z1 (k:=Qc (k:=Vv (k:=Wq (Zt (k:=Vb (Va (Vi (Vb (Va ?_)))))))))
   exact zb212ret5
  ·
   refine J0 (k:=J0 (k:=J0 (k:=J0 (k:=P0 (k:=Vv (k:=Gi 10 (t:=fun h19 => ?_) (f:=fun h19 => ?_)))))))
   ·
    refine O1 (k:=O1 (k:=O1 (k:=O1 (k:=P1 (k:=Wq (Z1 (k:=Qc (k:=Vv (k:=Wq (Zt (k:=?_)))))))))))
    refine Vb (Va (Vi (Vb (Va ?_))))
    exact zb212ret5
   ·
    refine J0 (k:=J0 (k:=J0 (k:=J0 (k:=P0 (k:=Wq (Zi (t:=fun h24 => ?_) (f:=fun h24 => ?_)))))))
    ·
     refine Qc (k:=Vv (k:=Wq (Zt (k:=Vb (Va (Vi (Vb (Va ?_))))))))
     exact zb212ret5
    ·
     refine Zk (k:=Yb (Ya (Zr (k:=Qv (k:=Wn ?_)))))
     refine to_inv ⟨j + 1, by omega, fun i hi => ?_⟩ (by dsimp only; omega) ⟨rfl, rfl, rfl, trivial⟩ ent_nil
     by_cases he : i = j
     · subst he; omega
     · exact hin i (by omega)
 ·
  refine Ze (k:=Xa (Xi (Xb (Ya (Za (k:=?_))))))
  have hall := word_all (s := s) fun i hi => hin i (by omega)
  refine Zr (k:=Qv (k:=Vv (k:=Gi 2 (t:=fun h28 => ?_) (f:=fun h28 => ?_))))
  ·
   refine J1 (k:=J1 (k:=J1 (k:=P1 (k:=Vv (k:=Wq (Zt (k:=?_)))))))
   exact zb212ret7
  ·
   refine O0 (k:=O0 (k:=O0 (k:=P0 (k:=Vv (k:=Wq (Zt (k:=?_)))))))
   exact zb212ret7
theorem Index_one_sp (l : List UInt8) (c : UInt8) : SpF Tryz.prog 225 [vS l, vS [c]] (vI (Lib.indexByte l c)) :=
 SpF.of_same Tryz.call225 fun w => Tryz.stringslite_Index_one ⟨⟨l⟩⟩ c w
theorem Contains_one_sp (l : List UInt8) (c : UInt8) : SpF Tryz.prog 226 [vS l, vS [c]] (vB (decide (c ∈ l))) := by
 have e : decide (0 ≤ Lib.indexByte l c) = decide (c ∈ l) := decide_eq_decide.2 ⟨fun h => Classical.byContradiction fun hn => by have := index_neg.2 hn; omega, fun h => Classical.byContradiction fun hn => index_neg.1 (by omega) h⟩
 rw [← e]
 exact SpF.of_same Tryz.call226 fun w => Tryz.strings_Contains_one ⟨⟨l⟩⟩ c w
theorem TrimPrefix_sp (l p : List UInt8) : SpF Tryz.prog 108 [vS l, vS p] (vS (Lib.trimPrefix l p)) :=
 SpF.of_same Tryz.call108 fun w => Tryz.strings_TrimPrefix ⟨⟨l⟩⟩ ⟨⟨p⟩⟩ w
def cutV (d : UInt8) (s : Bs) : Value := .tuple #[vS (cutP d s).1, vS (cutP d s).2.1, vB (cutP d s).2.2]
theorem cutP_index (d : UInt8) (s : Bs) : (Lib.indexByte s d < 0 ∧ cutP d s = (s, [], false)) ∨ ∃ i : Nat, Lib.indexByte s d = (i : Int) ∧ i < s.length ∧ cutP d s = (s.take i, s.drop (i + 1), true) := by
 rw [indexByte_find]
 unfold cutP
 cases h : s.findIdx? (· == d) with
 | none => exact .inl ⟨by decide, rfl⟩
 | some i => exact .inr ⟨i, rfl, (List.findIdx?_eq_some_iff_getElem.1 h).1, rfl⟩
theorem liteCut_sp (s : Bs) (d : UInt8) (hs : s.length ≤ 1099511627776) : SpF Tryz.prog 199 [vS s, vS [d]] (cutV d s) := by
 have hx := index_neg (l := s) (c := d)
 have hc := cutP_index d s
 have hd1 : ([d] : Bs).length = 1 := rfl
 refine Sp.body (n := 23) Tryz.call199 Tryz.func199 rfl rfl rfl ?_
 refine Qc (k:=Qv (k:=Vv (k:=Wq (Za (k:=Qc (k:=Qv (k:=?_)))))))
 refine r_callF (Index_one_sp s d) rfl rfl rfl ?_
 refine Vv (k:=Wq (Qc (k:=Qv (k:=Wq (Zi (t:=fun h12 => ?_) (f:=fun h12 => ?_))))))
 ·
  obtain ⟨i, hi, hil, hcut⟩ := hc.resolve_left (fun h => by omega)
  rw [hi]
  refine Za (k:=Dw [] (k:=?_))
  refine Dv 0 (k:=Dv 1 (k:=?_))
  refine d_first 2 rfl rfl rfl (by kernel_rfl) (by kernel_rfl) (tl_pv (pv_slice_tom (m := i) Tryz.underlying9 rfl rfl rfl (by omega))) ?_
  refine Dv 3 (k:=Dv 4 (k:=Dv 5 (k:=Dv 6 (k:=Dv 7 (k:=?_)))))
  refine d_first 8 rfl rfl rfl (by kernel_rfl) (by kernel_rfl) (tl_pv (pv_slice_fromm (m := i + 1) Tryz.underlying9 rfl rfl rfl (by omega))) ?_
  refine Dv 9 (k:=Dv 10 (k:=Dv 11 (k:=Dd (k:=Ya (Zt (k:=Va ?_))))))
  refine fin_ret () (vs := [_, _, _]) (Cs := []) rfl (.tmp rfl (.tmp rfl (.tmp rfl .nil))) ?_ trivial ent_nil
  rw [cutV, hcut]; rfl
 ·
  refine Zk (k:=Ya (Qc (k:=Qv (k:=Qv (k:=Wq (Zt (k:=?_)))))))
  refine fin_ret () (vs := [_, _, _]) (Cs := []) rfl (.tmp rfl (.tmp rfl (.tmp rfl .nil))) ?_ trivial ent_nil
  rcases hc with ⟨_, hc⟩ | ⟨i, hi, _, _⟩
  · rw [cutV, hc]; rfl
  · omega
theorem Cut_sp (s : Bs) (d : UInt8) (hs : s.length ≤ 1099511627776) : SpF Tryz.prog 153 [vS s, vS [d]] (cutV d s) := by
 refine Sp.body (n := 13) Tryz.call153 Tryz.func153 rfl rfl rfl ?_
 refine Qc (k:=Qv (k:=Vv (k:=Wq (Qc (k:=Qv (k:=?_))))))
 refine r_callF (liteCut_sp s d hs) rfl rfl rfl ?_
 refine wo_pv (pv_extract (v := vS (cutP d s).1) rfl rfl) rfl ?_
 refine Qv (k:=Qv (k:=Vv (k:=Wq (Zt (k:=?_)))))
 exact fin_ret () (vs := [_, _, _]) (Cs := []) rfl (.tmp rfl (.tmp rfl (.tmp rfl .nil))) rfl trivial ent_nil
/-! Words that blanks part. -/
theorem escape_Words_sp (s : Bs) : Sp Tryz.prog 154 [vS s] [] (X := Nat) (fun b => .func (.func 200) #[] #[.pointer (some ⟨b, 0, none⟩)]) (fun _ => True) (fun b => [Ce b 9 [vS s]]) := by
 refine Sp.body (n := 4) Tryz.call154 Tryz.func154 rfl rfl rfl ?_
 refine Qc (k:=Zx [_] (k:=fun b1 => Vv (k:=Wq (Qc (k:=Qv (k:=Wq (Zt (k:=?_))))))))
 refine fin_ret b1 (vs := [_]) (Cs := []) rfl (.tmp rfl .nil) rfl trivial ?_
 exact ent_pick
abbrev okW (s : Bs) : List Bs → Bs → Prop := fun pre w => ∃ r, splitB 32 s = pre ++ w :: r
abbrev stopW (s : Bs) : List Bs → Prop := fun pre => ∃ r, splitB 32 s = pre ++ r
theorem zb200ret {G : Prop} (h : G := by
    first
    | (refine fin_ret (some (pre ++ [w])) (vs := []) (Cs := []) rfl .nil rfl (fun p e => by cases e; obtain ⟨r, hr⟩ := hc1; exact ⟨r, by rw [hpre, hr]; simp⟩) ?_
       simp only [endsAt]
       exact ent_pick)
    | (have hall : splitB 32 s = pre ++ [w] := by rw [hpre, hc2 (by simpa using h19)]
       refine fin_ret none (vs := []) (Cs := []) rfl .nil rfl (fun p e => by cases e) ?_
       simp only [endsAt]
       rw [hall]
       exact ent_pick)) : G := h
theorem escape_Words_it (s : Bs) (hs : s.length ≤ 1099511627776) (b : Nat) :
    Iter Tryz.prog 200 [.pointer (some ⟨b, 0, none⟩)] (fun w : Bs => [vS w]) (okW s) (stopW s) [Ce b 9 [vS s]] [] (splitB 32 s) (fun _ => .tuple #[]) := by
 intro y J Jx ys
 refine Sp.body (n := 21) Tryz.call200 Tryz.func200 rfl rfl rfl ?_
 refine Zb (k:=?_)
 refine p_loop (fun (i : { x : List Bs × Bs // splitB 32 s = x.1 ++ splitB 32 x.2 ∧ x.2.length ≤ s.length }) => [(0, y), (1, .pointer (some ⟨b, 0, none⟩))]) (fun (i : { x : List Bs × Bs // splitB 32 s = x.1 ++ splitB 32 x.2 ∧ x.2.length ≤ s.length }) => [J i.1.1, Ce b 9 [vS i.1.2]]) (fun (i : { x : List Bs × Bs // splitB 32 s = x.1 ++ splitB 32 x.2 ∧ x.2.length ≤ s.length }) => i.1.2.length) rfl (⟨([], s), rfl, Nat.le_refl _⟩) ?_ ?_ (fun i => ?_)
 · exact ⟨rfl, rfl, trivial⟩
 ·
  exact Ent.refl _
 obtain ⟨⟨pre, t⟩, hpre, htl⟩ := i
 dsimp only at hpre htl ⊢
 try dsimp only
 refine Zb (k:=Za (k:=?_))
 have hcc : (∃ r, splitB 32 t = (cutP 32 t).1 :: r) ∧ ((cutP 32 t).2.2 = false → splitB 32 t = [(cutP 32 t).1]) ∧ ((cutP 32 t).2.2 = true → splitB 32 t = (cutP 32 t).1 :: splitB 32 (cutP 32 t).2.1 ∧ (cutP 32 t).2.1.length < t.length) := by
  rcases cutP_cases 32 t with ⟨hn, hc⟩ | ⟨x, r, he, hn, hc⟩
  · rw [hc, splitB_one hn]
    refine ⟨⟨[], rfl⟩, fun _ => rfl, ?_⟩
    intro h; cases h
  · rw [hc, he, splitB_cut hn]
    refine ⟨⟨_, rfl⟩, ?_, ?_⟩
    · intro h; cases h
    · intro _
      refine ⟨rfl, ?_⟩
      simp; omega
 generalize hw : (cutP 32 t).1 = w at hcc
 generalize hr : (cutP 32 t).2.1 = rest at hcc
 generalize hm : (cutP 32 t).2.2 = more at hcc
 obtain ⟨hc1, hc2, hc3⟩ := hcc
 refine Zr (k:=Zd (k:=?_))
 refine r_callF (Cut_sp t 32 (by omega)) rfl rfl rfl ?_
 rw [cutV]
 rw [hw, hr, hm]
 refine Vv (k:=?_)
 refine wo_pv (pv_extract (v := vS w) rfl rfl) rfl ?_
 refine wo_pv (pv_extract (v := vS rest) rfl rfl) rfl ?_
 refine wo_pv (pv_extract (v := vB more) rfl rfl) rfl ?_
 refine Qv (k:=Vv (k:=Wq (Za (k:=Qc (k:=Qv (k:=?_))))))
 refine r_yield ys pre w (by obtain ⟨r, hr⟩ := hc1; exact ⟨r, by rw [hpre, hr]⟩) rfl rfl rfl ?_ ?_
 ·
  refine Qv (k:=J0 (k:=J0 (k:=P0 (k:=Wq (Zi (t:=fun h19 => ?_) (f:=fun h19 => ?_))))))
  ·
   refine Zt (k:=Va (Vb (Vi (Vb ?_))))
   exact zb200ret
  ·
   refine Zk (k:=Ya (Zr (k:=Vv (k:=Zo (k:=Wn (Yb ?_))))))
   obtain ⟨h1, h2⟩ := hc3 (by simp_all)
   refine to_inv ⟨(pre ++ [w], rest), ?_, ?_⟩ ?_ ⟨rfl, rfl, trivial⟩ ent_pick
   · dsimp only; rw [hpre, h1]; simp
   · dsimp only; omega
   · dsimp only; omega
 ·
  refine Qv (k:=O1 (k:=O1 (k:=P1 (k:=Wq (Z1 (k:=Zt (k:=Va (Vb (Vi (Vb ?_))))))))))
  exact zb200ret
end
section
set_option maxRecDepth 100000
section
variable {r : Option Nat} {P : Program} {n : Nat} {ops : Array Oper} {os : List Oper} {A : List HP} {L : Loc} {Hs : List HP} {Q : Out} {ty : TypeId} {d : Nat} {pos : String} {after : Array Edge}
theorem opt_mkNoZero {dst : Option Tmp} {g : FuncId} {fn : Func} {x : Operand} {m : Nat} {t e it : TypeId} {ts : Array TypeId} (hf : P.funcs[g]? = some fn) (hname : (fn.name == "runtime.NumGoroutine") = false)
    (hb : fn.body.isNone = true) (hn : Extern.findNext fn = none) (he : Extern.find fn = some (Extern.BytealgMakeNoZero.makeNoZero #[it] #[t])) (ht : P.underlying t = some (.slice e)) (hx : ev L x = some (vI (m : Int))) (hm : m ≤ 140737488355328) :
    OpT r P n ⟨dst, .call ⟨.value (.func g), #[x], ts⟩, ty, pos, after, none⟩ A L [] (fun x : Nat × List Value => .slice (some ⟨x.1, 0, none⟩) m x.2.length) (fun x => m ≤ x.2.length ∧ x.2.length ≤ maxLen) (fun x => [Ce x.1 e x.2]) := by
 intro a fr w M h hA hfr dj dj' s sA t'
 obtain ⟨cs, hr, h1, h2⟩ := Lib.run_makeNoZero (P := P) w #[it] t e ht m (by omega)
 have hrun : (execOp a.eval ⟨dst, .call ⟨.value (.func g), #[x], ts⟩, ty, pos, after, none⟩).run P w = .ok (.value (.slice (some ⟨w.heap.size, 0, none⟩) m cs.size)) (w.drew.drew.alloc (.cells cs e)) := by
  simp only [execOp, resolve, Act.eval, Deferred.ofValue, Sem.run_bind, Sem.run_pure, Result.andThen_ok, invoke]
  have hq := run_callFunc_extern hf hname hb hn he #[vI (m : Int)] w
  have ha : a.eval x = vI (m : Int) := fr.ev hx
  simp only [Array.append_empty, Array.empty_append, List.map_toArray, List.map_cons, List.map_nil, ha]
  rw [hq, hr]; rfl
 rw [hrun]
 have t2 := t'.drew.drew.alloc (.cells cs e)
 obtain ⟨f1, f2⟩ := fresh_none t'.drew.drew
 obtain ⟨f3, f4⟩ := Res.add_none.1 f2
 obtain ⟨f5, f6⟩ := Res.add_none.1 f3
 replace f4 : hfr w.heap.size = none := f4
 replace f5 : h w.heap.size = none := f5
 replace f6 : hA w.heap.size = none := f6
 obtain ⟨d1, d2⟩ := Res.dj_add_left.1 dj'
 refine ⟨(w.heap.size, cs.toList), M, Res.one w.heap.size (.cells cs e), by simp, ⟨by simpa using h1, by simpa using h2 (by simp only [maxLen]; omega)⟩, Kn.le_refl _, one_dj f6, Res.dj_add_left.2 ⟨one_dj f4, d2⟩, ?_, Res.one w.heap.size (.cells cs e), Res.emp, Res.dj_emp _, (Res.add_emp _).symm, by show _ = Res.one _ _; simp, trivial⟩
 refine t2.le ?_
 intro i o e'
 simp only [Res.add] at e' ⊢
 show (match Res.one w.heap.size _ i with | some o => some o | none => _) = _
 cases e1 : Res.one w.heap.size (Obj.cells cs e) i with
 | some u => rw [e1] at e'; simpa using e'
 | none =>
   rw [e1] at e'
   cases e2 : hA i with
   | some u =>
     rw [e2] at e'
     rcases dj i with y | y
     · rw [y]; simpa using e'
     · rw [y] at e2; cases e2
   | none =>
     rw [e2] at e'
     have e3 : hfr i = some o := by simpa using e'
     rcases d1 i with y | y
     · rw [y]; simpa using e3
     · rw [y] at e3; cases e3
theorem pv_copy0 {x y : Operand} {dT sT e : TypeId} {i : TypeInfo} {a : Option Addr} {c : Nat} (hu : P.underlying dT = some (.slice e)) (hs : P.underlying sT = some (.slice e)) (hi : P.info? e = some i)
    (hx : ev L x = some (.slice a 0 c)) (hy : ev L y = some (.slice none 0 0)) : PV P n L (.call ⟨.builtin .copy, #[x, y], #[dT, sT]⟩) ty (vI 0) :=
 ⟨by intro c; simp, fun ac f w _ _ _ _ => by
  cases a <;> simp [execOp, resolve, f.ev hx, f.ev hy, invoke, builtin, Builtin.copy_, run_underlying hu, run_underlying hs, sizeOf, typeInfo, program, Sem.run, hi, storeCells, Builtin.firstCells, Builtin.lenOf] <;> rfl⟩
end
/-- A Builder that holds nothing yet, and has room. -/
def IsBG (p : Nat) : HP := Ex fun q : Nat × Nat => Al [Ce p 225 [.pointer (some ⟨p, 0, none⟩), .slice (some ⟨q.1, 0, none⟩) 0 q.2], Row 5 1 (.slice (some ⟨q.1, 0, none⟩) 0 q.2) 0 []]
theorem Builder_grow_sp (p m : Nat) (hm : m ≤ 140737488355328) : Sp1 Tryz.prog 242 [.pointer (some ⟨p, 0, none⟩), vI m] [Ce p 225 [.pointer (some ⟨p, 0, none⟩), .slice none 0 0]] (.tuple #[]) [IsBG p] := by
 refine Sp.body (n := 30) Tryz.call242 Tryz.func242 rfl rfl rfl ?_
 refine Za (k:=Dw [Ce p 225 [.pointer (some ⟨p, 0, none⟩), .slice none 0 0]] (k:=?_))
 refine Dv 0 (k:=Dv 1 (k:=Di 2 (t:=Uf 1 56) (k:=Di 3 (t:=Ul) (k:=Dv 4 (k:=Dv 5 (k:=Dv 6 (k:=Dv 7 (k:=Dv 9 (k:=Dv 10 (k:=Di 11 (t:=Uf 1 56) (k:=Di 12 (t:=Ul) (k:=?_))))))))))))
 refine Dv 13 (k:=Dn 8 (k:=?_))
 refine an_opT (opt_mkNoZero (m := m) (e := 5) Tryz.func247 (by kernel_rfl) (by kernel_rfl) (by kernel_rfl) (it := 3) (t := 56) (by kernel_rfl) Tryz.underlying56 (vI_eq (by omega)) hm) rfl (fun x13 hx13 => ?_)
 obtain ⟨g, cs⟩ := x13
 obtain ⟨hx1, hx2⟩ := hx13
 dsimp only at hx1 hx2
 dsimp only
 refine d_first 14 rfl rfl rfl (by kernel_rfl) (by kernel_rfl) (tl_pv (pv_slslice_tom (m := 0) Tryz.underlying56 ti5 rfl rfl rfl (Nat.zero_le _))) ?_
 refine Dv 15 (k:=Dd (k:=Ya (Qc (k:=Qv (k:=Vv (k:=Qx 1 56 (k:=?_)))))))
 refine wo_pv (pv_copy0 Tryz.underlying56 Tryz.underlying56 ti5 rfl rfl) rfl ?_
 refine Wq (Zr (k:=Qv (k:=Vv (k:=Vf 1 56 (k:=?_)))))
 refine r_store ti56 rfl rfl rfl rfl (by simp) ?_
 refine Wn ?_
 refine fin_end () (vs := []) (Cs := []) rfl .nil rfl trivial ?_
 refine ent_ex (g, cs.length) ?_
 refine ent_al ?_
 exact (ent_row (k := 0) (cap := cs.length) (sz := 1) (e := 5) (g := g) (xs := []) (cur := cs) (Nat.zero_le _) hx2 (Nat.mul_one _).symm rfl rfl).trans ent_pick
theorem Builder_Grow_sp (p m : Nat) (h0 : 0 < m) (hm : m ≤ 140737488355328) : Sp1 Tryz.prog 227 [.pointer (some ⟨p, 0, none⟩), vI m] [Ce p 225 [.pointer none, .slice none 0 0]] (.tuple #[]) [IsBG p] := by
 refine Sp.body (n := 25) Tryz.call227 Tryz.func227 rfl rfl rfl ?_
 refine Qc (k:=Vv (k:=?_))
 refine r_call1 (copyCheck_nil p (.slice none 0 0)) rfl rfl rfl ?_
 refine Wq (Za (k:=Qc (k:=Qv (k:=Wq (Zi (t:=fun h7 => ?_) (f:=fun h7 => ?_))))))
 ·
  omega
  --done
 ·
  refine Zk (k:=Ya (Za (k:=Dw [Ce p 225 [.pointer (some ⟨p, 0, none⟩), .slice none 0 0]] (k:=?_))))
  refine Dv 0 (k:=Dv 1 (k:=Di 2 (t:=Uf 1 56) (k:=Di 3 (t:=Ul) (k:=Dv 4 (k:=Dv 5 (k:=Dv 6 (k:=Di 7 (t:=Uf 1 56) (k:=Di 8 (t:=Ul) (k:=Dv 9 (k:=Dv 10 (k:=Dv 11 (k:=?_))))))))))))
  refine Dv 12 (k:=Dd (k:=Ya (Zi (t:=fun h21 => ?_) (f:=fun h21 => ?_))))
  ·
   refine Zr (k:=Qv (k:=?_))
   refine r_call1 (Builder_grow_sp p m hm) rfl rfl rfl ?_
   refine Wn ?_
   refine fin_end () (vs := []) (Cs := []) rfl .nil rfl trivial ?_
   exact ent_pick
  ·
   omega
   --done
theorem WriteStringG_sp (p : Nat) (s : List UInt8) (hs : s ≠ []) (h : s.length ≤ 140737488355328) : Sp1 Tryz.prog 202 [.pointer (some ⟨p, 0, none⟩), vS s] [IsBG p] (.tuple #[vI s.length, .nilIface]) [IsB p s] := by
 have hp := List.length_pos_iff.2 hs
 refine Sp.body (n := 19) Tryz.call202 Tryz.func202 rfl rfl rfl ?_
 refine wc_exi fun q => wc_al ?_
 obtain ⟨g, cap⟩ := q
 dsimp only
 refine Qc (k:=Qv (k:=Wq (Qc (k:=Vv (k:=?_)))))
 refine r_call1 (copyCheck_own p (.slice (some ⟨g, 0, none⟩) 0 cap)) rfl rfl rfl ?_
 refine Wq (Qc (k:=Qv (k:=Vv (k:=Qx 1 56 (k:=Vv (k:=?_))))))
 refine wo_opT (by intro c; simp) (opt_appendS Tryz.underlying56 Tryz.underlying9 ti5 rfl rfl rfl rfl rfl (by omega) (xs := []) (k := 0)) rfl (fun x14 hx14 => ?_)
 obtain ⟨⟨a14, c14, rfl⟩, hx14⟩ := hx14
 refine Vv (k:=Vf 1 56 (k:=?_))
 refine r_store ti56 rfl rfl rfl rfl (by simp) ?_
 refine Wq (Qc (k:=Qv (k:=Qv (k:=Wq (Zt (k:=?_))))))
 refine fin_ret () (vs := [_, _]) (Cs := []) rfl (.tmp rfl (.tmp rfl .nil)) rfl trivial ?_
 refine ent_ex (.pointer (some ⟨p, 0, none⟩)) ?_
 refine ent_ex (.slice a14 (0 + s.length) c14) ?_
 refine ent_al ?_
 refine ent_pu ⟨.inr rfl, fun e => by omega⟩ ?_
 rw [Nat.zero_add, List.nil_append]
 exact ent_pick
def joinB : List Bs → Bs
 | [] => []
 | x :: r => x ++ argsB r
def sumL (l : List Bs) (j : Nat) : Nat := ((l.take j).map List.length).sum
theorem sumL_succ {l : List Bs} {j : Nat} (h : j < l.length) : sumL l (j + 1) = sumL l j + (l.getD j []).length := by
 rw [sumL, sumL, List.take_succ_eq_append_getElem h, List.map_append, List.sum_append]
 simp [h]
theorem argsB_len (l : List Bs) : (argsB l).length = l.length + sumL l l.length := by
 simp only [sumL, List.take_length]
 induction l with
 | nil => rfl
 | cons a l ih => rw [argsB_cons, List.length_cons, List.length_append, ih, List.map_cons, List.sum_cons, List.length_cons]; omega
theorem sumL_le {l : List Bs} {j : Nat} : sumL l j ≤ sumL l l.length := by
 simp only [sumL, List.take_length]
 conv => rhs; rw [← List.take_append_drop j l]
 rw [List.map_append, List.sum_append]
 omega
theorem argsB_take {l : List Bs} {j : Nat} (h : j < l.length) : argsB (l.take (j + 1)) = argsB (l.take j) ++ (32 :: l.getD j []) := by
 rw [List.take_succ_eq_append_getElem h, argsB_app]; simp [argsB, h]
set_option maxHeartbeats 1000000 in
theorem strings_Join_sp {a : Option Addr} (c : Nat) (x : Bs) (rest : List Bs) (hx : x ≠ []) (hl : rest.length ≤ 1073741824) (ht : x.length + (argsB rest).length ≤ 1099511627776) :
    Sp1 Tryz.prog 203 [.slice a (rest.length + 1) c, vS [32]] [Row 9 1 (.slice a (rest.length + 1) c) (rest.length + 1) ((x :: rest).map vS)] (vS (joinB (x :: rest))) [] := by
 have hp := List.length_pos_iff.2 hx
 obtain ⟨l, hll⟩ : ∃ l, l = x :: rest := ⟨_, rfl⟩
 have hln : l.length = rest.length + 1 := by rw [hll]; rfl
 have hal : (argsB l).length = l.length + sumL l l.length := argsB_len l
 have hal2 : (argsB l).length = 1 + (x.length + (argsB rest).length) := by rw [hll, argsB_cons, List.length_cons, List.length_append]; omega
 rw [← hll]
 have h0 : (l.map vS)[0]? = some (vS x) := by rw [hll]; rfl
 have hdr : (l.map vS).drop 1 = rest.map vS := by rw [hll]; rfl
 refine Sp.body (n := 75) Tryz.call203 Tryz.func203 rfl rfl rfl ?_
 refine wc_know (A := Row 9 1 (.slice a (rest.length + 1) c) (rest.length + 1) (l.map vS)) HasC.get row_know (fun hk => ?_)
 obtain ⟨hk1, _, hk3⟩ := hk
 refine Qc (k:=Vv (k:=Wq (Za (k:=Qc (k:=Qv (k:=Wq (Zb (k:=Za (k:=?_)))))))))
 refine Zr (k:=Qv (k:=Wq (Zi (t:=fun h13 => ?_) (f:=fun h13 => ?_))))
 ·
  omega
  --done
 ·
  refine Qc (k:=Qv (k:=Wq (Zi (t:=fun h15 => ?_) (f:=fun h15 => ?_))))
  ·
   refine Qc (k:=Vv (k:=Ye 1 (m := 0) (k:=?_)))
   refine r_eload Tryz.underlying9 rfl rfl h0 rfl ?_
   refine Vv (k:=Wq (Zt (k:=Vb (Va ?_))))
   have hr : rest = [] := List.eq_nil_of_length_eq_zero (by omega)
   refine fin_ret () (vs := [_]) (Cs := []) rfl (.tmp rfl .nil) ?_ trivial ent_nil
   rw [hll, hr, joinB, argsB_nil, List.append_nil]; rfl
  ·
   refine Zk (k:=Yb (Ya (Qc (k:=Vv (k:=Wq (Za (k:=Qc (k:=Qv (k:=?_)))))))))
   refine Vv (k:=Wq (Zi (t:=fun h22 => ?_) (f:=fun h22 => ?_)))
   ·
    refine Za (k:=Qc (k:=Qv (k:=?_)))
    rw [show (([32] : Bs).length : Int) = 1 from rfl]
    refine Qv (k:=Qv (k:=Vv (k:=Wq (Zi (t:=fun h29 => ?_) (f:=fun h29 => ?_)))))
    ·
     have hq : 2 ≤ (9223372036854775807 : Int) / (((rest.length + 1 : Nat) : Int) - 1) := Int.le_ediv_of_mul_le (by omega) (by omega)
     omega
     --done
    ·
     refine Zk (k:=Ya (Zr (k:=Qv (k:=Vv (k:=?_)))))
     rw [show (([32] : Bs).length : Int) = 1 from rfl]
     refine Qv (k:=Qv (k:=Qv (k:=Wq (Za (k:=Qc (k:=Qv (k:=?_)))))))
     refine Vv (k:=Wq (Zb (k:=?_)))
     refine p_loop (fun (i : { j : Nat // j ≤ l.length }) => [(0, .slice a (rest.length + 1) c), (1, vS [32]), (5, vI ((rest.length + sumL l i.1 : Nat) : Int)), (39, .slice a (rest.length + 1) c), (40, vI ((rest.length + 1 : Nat) : Int)), (41, vI i.1)]) (fun (i : { j : Nat // j ≤ l.length }) => [Row 9 1 (.slice a (rest.length + 1) c) (rest.length + 1) (l.map vS)]) (fun (i : { j : Nat // j ≤ l.length }) => l.length - i.1) rfl (⟨0, Nat.zero_le _⟩) ?_ ?_ (fun i => ?_)
     · exact ⟨rfl, rfl, vI_eq (by simp only [sumL, List.take_zero, List.map_nil, List.sum_nil]; omega), rfl, rfl, rfl, trivial⟩
     ·
      exact ent_pick
     obtain ⟨j, hj⟩ := i
     dsimp only
     have hsj := sumL_le (l := l) (j := j)
     try dsimp only
     refine Qc (k:=Vv (k:=Wq (Za (k:=Zi (t:=fun h42 => ?_) (f:=fun h42 => ?_)))))
     ·
      refine Zk (k:=Ya (Za (k:=Zb (k:=Za (k:=?_)))))
      have hjl : j < l.length := by omega
      have hss := sumL_succ hjl
      have hsj1 := sumL_le (l := l) (j := j + 1)
      refine Zr (k:=Ye 1 (k:=Yl (hv:=by exact get_mapD [] hjl) (k:=Vv (k:=Wq (Za (k:=Qc (k:=Qv (k:=Qv (k:=?_)))))))))
      refine Vv (k:=Wq (Zi (t:=fun h49 => ?_) (f:=fun h49 => ?_)))
      ·
       omega
       --done
      ·
       refine Zk (k:=Ya (Zr (k:=Qv (k:=Qv (k:=Vv (k:=Wn (Yb (Ya (Zr (k:=?_))))))))))
       refine Qv (k:=Wn ?_)
       refine to_inv ⟨j + 1, by omega⟩ (by dsimp only; omega) ⟨rfl, rfl, vI_eq (by dsimp only; omega), rfl, rfl, rfl, trivial⟩ ent_pick
     ·
      refine Ze (k:=Xa (Xi (Xb (Ya (Za (k:=?_))))))
      have hjl : j = l.length := by omega
      subst hjl
      refine Zr (k:=Zc [.pointer none, .slice none 0 0] (k:=fun b8 => Wq (Qc (k:=Vv (k:=?_)))))
      refine r_call1 (Builder_Grow_sp b8 (rest.length + sumL l l.length) (by omega) (by omega)) rfl rfl rfl ?_
      refine Wq (Qc (k:=Vv (k:=Ye 1 (m := 0) (k:=?_))))
      refine r_eload Tryz.underlying9 rfl rfl h0 rfl ?_
      refine r_call1 (WriteStringG_sp b8 x hx (by omega)) rfl rfl rfl ?_
      refine Wq (Za (k:=Qc (k:=Vv (k:=?_))))
      refine wo_pv (pv_slslice_froma (m := 1) (kk := 1) Tryz.underlying27 ti9 rfl rfl rfl rfl rfl (by omega) hk1 hk3) rfl ?_
      haveI hrd : RdSl (fromA a 1 c 1) (rest.map vS) [Row 9 1 (.slice a (rest.length + 1) c) (rest.length + 1) (l.map vS)] := ⟨⟨_, by rw [← hdr]; exact sla_from (m := 1) (kk := 1) (Nat.mul_one 1) (by omega), .here⟩⟩
      refine Qv (k:=Wq (Zb (k:=?_)))
      refine p_loop (fun (i : { j : Nat // j ≤ rest.length }) => [(1, vS [32]), (8, .pointer (some ⟨b8, 0, none⟩)), (63, .slice (fromA a 1 c 1) rest.length (c - 1)), (64, vI rest.length), (65, vI i.1)]) (fun (i : { j : Nat // j ≤ rest.length }) => [IsB b8 (x ++ argsB (rest.take i.1)), Row 9 1 (.slice a (rest.length + 1) c) (rest.length + 1) (l.map vS)]) (fun (i : { j : Nat // j ≤ rest.length }) => rest.length - i.1) rfl (⟨0, Nat.zero_le _⟩) ?_ ?_ (fun i => ?_)
      · exact ⟨rfl, rfl, rfl, rfl, rfl, trivial⟩
      ·
       dsimp only
       rw [List.take_zero, argsB_nil, List.append_nil]
       exact ent_pick
      obtain ⟨j, hj⟩ := i
      dsimp only
      try dsimp only
      refine Qc (k:=Vv (k:=Wq (Za (k:=Zi (t:=fun h66 => ?_) (f:=fun h66 => ?_)))))
      ·
       refine Zk (k:=Ya (Za (k:=Zb (k:=Za (k:=?_)))))
       have hjl : j < rest.length := by omega
       have hat := argsB_take hjl
       have hlt : (argsB (rest.take (j + 1))).length ≤ (argsB rest).length := by
        conv => rhs; rw [← List.take_append_drop (j + 1) rest, argsB_app, List.length_append]
        omega
       have hlt2 := congrArg List.length hat
       rw [List.length_append, List.length_cons] at hlt2
       refine Zr (k:=?_)
       refine r_elemAddr (sz := 1) Tryz.underlying27 ti9 rfl rfl rfl rfl (by omega) (by rw [List.length_map]; omega) (Nat.mul_one _) rfl ?_
       refine Yl (hv:=by exact get_mapD [] hjl) (k:=Vv (k:=Wq (Qc (k:=Vv (k:=?_)))))
       refine r_call1 (WriteString_sp b8 (x ++ argsB (rest.take j)) [32] (by rw [List.length_append, List.length_singleton]; omega)) rfl rfl rfl ?_
       refine Wq (Zr (k:=Vv (k:=?_)))
       refine r_call1 (WriteString_sp b8 (x ++ argsB (rest.take j) ++ [32]) (rest.getD j []) (by rw [List.length_append, List.length_append, List.length_singleton]; omega)) rfl rfl rfl ?_
       refine Wn (Yb (Ya (Zr (k:=Qv (k:=Wn ?_)))))
       refine to_inv ⟨j + 1, by omega⟩ (by dsimp only; omega) ⟨rfl, rfl, rfl, rfl, rfl, trivial⟩ ?_
       dsimp only
       rw [hat, show x ++ (argsB (rest.take j) ++ 32 :: rest.getD j []) = x ++ argsB (rest.take j) ++ [32] ++ rest.getD j [] from by simp]
       exact ent_pick
      ·
       refine Ze (k:=Xa (Xi (Xb (Ya (Za (k:=?_))))))
       have hjl : j = rest.length := by omega
       subst hjl
       rw [List.take_length]
       refine Zr (k:=?_)
       refine r_call1 (String_sp b8 (x ++ argsB rest) (by rw [List.length_append]; omega)) rfl rfl rfl ?_
       refine Vv (k:=Wq (Zt (k:=?_)))
       refine fin_ret () (vs := [_]) (Cs := []) rfl (.tmp rfl .nil) (by rw [hll]; rfl) trivial ent_nil
   ·
    simp at h22
    --done
end
section
section
variable {H : Type} {enc : TypeId × Value → H} {P : Program} {w : World} {spare : Nat → Bool} {held : Bool} {fuel : Nat} {t e : TypeId} {cs : List Value} {x : DataW H × List MemPlace}
end
theorem wf_i64 {n : Int} (h : (Lit.int .i64 n).wf = true) : -9223372036854775808 ≤ n ∧ n ≤ 9223372036854775807 := by
 simp [Lit.wf] at h
 have e1 : IntKind.i64.min = -9223372036854775808 := by decide
 have e2 : IntKind.i64.max = 9223372036854775807 := by decide
 omega
end
section
set_option maxRecDepth 100000
/-- A card in memory. -/
structure CdV where
 l : UInt8
 a : Option Addr
 c : Nat
 args : List Bs
def CdV.cells (q : CdV) : List Value := [vU q.l.toNat, .slice q.a q.args.length q.c]
def CdV.cd (q : CdV) : Cd := ⟨q.l, q.args⟩
def cdsOf (qs : List CdV) : List Cd := qs.map CdV.cd
/-- What some cards point at: it never turns. -/
def CdM (qs : List CdV) : HP := ⟨fun M _ => ∀ q ∈ qs, (SlI q.a (q.args.map vS)).at_ M Res.emp ∧ q.args.length ≤ q.c, fun le h q hq => ⟨(SlI q.a (q.args.map vS)).mono le (h q hq).1, (h q hq).2⟩⟩
theorem cdm_cap {qs : List CdV} {M : Kn} {h : Res} (x : (CdM qs).at_ M h) : ∀ q ∈ qs, q.args.length ≤ q.c := fun q hq => (x q hq).2
theorem CdM.pers (qs : List CdV) : Pers (CdM qs) := fun e => e
instance {qs : List CdV} : PersC (CdM qs) := ⟨CdM.pers qs⟩
theorem ent_cd {qs : List CdV} {q : CdV} {Hs : List HP} (h : q ∈ qs) (hp : Has (CdM qs) Hs) : Ent Hs (SlI q.a (q.args.map vS) :: Hs) := ⟨fun {M g} s => by
 obtain ⟨h1, _, a⟩ := hp.sat s
 exact ⟨Res.emp, g, Res.emp_dj _, rfl, (a q h).1, s⟩⟩
theorem ent_cdm_nil {Hs : List HP} : Ent Hs (CdM [] :: Hs) := ⟨fun {M g} s => ⟨Res.emp, g, Res.emp_dj _, rfl, (fun q hq => by cases hq), s⟩⟩
theorem ent_cdm_snoc {qs : List CdV} {q : CdV} {Hs : List HP} (hp : Has (CdM qs) Hs) (hq : Has (SlI q.a (q.args.map vS)) Hs) (hc : q.args.length ≤ q.c) : Ent Hs (CdM (qs ++ [q]) :: Hs) := ⟨fun {M g} s => by
 obtain ⟨h1, _, a⟩ := hp.sat s
 obtain ⟨h2, _, b⟩ := hq.sat s
 refine ⟨Res.emp, g, Res.emp_dj _, rfl, fun x hx => ?_, s⟩
 rcases List.mem_append.1 hx with hx | hx
 · exact a x hx
 · rw [List.mem_singleton.1 hx]; exact ⟨b, hc⟩⟩
theorem ent_cdm_app {qs rs : List CdV} {Hs : List HP} (hp : Has (CdM qs) Hs) (hq : Has (CdM rs) Hs) : Ent Hs (CdM (qs ++ rs) :: Hs) := ⟨fun {M g} s => by
 obtain ⟨h1, _, a⟩ := hp.sat s
 obtain ⟨h2, _, b⟩ := hq.sat s
 refine ⟨Res.emp, g, Res.emp_dj _, rfl, fun x hx => ?_, s⟩
 rcases List.mem_append.1 hx with hx | hx
 · exact a x hx
 · exact b x hx⟩
theorem get_field {α : Type} {f : α → List Value} {sz : Nat} (hf : ∀ x, (f x).length = sz) {l : List α} {m k : Nat} (hk : k < sz) (h : m < l.length) : (l.flatMap f)[m * sz + k]? = (f l[m])[k]? := by
 rw [← get_flat hf h, List.getElem?_take_of_lt hk, List.getElem?_drop]
theorem cdget {qs : List CdV} {j : Nat} (h : j < qs.length) : (qs.flatMap CdV.cells)[2 * j]? = some (vU (qs[j].l.toNat : Int)) ∧ (qs.flatMap CdV.cells)[2 * j + 1]? = some (.slice qs[j].a qs[j].args.length qs[j].c) := by
 constructor
 · have := get_field (f := CdV.cells) (sz := 2) (fun _ => rfl) (k := 0) (by decide) h; rw [Nat.mul_comm]; exact this
 · have := get_field (f := CdV.cells) (sz := 2) (fun _ => rfl) (k := 1) (by decide) h; rw [Nat.mul_comm]; exact this
theorem slices_Index_sp {B : HP} {a : Option Addr} (n c : Nat) (l : List Bs) (x : Bs) (sh : SlA B a (l.map vS)) (hn : l.length = n) (hb : n ≤ 140737488355328) :
    Sp Tryz.prog 243 [.slice a n c, vS x] [B] (X := Int) (fun i => vI i) (fun i => (0 ≤ i ↔ x ∈ l)) (fun _ => [B]) := by
 subst hn
 haveI : RdSl a (l.map vS) [B] := ⟨⟨B, sh, .here⟩⟩
 refine Sp.body (n := 19) Tryz.call243 Tryz.func243 rfl rfl rfl ?_
 refine Qc (k:=Vv (k:=Wq (Za (k:=Qc (k:=Qv (k:=Vv (k:=Wq (Zb (k:=?_)))))))))
 refine p_loop (fun (i : { j : Nat // j ≤ l.length ∧ x ∉ l.take j }) => [(0, .slice a l.length c), (1, vS x), (6, .slice a l.length c), (7, vI l.length), (8, vI i.1)]) (fun (i : { j : Nat // j ≤ l.length ∧ x ∉ l.take j }) => [B]) (fun (i : { j : Nat // j ≤ l.length ∧ x ∉ l.take j }) => l.length - i.1) rfl (⟨0, Nat.zero_le _, by simp⟩) ?_ ?_ (fun i => ?_)
 · exact ⟨rfl, rfl, rfl, rfl, rfl, trivial⟩
 ·
  exact ent_pick
 obtain ⟨j, hj, hx⟩ := i
 dsimp only
 try dsimp only
 refine Qc (k:=Vv (k:=Wq (Za (k:=Zi (t:=fun h9 => ?_) (f:=fun h9 => ?_)))))
 ·
  refine Zk (k:=Ya (Za (k:=Zb (k:=Qc (k:=Qv (k:=Wq (Za (k:=?_))))))))
  have hjl : j < l.length := by omega
  have hg : l.getD j [] = l[j] := by simp [hjl]
  refine Zr (k:=Qv (k:=Vv (k:=Ye 1 (k:=Yl (hv:=by exact get_mapD [] hjl) (k:=Vv (k:=Wq (Zi (t:=fun h16 => ?_) (f:=fun h16 => ?_))))))))
  ·
   refine Qc (k:=Qv (k:=Wq (Zt (k:=Vb (Va (Vi (Vb (Va ?_))))))))
   refine fin_ret (j : Int) (vs := [_]) (Cs := []) rfl (.tmp rfl .nil) rfl ⟨fun _ => ?_, fun _ => by omega⟩ ent_pick
   have : x = l[j] := by rw [← hg]; simpa using h16
   rw [this]; exact List.getElem_mem _
  ·
   refine Zk (k:=Yb (Ya (Zr (k:=Qv (k:=Wn ?_)))))
   refine to_inv ⟨j + 1, by omega, ?_⟩ (by dsimp only; omega) ⟨rfl, rfl, rfl, rfl, rfl, trivial⟩ ent_pick
   rw [List.take_succ_eq_append_getElem hjl]
   simp only [List.mem_append, List.mem_singleton, not_or]
   exact ⟨hx, fun e => h16 (by rw [hg, e])⟩
 ·
  refine Ze (k:=Xa (Xi (Xb (Ya (Qc (k:=Vv (k:=Wq (Zt (k:=?_)))))))))
  refine fin_ret (-1) (vs := [_]) (Cs := []) rfl (.tmp rfl .nil) rfl ⟨fun h => by omega, fun h => ?_⟩ ent_pick
  rw [List.take_of_length_le (by omega)] at hx
  exact absurd h hx
theorem slices_Contains_sp {B : HP} {a : Option Addr} (n c : Nat) (l : List Bs) (x : Bs) (sh : SlA B a (l.map vS)) (hn : l.length = n) (hb : n ≤ 140737488355328) :
    Sp1 Tryz.prog 230 [.slice a n c, vS x] [B] (vB (decide (x ∈ l))) [B] := by
 refine Sp.body (n := 9) Tryz.call230 Tryz.func230 rfl rfl rfl ?_
 refine Qc (k:=Vv (k:=Wq (Qc (k:=Qv (k:=?_)))))
 refine r_callX (slices_Index_sp n c l x sh hn hb) rfl rfl rfl (fun i hi => ?_)
 refine Qv (k:=Wq (Zt (k:=?_)))
 refine fin_ret () (vs := [_]) (Cs := []) rfl (.tmp rfl .nil) ?_ trivial ent_pick
 rw [← decide_eq_decide.2 hi]; rfl
theorem card_Of_sp (a : Option Addr) (n cap : Nat) (c : UInt8) : Sp Tryz.prog 111 [.slice a n cap, vU c.toNat] [] (X := Nat × Nat) (fun b => .func (.func 160) #[] #[.pointer (some ⟨b.1, 0, none⟩), .pointer (some ⟨b.2, 0, none⟩)]) (fun _ => True) (fun b => [Ce b.1 170 [.slice a n cap], Ce b.2 5 [vU c.toNat]]) := by
 refine Sp.body (n := 6) Tryz.call111 Tryz.func111 rfl rfl rfl ?_
 refine Qc (k:=Zx [_] (k:=fun b2 => Zx [_] (k:=fun b3 => Vv (k:=Wq (Qc (k:=Qv (k:=Wq (Zt (k:=?_)))))))))
 refine fin_ret (b2, b3) (vs := [_]) (Cs := []) rfl (.tmp rfl .nil) rfl trivial ?_
 exact ent_pick
def ofL (c : UInt8) : List CdV → Nat → List (Nat × CdV)
 | [], _ => []
 | q :: r, i => if q.l = c then (i, q) :: ofL c r (i + 1) else ofL c r (i + 1)
theorem ofL_app (c : UInt8) (l m : List CdV) (i : Nat) : ofL c (l ++ m) i = ofL c l i ++ ofL c m (i + l.length) := by
 induction l generalizing i with
 | nil => rfl
 | cons q l ih =>
   simp only [List.cons_append, ofL, ih, List.length_cons, show i + 1 + l.length = i + (l.length + 1) from by omega]
   split <;> simp
theorem ofL_take {c : UInt8} {qs : List CdV} {j : Nat} (h : j < qs.length) : ofL c (qs.take (j + 1)) 0 = ofL c (qs.take j) 0 ++ (if qs[j].l = c then [(j, qs[j])] else []) := by
 rw [List.take_succ_eq_append_getElem h, ofL_app, List.length_take]
 have : 0 + min j qs.length = j := by omega
 rw [this]
 simp only [ofL]
theorem ofL_mem {c : UInt8} {qs : List CdV} {i : Nat} {p : Nat × CdV} (h : p ∈ ofL c qs i) : p.2 ∈ qs ∧ p.2.l = c := by
 induction qs generalizing i with
 | nil => cases h
 | cons q r ih =>
   simp only [ofL] at h
   split at h
   · rcases List.mem_cons.1 h with rfl | h
     · rename_i e; exact ⟨by simp, e⟩
     · have := ih h; exact ⟨by simp [this.1], this.2⟩
   · have := ih h; exact ⟨by simp [this.1], this.2⟩
theorem ofL_args {c : UInt8} (qs : List CdV) (i : Nat) : (ofL c qs i).map (fun p => p.2.args) = ((cdsOf qs).filter (fun x => x.l = c)).map (·.args) := by
 induction qs generalizing i with
 | nil => rfl
 | cons q r ih =>
   simp only [ofL, cdsOf, List.map_cons, List.filter_cons]
   have e : q.cd.l = q.l := rfl
   by_cases h : q.l = c
   · rw [if_pos h, e, if_pos (by simp [h]), List.map_cons, List.map_cons, ih]; rfl
   · rw [if_neg h, e, if_neg (by simp [h]), ih]; rfl
abbrev okO (c : UInt8) (qs : List CdV) : List (Nat × CdV) → Nat × CdV → Prop := fun pre x => ∃ r, ofL c qs 0 = pre ++ x :: r
abbrev stopO (c : UInt8) (qs : List CdV) : List (Nat × CdV) → Prop := fun pre => ∃ r, ofL c qs 0 = pre ++ r
abbrev encO (p : Nat × CdV) : List Value := [vI p.1, .slice p.2.a p.2.args.length p.2.c]
theorem ofL_split {c : UInt8} {qs : List CdV} {j : Nat} (h : j < qs.length) : ∃ r, ofL c qs 0 = ofL c (qs.take (j + 1)) 0 ++ r := by
 conv => enter [1, r, 1]; rw [← List.take_append_drop (j + 1) qs, ofL_app]
 exact ⟨_, rfl⟩
theorem zb160next0 {G : Prop} (h : G := by
    refine to_inv ⟨j + 1, by omega⟩ (by dsimp only; omega) ⟨rfl, rfl, rfl, rfl, rfl, rfl, trivial⟩ ?_
    dsimp only
    rw [htk]
    exact ent_pick) : G := h
theorem card_Of_it {B : HP} {a : Option Addr} (n cap b2 b3 : Nat) (qs : List CdV) (c : UInt8) (sh : SlA B a (qs.flatMap CdV.cells)) (hn : qs.length = n) (hb : n ≤ 140737488355328) :
    Iter Tryz.prog 160 [.pointer (some ⟨b2, 0, none⟩), .pointer (some ⟨b3, 0, none⟩)] encO (okO c qs) (stopO c qs) [Ce b2 170 [.slice a n cap], Ce b3 5 [vU c.toNat], B] [Ce b2 170 [.slice a n cap], Ce b3 5 [vU c.toNat], B] (ofL c qs 0) (fun _ => .tuple #[]) := by
 intro y J Jx ys
 subst hn
 haveI : RdSl a (qs.flatMap CdV.cells) [B] := ⟨⟨B, sh, .here⟩⟩
 refine Sp.body (n := 26) Tryz.call160 Tryz.func160 rfl rfl rfl ?_
 refine Qc (k:=Zd (k:=Qv (k:=Wq (Zb (k:=?_)))))
 refine p_loop (fun (i : { j : Nat // j ≤ qs.length }) => [(0, y), (1, .pointer (some ⟨b2, 0, none⟩)), (2, .pointer (some ⟨b3, 0, none⟩)), (6, .slice a qs.length cap), (7, vI qs.length), (8, vI i.1)]) (fun (i : { j : Nat // j ≤ qs.length }) => [J (ofL c (qs.take i.1) 0), Ce b2 170 [.slice a qs.length cap], Ce b3 5 [vU c.toNat], B]) (fun (i : { j : Nat // j ≤ qs.length }) => qs.length - i.1) rfl (⟨0, Nat.zero_le _⟩) ?_ ?_ (fun i => ?_)
 · exact ⟨rfl, rfl, rfl, rfl, rfl, rfl, trivial⟩
 ·
  exact Ent.refl _
 obtain ⟨j, hj⟩ := i
 dsimp only
 try dsimp only
 refine Qc (k:=Vv (k:=Wq (Za (k:=Zi (t:=fun h9 => ?_) (f:=fun h9 => ?_)))))
 ·
  refine Zk (k:=Ya (Za (k:=Zb (k:=Za (k:=?_)))))
  have hjl : j < qs.length := by omega
  have htk := ofL_take (c := c) hjl
  obtain ⟨rr, hrr⟩ := ofL_split (c := c) hjl
  refine Zr (k:=Vv (k:=Ye 2 (k:=?_)))
  refine r_eloada (vs := [_, _]) (sz := 2) Tryz.underlying220 rfl ti220 rfl rfl (by rw [flat_len (sz := 2) (fun _ => rfl)]; omega) rfl (by refine get_flat (fun x => ?_) ?_ <;> first | rfl | omega) rfl ?_
  refine Zc [.int .u8 0, .slice none 0 0] (k:=fun b5 => Vv (k:=Zp (k:=Wq (Qc (k:=Qx 0 5 (k:=Zd (k:=Qv (k:=Gi 4 (t:=fun h17 => ?_) (f:=fun h17 => ?_)))))))))
  ·
   have hlc : qs[j].l = c := u8eq.2 (by omega)
   rw [if_pos hlc] at htk
   refine J1 (k:=J1 (k:=I1 (k:=Vf 1 27 (k:=I1 (k:=Zd (k:=I1 (k:=?_)))))))
   refine r_yield ys (ofL c (qs.take j) 0) (j, qs[j]) ⟨rr, by rw [hrr, htk, List.append_assoc]; rfl⟩ rfl rfl rfl ?_ ?_
   ·
    refine J1 (k:=P1 (k:=Wq (Z0 (k:=Zk (k:=Yb (Ya (Zr (k:=Qv (k:=Wn ?_)))))))))
    exact zb160next0
   ·
    refine J1 (k:=P1 (k:=Wq (Z1 (k:=Zt (k:=Vb (Va (Vi (Vb ?_))))))))
    refine fin_ret (some (ofL c (qs.take (j + 1)) 0)) (vs := []) (Cs := []) rfl .nil rfl (fun p e => by cases e; exact ⟨rr, hrr⟩) ?_
    simp only [endsAt]
    rw [htk]
    exact ent_pick
  ·
   have hlc : ¬ qs[j].l = c := fun e => h17 (by rw [e])
   rw [if_neg hlc, List.append_nil] at htk
   refine O0 (k:=O0 (k:=O0 (k:=O0 (k:=O0 (k:=O0 (k:=P0 (k:=Wq (Z0 (k:=Zk (k:=Yb (Ya ?_)))))))))))
   refine Zr (k:=Qv (k:=Wn ?_))
   exact zb160next0
 ·
  refine Ze (k:=Xa (Xi (Xb ?_)))
  have hjl : j = qs.length := by omega
  subst hjl
  rw [List.take_length]
  refine fin_end none (vs := []) (Cs := []) rfl .nil rfl (fun pre e => by cases e) ?_
  simp only [endsAt]
  exact ent_pick
def oneS (l : List (Nat × CdV)) : Value := match l with
 | [] => .slice none 0 0
 | p :: _ => .slice p.2.a p.2.args.length p.2.c
theorem card_One_sp {B : HP} {a : Option Addr} (n cap : Nat) (qs : List CdV) (c : UInt8) (sh : SlA B a (qs.flatMap CdV.cells)) (hn : qs.length = n) (hb : n ≤ 140737488355328) :
    Sp1 Tryz.prog 112 [.slice a n cap, vU c.toNat] [B] (.tuple #[oneS (ofL c qs 0), vI (ofL c qs 0).length]) [B] := by
 have hle : ∀ (l : List CdV) i, (ofL c l i).length ≤ l.length := by
  intro l
  induction l with
  | nil => intro i; exact Nat.le_refl _
  | cons q r ih => intro i; have := ih (i + 1); simp only [ofL, List.length_cons]; split <;> (try simp only [List.length_cons]) <;> omega
 have hl0 := hle qs 0
 refine Sp.body (n := 22) Tryz.call112 Tryz.func112 rfl rfl rfl ?_
 refine Qc (k:=Qv (k:=Wq (Qc (k:=Zc [.slice none 0 0] (k:=fun b6 => Wq (Qc (k:=Zc [.int .i64 0] (k:=fun b7 => ?_))))))))
 refine Zo (k:=Wq (Za (k:=Qc (k:=Qv (k:=?_)))))
 refine r_callX (card_Of_sp a n cap c) rfl rfl rfl (fun x12 _ => ?_)
 refine Wq (Zb (k:=?_))
 refine p_rangeFunc (fun pre => [Ce b6 27 [oneS pre], Ce b7 3 [vI pre.length]]) (fun j pre => [Pu False]) rfl (card_Of_it n cap x12.1 x12.2 qs c sh hn hb) rfl (fun _ => by rfl) rfl ?_ (fun l pre q hok => ?_) ?_ (fun j pre hs => ?_)
 · (refine ent_app ?_; exact ent_step (ce_norm (by rfl) (by rfl)) (ent_step (ce_norm (by rfl) (by rfl)) ent_pick))
 ·
  obtain ⟨rr, hrr⟩ := hok
  have hpl := congrArg List.length hrr
  rw [List.length_append, List.length_cons] at hpl
  refine Zr (k:=Vv (k:=Wg (Zb (k:=Za (k:=Qc (k:=Zd (k:=Vv (k:=Wq (Zi (t:=fun h16 => ?_) (f:=fun h16 => ?_))))))))))
  ·
   have hp0 : pre = [] := List.eq_nil_of_length_eq_zero (by omega)
   have e1 : oneS (pre ++ [q]) = .slice q.2.a q.2.args.length q.2.c := by rw [hp0]; rfl
   refine Zr (k:=Vv (k:=Zo (k:=Wq (Zr (k:=Zd (k:=Vv (k:=Zo (k:=Wn (Yb ?_)))))))))
   refine to_round ?_
   rw [e1, List.length_append, List.length_singleton]
   exact ent_step (ce_norm (by rfl) (by rfl)) (ent_step (ce_norm (by rfl) (by rfl)) ent_nil)
  ·
   have e1 : oneS (pre ++ [q]) = oneS pre := by
    cases pre with
    | nil => simp at h16
    | cons p r => rfl
   refine Zk (k:=Ya (Zr (k:=Zd (k:=Vv (k:=Zo (k:=Wn (Yb ?_)))))))
   refine to_round ?_
   rw [e1, List.length_append, List.length_singleton]
   exact ent_step (ce_norm (by rfl) (by rfl)) (ent_step (ce_norm (by rfl) (by rfl)) ent_nil)
 ·
  skip
  refine Yb (Ya (Za (k:=Dw [Ce b6 27 [oneS (ofL c qs 0)], Ce b7 3 [vI (ofL c qs 0).length]] (k:=?_))))
  refine Di 0 (t:=Ul) (k:=Di 1 (t:=Ul) (k:=Dv 2 (k:=Dv 3 (k:=Dd (k:=Ya (Zt (k:=?_)))))))
  refine fin_ret () (vs := [_, _]) (Cs := []) rfl (.tmp rfl (.tmp rfl .nil)) rfl trivial ?_
  exact ent_pick
 ·
  exact wc_no (fun s => by obtain ⟨_, _, _, _, a, _⟩ := s; exact a)
end
end Go.Proofs.YtdnoacgopfcpbaaGreat
