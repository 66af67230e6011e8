/- Texts of this proof, put together: SR10k, PNames, SR10l, SBook, PKeep. -/
import Derived.Test.YtibccdcemcgkeaaGreatQ24
set_option linter.unusedVariables false
set_option linter.unusedSimpArgs false
namespace Go.Proofs.YtibccdcemcgkeaaGreat
section
set_option maxRecDepth 100000
theorem zb22ret {G : Prop} (h : G := by
    refine fin_ret () (vs := [_]) (Cs := []) rfl (.tmp rfl .nil) ?_ trivial ent_nil
    show vI _ = vI _
    congr 1
    unfold kindN
    first
    | rw [if_pos h14]
    | rw [if_neg (by rw [h14]; simp), if_pos h20]
    | rw [if_neg (by rw [h14]; simp), if_neg (by rw [h20]; simp), if_pos h26]
    | rw [if_neg (by rw [h14]; simp), if_neg (by rw [h20]; simp), if_neg (by rw [h26]; simp)]) : G := h
theorem ref10_Kind_sp (s : Bs) (hs : s.length ≤ 1073741824) : SpF Tryz.prog 22 [vS s] (vI (kindN s)) := by
 refine Sp.body (n := 27) Tryz.call22 Tryz.func22 rfl rfl rfl ?_
 refine Qc (k:=Vv (k:=Wq (Za (k:=Qc (k:=Vv (k:=?_))))))
 refine r_callX (ref10_ReadCheckin_sp s hs) rfl rfl rfl (fun x11 hx11 => ?_)
 obtain ⟨ka, k⟩ := x11
 refine Vv (k:=?_)
 refine wo_pv (pv_extract (v := .agg #[vS k.base, vS k.comment, vI k.date, .slice ka.fa k.files.length ka.fc, .slice ka.pa k.parents.length ka.pc, .slice ka.ta k.tags.length ka.tc, vS k.user]) rfl rfl) rfl ?_
 refine wo_pv (pv_extract (v := vB (readK s).isSome) rfl rfl) rfl ?_
 refine Zc [vS [], vS [], .int .i64 0, .slice none 0 0, .slice none 0 0, .slice none 0 0, vS []] (k:=fun b3 => Zp (k:=Vv (k:=Wq (Qc (k:=Vv (k:=Wq (Zi (t:=fun h14 => ?_) (f:=fun h14 => ?_))))))))
 ·
  refine Qc (k:=Vv (k:=Wq (Zt (k:=Va ?_))))
  exact zb22ret
 ·
  refine Zk (k:=Ya (Za (k:=Qc (k:=Vv (k:=?_)))))
  refine r_callX (ref10_ReadControl_sp s hs) rfl rfl rfl (fun x17 hx17 => ?_)
  obtain ⟨⟨ta, tc⟩, ct⟩ := x17
  refine Vv (k:=?_)
  refine wo_pv (pv_extract (v := .agg #[vI ct.date, .slice ta ct.tags.length tc, vS ct.user]) rfl rfl) rfl ?_
  refine wo_pv (pv_extract (v := vB (readCt s).isSome) rfl rfl) rfl ?_
  refine Zc [.int .i64 0, .slice none 0 0, vS []] (k:=fun b5 => Zp (k:=Vv (k:=Wq (Qc (k:=Vv (k:=Wq (Zi (t:=fun h20 => ?_) (f:=fun h20 => ?_))))))))
  ·
   refine Qc (k:=Vv (k:=Wq (Zt (k:=Va ?_))))
   exact zb22ret
  ·
   refine Zk (k:=Ya (Za (k:=Qc (k:=Vv (k:=?_)))))
   refine r_callX (ref10_ReadCluster_sp s hs) rfl rfl rfl (fun x23 hx23 => ?_)
   obtain ⟨⟨na, nc⟩, nl⟩ := x23
   refine Vv (k:=?_)
   refine wo_pv (pv_extract (v := .slice na nl.length nc) rfl rfl) rfl ?_
   refine wo_pv (pv_extract (v := vB (readCl s).isSome) rfl rfl) rfl ?_
   refine Qv (k:=Wq (Qc (k:=Vv (k:=Wq (Zi (t:=fun h26 => ?_) (f:=fun h26 => ?_))))))
   ·
    refine Qc (k:=Vv (k:=Wq (Zt (k:=Va ?_))))
    exact zb22ret
   ·
    refine Zk (k:=Ya (Qc (k:=Vv (k:=Wq (Zt (k:=?_))))))
    exact zb22ret
def putB (n : Bs) : List Bs → List Bs
 | [] => [n]
 | x :: r => if blt x n = true then x :: putB n r else if x = n then x :: r else n :: x :: r
theorem putB_at (n : Bs) : ∀ (l : List Bs) (j : Nat), j ≤ l.length → (∀ i, i < j → blt (l.getD i []) n = true) → (j < l.length → blt (l.getD j []) n = false) → putB n l = if j < l.length ∧ l.getD j [] = n then l else l.take j ++ [n] ++ l.drop j := by
 intro l
 induction l with
 | nil => intro j hj _ _; simp [putB]
 | cons x r ih =>
   intro j hj h1 h2
   cases j with
   | zero =>
     have h3 := h2 (by simp)
     simp only [List.getD_cons_zero] at h3
     simp only [putB, h3]
     by_cases e : x = n
     · simp [e]
     · simp [e]
   | succ j =>
     have h3 := h1 0 (by omega)
     simp only [List.getD_cons_zero] at h3
     have h4 := ih j (by simpa using hj) (fun i hi => by have := h1 (i + 1) (by omega); simpa using this) (fun h => by have := h2 (by simp; omega); simpa using this)
     simp only [putB, h3, if_true, h4, List.getD_cons_succ, List.length_cons, Nat.add_lt_add_iff_right]
     split <;> simp
theorem putB_mem (n : Bs) (l : List Bs) (x : Bs) : x ∈ putB n l ↔ x = n ∨ x ∈ l := by
 induction l with
 | nil => simp [putB]
 | cons y r ih =>
   simp only [putB]
   split
   · simp only [List.mem_cons, ih]
     constructor
     · rintro (h | h | h) <;> simp [h]
     · rintro (h | h | h) <;> simp [h]
   · split
     · rename_i _ e; subst e; simp
     · simp
theorem putB_sorted (n : Bs) {l : List Bs} (h : l.Pairwise (· < ·)) : (putB n l).Pairwise (· < ·) := by
 induction l with
 | nil => simp [putB]
 | cons y r ih =>
   rw [List.pairwise_cons] at h
   simp only [putB]
   split
   · rename_i hb
     rw [List.pairwise_cons]
     refine ⟨fun x hx => ?_, ih h.2⟩
     rcases (putB_mem n r x).1 hx with e | e
     · rw [e]; exact (blt_iff y n).1 hb
     · exact h.1 x e
   · split
     · exact List.pairwise_cons.2 h
     · rename_i hb hne
       have hlt : n < y := by
        have h1 : ¬ y < n := fun e => hb ((blt_iff y n).2 e)
        rcases Std.lt_trichotomy n y with e | e | e
        · exact e
        · exact absurd e.symm hne
        · exact absurd e h1
       rw [List.pairwise_cons, List.pairwise_cons]
       refine ⟨fun x hx => ?_, h.1, h.2⟩
       rcases List.mem_cons.1 hx with e | e
       · rw [e]; exact hlt
       · exact List.lt_trans hlt (h.1 x e)
theorem putB_len (n : Bs) (l : List Bs) : (putB n l).length ≤ l.length + 1 := by
 induction l with
 | nil => simp [putB]
 | cons y r ih =>
   simp only [putB]
   split
   · simp; omega
   · split <;> simp
theorem all_vS (l : List Bs) : (l.map vS).all oneCell = true := by simp [oneCell]
theorem zb62ret6 {G : Prop} (h : G := by
    have hpl : (putB n l).length = j + 1 + (l.length - j) := by rw [hpb]; simp; omega
    refine fin_ret (a44, c44) (vs := [_]) (Cs := []) rfl (.tmp rfl .nil) (by rw [hpl]; rfl) trivial ?_
    rw [hpl, hpb]
    exact ent_step (row_norm (by rfl) (by simp)) ent_nil) : G := h
theorem zb62join6 {G : Prop} (h : G := by exact to_inv ⟨(), fun h => by first | exact h31 h.2 | omega⟩ trivial ⟨rfl, rfl, rfl, trivial⟩ ent_pick) : G := h
theorem zb62join4 {G : Prop} (h : G := by exact to_inv ⟨j, hj, hok, fun h => by first | exact h17 | omega⟩ trivial ⟨rfl, rfl, rfl, trivial⟩ ent_pick) : G := h
set_option maxHeartbeats 2000000 in
theorem ref10_put_sp (n : Bs) (hn : n.length ≤ 1099511627776) (a : Option Addr) (c : Nat) (l : List Bs) (hl : l.length ≤ 1073741824) (hz : ∀ t ∈ l, t.length ≤ 1099511627776) : Sp Tryz.prog 62 [.slice a l.length c, vS n] [Row 9 1 (.slice a l.length c) l.length (l.map vS)] (X := Option Addr × Nat) (fun x => .slice x.1 (putB n l).length x.2) (fun _ => True) (fun x => [Row 9 1 (.slice x.1 (putB n l).length x.2) (putB n l).length ((putB n l).map vS)]) := by
 refine Sp.body (n := 45) Tryz.call62 Tryz.func62 rfl rfl rfl ?_
 refine Qc (k:=Vv (k:=Wq (Qc (k:=Vv (k:=Wq ?_)))))
 refine p_cut (fun (i : { j : Nat // j ≤ l.length ∧ (∀ i, i < j → blt (l.getD i []) n = true) ∧ (j < l.length → blt (l.getD j []) n = false) }) => [(0, .slice a l.length c), (1, vS n), (5, vI i.1)]) (fun (i : { j : Nat // j ≤ l.length ∧ (∀ i, i < j → blt (l.getD i []) n = true) ∧ (j < l.length → blt (l.getD j []) n = false) }) => [Row 9 1 (.slice a l.length c) l.length (l.map vS)]) rfl (fun i => ?_) ?_
 ·
  obtain ⟨j, hj, hok, hno⟩ := i
  have hpb := putB_at n l j hj hok hno
  dsimp only
  try dsimp only
  refine p_cut (fun (u : { u : Unit // ¬ (j < l.length ∧ l.getD j [] = n) }) => [(0, .slice a l.length c), (1, vS n), (5, vI j)]) (fun (u : { u : Unit // ¬ (j < l.length ∧ l.getD j [] = n) }) => [Row 9 1 (.slice a l.length c) l.length (l.map vS)]) rfl (fun u => ?_) ?_
  ·
   obtain ⟨u, hne⟩ := u
   rw [if_neg hne] at hpb
   have htl : (l.take j).length = j := by rw [List.length_take]; omega
   have hdl : (l.drop j).length = l.length - j := List.length_drop
   refine wc_know (A := Row 9 1 (.slice a l.length c) l.length (l.map vS)) HasC.get row_know (fun hkn => ?_)
   try dsimp only
   refine Za (k:=Dw [] (k:=?_))
   refine Dv 1 (k:=Dv 2 (k:=?_))
   refine d_first 3 rfl rfl rfl (by kernel_rfl) (by kernel_rfl) (tl_pv (pv_slslice_tom (m := j) Tryz.underlying27 ti9 rfl rfl rfl (by omega))) ?_
   refine Dv 5 (k:=Dv 8 (k:=Dv 9 (k:=?_)))
   refine d_first 10 rfl rfl rfl (by kernel_rfl) (by kernel_rfl) (tl_pv (pv_slslice_froma (m := j) (kk := j) Tryz.underlying27 ti9 rfl rfl rfl rfl (Nat.mul_one _) (by omega) hkn.1 hkn.2.2)) ?_
   refine d_next2 0 6 (by kernel_rfl) rfl rfl ?_ ?_
   ·
    refine Nl [] (cs := []) (k:=fun b33 => ?_)
    refine d_next2 4 6 (by kernel_rfl) rfl rfl ?_ ?_
    ·
     refine an_ent rfl (ent_row (k := 0) (cap := 0) (sz := 1) (e := 9) (g := b33) (xs := []) (cur := []) (Nat.le_refl _) (by simp [maxLen]) rfl rfl rfl) ?_
     refine an_opT (opt_appendA (sz := 1) (bytes := 16) Tryz.underlying27 ti9 rfl rfl rfl rfl rfl rfl rfl (sla_take (sla_row (e := 9) (sz := 1) (k := l.length) (n := l.length) (c := c) (a := a) (xs := l.map vS)) j) (by rw [← List.map_take, List.length_map, htl, Nat.mul_one]) (by rw [← List.map_take]; exact all_vS _) (by omega) (by simp only [maxLen]; omega) (k := 0) (xs := [])) rfl (fun x37 ⟨a37, c37, h37⟩ => ?_)
     subst h37
     rw [Nat.zero_add, List.nil_append, ← List.map_take]
     refine Dn 6 (k:=Nl [_] (cs := [_]) (k:=fun b39 => Dn 7 (k:=?_)))
     refine an_append1 (sz := 1) (bytes := 16) Tryz.underlying27 ti9 rfl rfl rfl rfl rfl rfl rfl (by rfl) (by rfl) (by omega) (by simp only [maxLen]; omega) rfl (fun a40 c40 => ?_)
     refine Dn 11 (k:=?_)
     refine an_opT (opt_appendA (sz := 1) (bytes := 16) Tryz.underlying27 ti9 rfl rfl rfl rfl rfl rfl rfl (sla_from (e := 9) (sz := 1) (a := a) (n' := l.length) (c' := c) (m := j) (kk := j) (k := l.length) (xs := l.map vS) (Nat.mul_one _) hj) (by rw [← List.map_drop, List.length_map, hdl, Nat.mul_one]) (by rw [← List.map_drop]; exact all_vS _) (by omega) (by simp only [maxLen]; omega) (k := j + 1) (xs := (l.take j).map vS ++ [vS n])) rfl (fun x44 ⟨a44, c44, h44⟩ => ?_)
     subst h44
     rw [← List.map_drop]
     refine Dv 12 (k:=Dd (k:=Ya (Zt (k:=?_))))
     exact zb62ret6
    ·
     refine Nl [_] (cs := [_]) (k:=fun b39 => Dn 4 (k:=?_))
     refine an_ent rfl (ent_row (k := 0) (cap := 0) (sz := 1) (e := 9) (g := b33) (xs := []) (cur := []) (Nat.le_refl _) (by simp [maxLen]) rfl rfl rfl) ?_
     refine an_opT (opt_appendA (sz := 1) (bytes := 16) Tryz.underlying27 ti9 rfl rfl rfl rfl rfl rfl rfl (sla_take (sla_row (e := 9) (sz := 1) (k := l.length) (n := l.length) (c := c) (a := a) (xs := l.map vS)) j) (by rw [← List.map_take, List.length_map, htl, Nat.mul_one]) (by rw [← List.map_take]; exact all_vS _) (by omega) (by simp only [maxLen]; omega) (k := 0) (xs := [])) rfl (fun x37 ⟨a37, c37, h37⟩ => ?_)
     subst h37
     rw [Nat.zero_add, List.nil_append, ← List.map_take]
     refine Dn 7 (k:=?_)
     refine an_append1 (sz := 1) (bytes := 16) Tryz.underlying27 ti9 rfl rfl rfl rfl rfl rfl rfl (by rfl) (by rfl) (by omega) (by simp only [maxLen]; omega) rfl (fun a40 c40 => ?_)
     refine Dn 11 (k:=?_)
     refine an_opT (opt_appendA (sz := 1) (bytes := 16) Tryz.underlying27 ti9 rfl rfl rfl rfl rfl rfl rfl (sla_from (e := 9) (sz := 1) (a := a) (n' := l.length) (c' := c) (m := j) (kk := j) (k := l.length) (xs := l.map vS) (Nat.mul_one _) hj) (by rw [← List.map_drop, List.length_map, hdl, Nat.mul_one]) (by rw [← List.map_drop]; exact all_vS _) (by omega) (by simp only [maxLen]; omega) (k := j + 1) (xs := (l.take j).map vS ++ [vS n])) rfl (fun x44 ⟨a44, c44, h44⟩ => ?_)
     subst h44
     rw [← List.map_drop]
     refine Dv 12 (k:=Dd (k:=Ya (Zt (k:=?_))))
     exact zb62ret6
   ·
    refine Nl [_] (cs := [_]) (k:=fun b39 => Dn 0 (k:=Nl [] (cs := []) (k:=fun b33 => Dn 4 (k:=?_))))
    refine an_ent rfl (ent_row (k := 0) (cap := 0) (sz := 1) (e := 9) (g := b33) (xs := []) (cur := []) (Nat.le_refl _) (by simp [maxLen]) rfl rfl rfl) ?_
    refine an_opT (opt_appendA (sz := 1) (bytes := 16) Tryz.underlying27 ti9 rfl rfl rfl rfl rfl rfl rfl (sla_take (sla_row (e := 9) (sz := 1) (k := l.length) (n := l.length) (c := c) (a := a) (xs := l.map vS)) j) (by rw [← List.map_take, List.length_map, htl, Nat.mul_one]) (by rw [← List.map_take]; exact all_vS _) (by omega) (by simp only [maxLen]; omega) (k := 0) (xs := [])) rfl (fun x37 ⟨a37, c37, h37⟩ => ?_)
    subst h37
    rw [Nat.zero_add, List.nil_append, ← List.map_take]
    refine Dn 7 (k:=?_)
    refine an_append1 (sz := 1) (bytes := 16) Tryz.underlying27 ti9 rfl rfl rfl rfl rfl rfl rfl (by rfl) (by rfl) (by omega) (by simp only [maxLen]; omega) rfl (fun a40 c40 => ?_)
    refine Dn 11 (k:=?_)
    refine an_opT (opt_appendA (sz := 1) (bytes := 16) Tryz.underlying27 ti9 rfl rfl rfl rfl rfl rfl rfl (sla_from (e := 9) (sz := 1) (a := a) (n' := l.length) (c' := c) (m := j) (kk := j) (k := l.length) (xs := l.map vS) (Nat.mul_one _) hj) (by rw [← List.map_drop, List.length_map, hdl, Nat.mul_one]) (by rw [← List.map_drop]; exact all_vS _) (by omega) (by simp only [maxLen]; omega) (k := j + 1) (xs := (l.take j).map vS ++ [vS n])) rfl (fun x44 ⟨a44, c44, h44⟩ => ?_)
    subst h44
    rw [← List.map_drop]
    refine Dv 12 (k:=Dd (k:=Ya (Zt (k:=?_))))
    exact zb62ret6
  ·
   refine Qc (k:=Qv (k:=Qv (k:=Vv (k:=Gi 4 (t:=fun h24 => ?_) (f:=fun h24 => ?_)))))
   ·
    refine J1 (k:=J1 (k:=I1 (k:=Ye 1 (k:=I1 (k:=Yl (hv:=by exact get_mapD [] (m := j) (by omega)) (k:=J1 (k:=J1 (k:=?_))))))))
    refine P1 (k:=Wq (Zi (t:=fun h31 => ?_) (f:=fun h31 => ?_)))
    ·
     refine Qc (k:=Qv (k:=Wq (Zt (k:=Vi ?_))))
     rw [hpb, if_pos ⟨by omega, h31⟩]
     exact fin_ret (a, c) (vs := [_]) (Cs := []) rfl (.tmp rfl .nil) rfl trivial ent_pick
    ·
     refine Zk (k:=?_)
     exact zb62join6
   ·
    refine O0 (k:=O0 (k:=O0 (k:=O0 (k:=O0 (k:=O0 (k:=P0 (k:=Wq (Z0 (k:=Zk (k:=?_))))))))))
    exact zb62join6
 ·
  refine Zb (k:=?_)
  refine p_loop (fun (i : { j : Nat // j ≤ l.length ∧ ∀ i, i < j → blt (l.getD i []) n = true }) => [(0, .slice a l.length c), (1, vS n), (5, vI i.1)]) (fun (i : { j : Nat // j ≤ l.length ∧ ∀ i, i < j → blt (l.getD i []) n = true }) => [Row 9 1 (.slice a l.length c) l.length (l.map vS)]) (fun (i : { j : Nat // j ≤ l.length ∧ ∀ i, i < j → blt (l.getD i []) n = true }) => l.length - i.1) rfl (⟨0, Nat.zero_le _, fun i h => by omega⟩) ?_ ?_ (fun i => ?_)
  · exact ⟨rfl, rfl, rfl, trivial⟩
  ·
   exact ent_pick
  obtain ⟨j, hj, hok⟩ := i
  dsimp only
  try dsimp only
  refine Za (k:=Qc (k:=Qv (k:=Qv (k:=Vv (k:=Gi 4 (t:=fun h10 => ?_) (f:=fun h10 => ?_))))))
  ·
   refine J1 (k:=J1 (k:=I1 (k:=Ye 1 (k:=I1 (k:=Yl (hv:=by exact get_mapD [] (m := j) (by omega)) (k:=J1 (k:=J1 (k:=?_))))))))
   refine P1 (k:=Wq (Zi (t:=fun h17 => ?_) (f:=fun h17 => ?_)))
   ·
    refine Zk (k:=Ya (Zb (k:=Zr (k:=Qv (k:=Vv (k:=Wn (Yb ?_)))))))
    refine to_inv ⟨j + 1, by omega, fun i hi => ?_⟩ (by dsimp only; omega) ⟨rfl, rfl, rfl, trivial⟩ ent_pick
    by_cases e : i = j
    · rw [e]; exact h17
    · exact hok i (by omega)
   ·
    refine Ze (k:=Xa (Xi (Xb ?_)))
    exact zb62join4
  ·
   refine O0 (k:=O0 (k:=O0 (k:=O0 (k:=O0 (k:=O0 (k:=P0 (k:=Wq (Z0 (k:=Ze (k:=Xa (Xi ?_)))))))))))
   refine Xb ?_
   exact zb62join4
end
def putA (l ns : List Bs) : List Bs := ns.foldl (fun l n => putB n l) l
theorem putA_snoc (l ns : List Bs) (n : Bs) : putA l (ns ++ [n]) = putB n (putA l ns) := by simp [putA]
theorem putA_mem (ns : List Bs) : ∀ (l : List Bs) (x : Bs), x ∈ putA l ns ↔ x ∈ l ∨ x ∈ ns := by
 induction ns with
 | nil => intro l x; simp [putA]
 | cons n ns ih =>
   intro l x
   have h := ih (putB n l) x
   have e : putA l (n :: ns) = putA (putB n l) ns := rfl
   rw [e, h, putB_mem, List.mem_cons]
   constructor
   · rintro ((h | h) | h) <;> simp [h]
   · rintro (h | h | h) <;> simp [h]
theorem putA_sorted (ns : List Bs) : ∀ (l : List Bs), l.Pairwise (· < ·) → (putA l ns).Pairwise (· < ·) := by
 induction ns with
 | nil => intro l h; exact h
 | cons n ns ih => intro l h; exact ih _ (putB_sorted n h)
theorem putA_len (ns : List Bs) : ∀ (l : List Bs), (putA l ns).length ≤ l.length + ns.length := by
 induction ns with
 | nil => intro l; exact Nat.le_refl _
 | cons n ns ih =>
   intro l
   have h := ih (putB n l)
   have h2 := putB_len n l
   have e : putA l (n :: ns) = putA (putB n l) ns := rfl
   rw [e, List.length_cons]; omega
theorem dedS_mem (l : List Bs) (x : Bs) : x ∈ dedS l ↔ x ∈ l := by
 induction l using list_snoc_ind with
 | h0 => exact Iff.rfl
 | h1 l y ih =>
   rw [dedS_snoc]
   split
   · rename_i h
     rw [ih, List.mem_append, List.mem_singleton]
     refine ⟨.inl, fun h2 => h2.elim id fun e => ?_⟩
     exact ih.1 (by rw [e]; exact List.mem_of_getLast? h)
   · rw [List.mem_append, List.mem_append, ih]
theorem dedS_sorted (l : List Bs) (h : l.Pairwise (fun x y => x ≤ y)) : (dedS l).Pairwise (· < ·) := by
 induction l using list_snoc_ind with
 | h0 => exact List.Pairwise.nil
 | h1 l y ih =>
   rw [List.pairwise_append] at h
   obtain ⟨h1, _, h3⟩ := h
   have hl := ih h1
   rw [dedS_snoc]
   split
   · exact hl
   · rename_i hne
     rw [List.pairwise_append]
     refine ⟨hl, by simp, fun a ha b hb => ?_⟩
     rw [List.mem_singleton.1 hb]
     have hab : a ≤ y := h3 a ((dedS_mem l a).1 ha) y (by simp)
     rcases Std.lt_trichotomy a y with e | e | e
     · exact e
     · exfalso
       subst e
       -- a is the last: all before the last are less than it, and it is no greater than a
       rcases hg : (dedS l).getLast? with _ | z
       · rw [List.getLast?_eq_none_iff.1 hg] at ha; cases ha
       · have hz : z ∈ dedS l := List.mem_of_getLast? hg
         have hza : z ≤ a := h3 z ((dedS_mem l z).1 hz) a (by simp)
         by_cases ez : z = a
         · rw [ez] at hg; exact hne hg
         · obtain ⟨ys, hys⟩ : ∃ ys, dedS l = ys ++ [z] := List.getLast?_eq_some_iff.1 hg
           rw [hys] at ha hl
           rw [List.pairwise_append] at hl
           rcases List.mem_append.1 ha with h4 | h4
           · have := hl.2.2 a h4 z (by simp)
             exact absurd this (List.not_lt.2 hza)
           · exact ez (List.mem_singleton.1 h4).symm
     · exact absurd e (List.not_lt.2 hab)
theorem namesR_sorted (s : Bs) : (namesR s).Pairwise (· < ·) := (dedS_sorted _ (sortB_sorted _)).filter _
theorem namesR_mem (s x : Bs) : x ∈ namesR s ↔ x ∈ namesP s ∧ x ≠ [] := by
 rw [namesR, List.mem_filter, dedS_mem, (sortB_perm _).mem_iff]; simp
/-- Names of a check-in, in the document's order. -/
def nsK (c : Ck) : List Bs := (if c.base = [] then [] else [c.base]) ++ (c.files.map (·.2)).filter (· ≠ []) ++ c.parents
noncomputable def outK (s : Bs) : List Bs := match readK s with
 | some c => putA [] (nsK c)
 | none => []
noncomputable def outT (s : Bs) : List Bs := match readCt s with
 | some c => putA (outK s) (c.tags.map (·.target))
 | none => outK s
noncomputable def outC (s : Bs) : List Bs := match readCl s with
 | some l => l
 | none => outT s
theorem isN_ne {s : Bs} (h : isN s = true) : s ≠ [] := fun e => by have := isN_len h; rw [e] at this; cases this
theorem rise_pw {l : List Bs} (h : ∀ i, 0 < i → i < l.length → blt (l.getD (i - 1) []) (l.getD i []) = true) : l.Pairwise (· < ·) := by
 induction l using list_snoc_ind with
 | h0 => exact List.Pairwise.nil
 | h1 l y ih =>
   have ih' := ih (fun i h0 h1 => by
    have := h i h0 (by simp; omega)
    have e1 : ∀ k, k < l.length → (l ++ [y]).getD k [] = l.getD k [] := fun k hk => by simp [hk, List.getElem?_append]
    rw [e1 _ (by omega), e1 _ h1] at this
    exact this)
   rw [List.pairwise_append]
   refine ⟨ih', by simp, fun a ha b hb => ?_⟩
   rw [List.mem_singleton.1 hb]
   rcases hg : l.getLast? with _ | z
   · rw [List.getLast?_eq_none_iff.1 hg] at ha; cases ha
   · obtain ⟨ys, rfl⟩ := List.getLast?_eq_some_iff.1 hg
     have h2 := h (ys.length + 1) (by omega) (by simp)
     have e1 : (ys ++ [z] ++ [y]).getD (ys.length + 1 - 1) [] = z := by simp
     have e2 : (ys ++ [z] ++ [y]).getD (ys.length + 1) [] = y := by simp
     rw [e1, e2] at h2
     have hzy := (blt_iff z y).1 h2
     rcases List.mem_append.1 ha with h4 | h4
     · exact List.lt_trans ((List.pairwise_append.1 ih').2.2 a h4 z (by simp)) hzy
     · rw [List.mem_singleton.1 h4]; exact hzy
theorem only_ct {s : Bs} {c : Ct} (h : readCt s = some c) : readK s = none := the_none fun k hk => by
 have e := hk.reads.uniq (readCt_iff.1 h).reads
 have h1 : (⟨67, [46 :: escB k.comment]⟩ : Cd) ∈ ckCards k := by simp [ckCards]
 rw [e] at h1
 simp only [ctCards, List.mem_cons, List.mem_append, List.mem_map, List.mem_singleton] at h1
 rcases h1 with h1 | ⟨t, _, h1⟩ | h1 | h1
 · have := congrArg Cd.l h1; simp at this
 · have := congrArg Cd.l h1; simp [tgCard] at this
 · have := congrArg Cd.l h1; simp at this
 · cases h1
theorem only_cl {s : Bs} {l : List Bs} (h : readCl s = some l) : readK s = none ∧ readCt s = none := by
 constructor
 · refine the_none fun k hk => ?_
   have e := hk.reads.uniq (readCl_iff.1 h).reads
   have h1 : (⟨67, [46 :: escB k.comment]⟩ : Cd) ∈ ckCards k := by simp [ckCards]
   rw [e] at h1
   have := clCards_let l _ h1
   simp at this
 · refine the_none fun k hk => ?_
   have e := hk.reads.uniq (readCl_iff.1 h).reads
   have h1 : (⟨68, [decN k.date.toNat]⟩ : Cd) ∈ ctCards k := by simp [ctCards]
   rw [e] at h1
   have := clCards_let l _ h1
   simp at this
theorem right_parents {c : Ck} (h : RightK c) : ∀ p ∈ c.parents, isN p = true := fun p hp => by
 obtain ⟨i, hi, rfl⟩ := List.getElem_of_mem hp
 have := (h.parents.ok i hi).1
 simpa [hi] using this
theorem right_files {c : Ck} (h : RightK c) : ∀ f ∈ c.files, f.2 = [] ∨ isN f.2 = true := fun f hf => by
 obtain ⟨i, hi, rfl⟩ := List.getElem_of_mem hf
 have := (h.files.ok i hi).hash
 have e : c.files.getD i ([], []) = c.files[i] := by simp [hi]
 rw [e] at this
 rcases this with h | ⟨_, h⟩
 · exact .inr h
 · exact .inl h
theorem right_targets {c : Ct} (h : RightCt c) : ∀ t ∈ c.tags, isN t.target = true := fun t ht => by
 obtain ⟨i, hi, rfl⟩ := List.getElem_of_mem ht
 have := (h.tags.ok i hi).tgt.2 rfl
 have e : c.tags.getD i tg0 = c.tags[i] := by simp [hi]
 rwa [e] at this
theorem right_names {l : List Bs} (h : RightCl l) : ∀ n ∈ l, isN n = true := fun n hn => by
 obtain ⟨i, hi, rfl⟩ := List.getElem_of_mem hn
 have := (h.ok i hi).1
 simpa [hi] using this
theorem outC_names (s : Bs) : outC s = namesR s := by
 refine sorted_eq ?_ (namesR_sorted s) fun k => ?_
 · unfold outC
   split
   · rename_i l h
     exact rise_pw fun i h0 hi => ((readCl_iff.1 h).1.ok i hi).2 h0
   · unfold outT
     have hk : (outK s).Pairwise (· < ·) := by
      unfold outK
      split
      · exact putA_sorted _ _ .nil
      · exact .nil
     split
     · exact putA_sorted _ _ hk
     · exact hk
 · rw [namesR_mem]
   unfold outC
   cases hl : readCl s with
   | some l =>
     obtain ⟨h1, h2⟩ := only_cl hl
     simp only [namesP, h1, h2, hl, Option.getD_some]
     exact ⟨fun h => ⟨h, isN_ne (right_names (readCl_iff.1 hl).1 k h)⟩, fun h => h.1⟩
   | none =>
     dsimp only
     unfold outT
     cases ht : readCt s with
     | some c =>
       have h1 := only_ct ht
       simp only [namesP, h1, ht, outK]
       rw [putA_mem]
       constructor
       · rintro (h | h)
         · cases h
         · obtain ⟨t, h2, rfl⟩ := List.mem_map.1 h
           exact ⟨h, isN_ne (right_targets (readCt_iff.1 ht).1 t h2)⟩
       · exact fun h => .inr h.1
     | none =>
       dsimp only
       unfold outK
       cases hk : readK s with
       | none => simp [namesP, hk, ht, hl]
       | some c =>
         have hR := (readK_iff.1 hk).1
         simp only [namesP, hk]
         rw [putA_mem]
         simp only [nsK, List.mem_append, List.mem_cons, List.mem_filter, List.mem_map]
         constructor
         · rintro (h | (h | h) | h)
           · cases h
           · by_cases e : c.base = []
             · rw [if_pos e] at h; cases h
             · rw [if_neg e, List.mem_singleton] at h
               exact ⟨.inl (.inl h), by rw [h]; exact e⟩
           · exact ⟨.inr h.1, by simpa using h.2⟩
           · exact ⟨.inl (.inr h), isN_ne (right_parents hR k h)⟩
         · rintro ⟨(h | h) | h, hne⟩
           · refine .inr (.inl (.inl ?_))
             rw [if_neg (by rw [← h]; exact hne), h]; simp
           · exact .inr (.inr h)
           · exact .inr (.inl (.inr ⟨h, by simpa using hne⟩))
section
set_option maxRecDepth 100000
theorem putA_small {ns : List Bs} (h : ∀ n ∈ ns, n.length ≤ 40) (l : List Bs) (hl : ∀ n ∈ l, n.length ≤ 40) : ∀ t ∈ putA l ns, t.length ≤ 1099511627776 := fun t ht => by
 rcases (putA_mem ns l t).1 ht with e | e
 · have := hl t e; omega
 · have := h t e; omega
theorem isN_40 {s : Bs} (h : isN s = true) : s.length ≤ 40 := by rw [isN_len h]; omega
theorem nsK_small {c : Ck} (h : RightK c) : (∀ n ∈ nsK c, n.length ≤ 40) ∧ (nsK c).length ≤ 20 := by
 constructor
 · intro n hn
   simp only [nsK, List.mem_append, List.mem_filter, List.mem_map] at hn
   rcases hn with (hn | ⟨⟨f, hf, rfl⟩, _⟩) | hn
   · by_cases e : c.base = []
     · rw [if_pos e] at hn; cases hn
     · rw [if_neg e, List.mem_singleton] at hn
       rw [hn]; exact isN_40 (h.base.resolve_left e)
   · rcases right_files h f hf with e | e
     · rw [e]; exact Nat.zero_le _
     · exact isN_40 e
   · exact isN_40 (right_parents h n hn)
 · have h1 := h.files.len
   have h2 := h.parents.len
   have h3 : ((c.files.map (·.2)).filter (· ≠ [])).length ≤ (c.files.map (·.2)).length := List.length_filter_le _ _
   rw [List.length_map] at h3
   simp only [nsK, List.length_append]
   have h4 : (if c.base = [] then ([] : List Bs) else [c.base]).length ≤ 1 := by split <;> simp
   omega
theorem outK_small (s : Bs) : (∀ n ∈ outK s, n.length ≤ 40) ∧ (outK s).length ≤ 20 := by
 unfold outK
 split
 · rename_i c h
   obtain ⟨h1, h2⟩ := nsK_small (readK_iff.1 h).1
   constructor
   · intro n hn
     rcases (putA_mem _ _ n).1 hn with e | e
     · cases e
     · exact h1 n e
   · have := putA_len (nsK c) []
     simp at this; omega
 · exact ⟨(by intro n hn; cases hn), Nat.zero_le _⟩
theorem zb20ret {G : Prop} (h : G := by
    rw [ho]
    first
    | exact fin_ret (na, nc) (vs := [_]) (Cs := []) rfl (.tmp rfl .nil) rfl trivial ent_pick
    | exact fin_ret (ea, ec) (vs := [_]) (Cs := []) rfl (.tmp rfl .nil) rfl trivial ent_pick) : G := h
theorem zb20join24 {G : Prop} (h : G := by
    first
    | (have hjl : j = ct.tags.length := by omega
       rw [hjl, List.take_length, ← hot] at hu
       exact to_inv ⟨((ua, uc), u), hu⟩ trivial ⟨rfl, rfl, trivial⟩ ent_pick)
    | (have hkn : readCt s = none := by cases e : readCt s with
         | none => rfl
         | some c => rw [e] at h60; simp at h60
       exact to_inv ⟨((oa, oc), out), by dsimp only; rw [outT, hkn, hout]⟩ trivial ⟨rfl, rfl, trivial⟩ ent_pick)) : G := h
theorem zb20next0 {G : Prop} (h : G := by
    first
    | (refine to_inv ⟨(((pa42, pc42), putB f.2 u), j + 1), by dsimp only; omega, ?_⟩ (by dsimp only; omega) ⟨rfl, rfl, rfl, rfl, rfl, rfl, trivial⟩ ent_pick
       dsimp only; rw [htk, if_neg h38, ← List.append_assoc, putA_snoc, hu])
    | (refine to_inv ⟨(((ua, uc), u), j + 1), by dsimp only; omega, ?_⟩ (by dsimp only; omega) ⟨rfl, rfl, rfl, rfl, rfl, rfl, trivial⟩ ent_pick
       dsimp only; rw [htk, if_pos (Classical.not_not.1 h38), List.append_nil, hu])) : G := h
theorem zb20join17 {G : Prop} (h : G := by
    first
    | (have hml : m = k.parents.length := by omega
       rw [hml, List.take_length, ← hnk, ← hok] at hv
       exact to_inv ⟨((va, vc), v), hv⟩ trivial ⟨rfl, rfl, trivial⟩ ent_pick)
    | (have hkn : readK s = none := by cases e : readK s with
         | none => rfl
         | some c => rw [e] at h21; simp at h21
       refine to_inv ⟨((none, 0), []), by dsimp only; rw [outK, hkn]⟩ trivial ⟨rfl, rfl, trivial⟩ ?_
       exact ent_step (row_norm (by rfl) (by rfl)) ent_pick)) : G := h
theorem zb20join6 {G : Prop} (h : G := by
    first
    | (refine to_inv ⟨((pa28, pc28), putB k.base []), ?_⟩ trivial ⟨rfl, rfl, rfl, trivial⟩ ent_pick
       dsimp only; rw [hbs, if_neg h24]; rfl)
    | (refine to_inv ⟨((none, 0), []), ?_⟩ trivial ⟨rfl, rfl, rfl, trivial⟩ ?_
       · dsimp only; rw [hbs, if_pos (Classical.not_not.1 h24)]; rfl
       · exact ent_step (row_norm (by rfl) (by rfl)) ent_pick)) : G := h
set_option maxHeartbeats 4000000 in
theorem ref10_Names_sp (s : Bs) (hs : s.length ≤ 1073741824) : Sp Tryz.prog 20 [vS s] [] (X := Option Addr × Nat) (fun x => .slice x.1 (namesR s).length x.2) (fun _ => True) (fun x => [Row 9 1 (.slice x.1 (namesR s).length x.2) (namesR s).length ((namesR s).map vS)]) := by
 rw [← outC_names]
 refine Sp.body (n := 81) Tryz.call20 Tryz.func20 rfl rfl rfl ?_
 refine Qc (k:=Vv (k:=Wq (Qc (k:=Vv (k:=Wq ?_)))))
 refine p_cut (fun (i : { x : (Option Addr × Nat) × List Bs // x.2 = outK s }) => [(0, vS s), (3, .slice i.1.1.1 (i.1.2).length i.1.1.2)]) (fun (i : { x : (Option Addr × Nat) × List Bs // x.2 = outK s }) => [Row 9 1 (.slice i.1.1.1 (i.1.2).length i.1.1.2) (i.1.2).length ((i.1.2).map vS)]) rfl (fun i => ?_) ?_
 ·
  obtain ⟨⟨⟨oa, oc⟩, out⟩, hout⟩ := i
  dsimp only at hout ⊢
  obtain ⟨hks, hkl⟩ := outK_small s
  rw [← hout] at hks hkl
  try dsimp only
  refine p_cut (fun (i : { x : (Option Addr × Nat) × List Bs // x.2 = outT s }) => [(0, vS s), (3, .slice i.1.1.1 (i.1.2).length i.1.1.2)]) (fun (i : { x : (Option Addr × Nat) × List Bs // x.2 = outT s }) => [Row 9 1 (.slice i.1.1.1 (i.1.2).length i.1.1.2) (i.1.2).length ((i.1.2).map vS)]) rfl (fun i => ?_) ?_
  ·
   obtain ⟨⟨⟨ea, ec⟩, es⟩, hes⟩ := i
   dsimp only at hes ⊢
   try dsimp only
   refine Za (k:=Qc (k:=Vv (k:=?_)))
   refine r_callX (ref10_ReadCluster_sp s hs) rfl rfl rfl (fun x75 hx75 => ?_)
   obtain ⟨⟨na, nc⟩, nl⟩ := x75
   dsimp only [nmsH] at hx75 ⊢
   refine Vv (k:=?_)
   refine wo_pv (pv_extract (v := .slice na nl.length nc) rfl rfl) rfl ?_
   refine wo_pv (pv_extract (v := vB (readCl s).isSome) rfl rfl) rfl ?_
   refine Qv (k:=Wq (Qc (k:=Vv (k:=Wq (Zi (t:=fun h78 => ?_) (f:=fun h78 => ?_))))))
   ·
    have ho : outC s = nl := by
     cases e : readCl s with
     | none => rw [e] at h78; simp at h78
     | some c => rw [e] at hx75; rw [outC, e, hx75]; rfl
    refine Zr (k:=Qv (k:=Wq (Qc (k:=Qv (k:=Wq (Zt (k:=?_)))))))
    exact zb20ret
   ·
    have ho : outC s = es := by
     cases e : readCl s with
     | none => rw [outC, e, hes]
     | some c => rw [e] at h78; simp at h78
    refine Zk (k:=Ya (Qc (k:=Qv (k:=Wq (Zt (k:=?_))))))
    exact zb20ret
  ·
   refine Qc (k:=Vv (k:=?_))
   refine r_callX (ref10_ReadControl_sp s hs) rfl rfl rfl (fun x57 hx57 => ?_)
   obtain ⟨⟨ta, tc⟩, ct⟩ := x57
   dsimp only [ctH] at hx57 ⊢
   refine Vv (k:=?_)
   refine wo_pv (pv_extract (v := .agg #[vI ct.date, .slice ta ct.tags.length tc, vS ct.user]) rfl rfl) rfl ?_
   refine wo_pv (pv_extract (v := vB (readCt s).isSome) rfl rfl) rfl ?_
   refine Zc [.int .i64 0, .slice none 0 0, vS []] (k:=fun b10 => Zp (k:=Vv (k:=Wq (Qc (k:=Vv (k:=Wq (Zi (t:=fun h60 => ?_) (f:=fun h60 => ?_))))))))
   ·
    have hk2 : readCt s = some ct := by cases e : readCt s with
     | none => rw [e] at h60; simp at h60
     | some c => rw [e] at hx57; rw [hx57]; rfl
    have hR := (readCt_iff.1 hk2).1
    have htl := hR.tags.len
    have hot : outT s = putA out (ct.tags.map (·.target)) := by rw [outT, hk2, hout]
    refine Qc (k:=Qx 1 28 (k:=Qv (k:=Wq (Zb (k:=?_)))))
    refine p_loop (fun (i : { x : ((Option Addr × Nat) × List Bs) × Nat // x.2 ≤ ct.tags.length ∧ x.1.2 = putA out ((ct.tags.take x.2).map (·.target)) }) => [(0, vS s), (3, .slice i.1.1.1.1 (i.1.1.2).length i.1.1.1.2), (62, .slice ta ct.tags.length tc), (63, vI ct.tags.length), (64, vI i.1.2)]) (fun (i : { x : ((Option Addr × Nat) × List Bs) × Nat // x.2 ≤ ct.tags.length ∧ x.1.2 = putA out ((ct.tags.take x.2).map (·.target)) }) => [Row 9 1 (.slice i.1.1.1.1 (i.1.1.2).length i.1.1.1.2) (i.1.1.2).length ((i.1.1.2).map vS), Ce b10 54 [vI ct.date, .slice ta ct.tags.length tc, vS ct.user], Row 66 4 (.slice ta ct.tags.length tc) ct.tags.length (ct.tags.flatMap tgCells)]) (fun (i : { x : ((Option Addr × Nat) × List Bs) × Nat // x.2 ≤ ct.tags.length ∧ x.1.2 = putA out ((ct.tags.take x.2).map (·.target)) }) => ct.tags.length - i.1.2) rfl (⟨(((oa, oc), out), 0), Nat.zero_le _, rfl⟩) ?_ ?_ (fun i => ?_)
    · exact ⟨rfl, rfl, rfl, rfl, rfl, trivial⟩
    ·
     dsimp only
     exact ent_pick
    obtain ⟨⟨⟨⟨ua, uc⟩, u⟩, j⟩, hj, hu⟩ := i
    dsimp only at hj hu ⊢
    try dsimp only
    refine Qc (k:=Vv (k:=Wq (Za (k:=Zi (t:=fun h65 => ?_) (f:=fun h65 => ?_)))))
    ·
     refine Zk (k:=Ya (Za (k:=Zb (k:=Za (k:=?_)))))
     have hjl : j < ct.tags.length := by omega
     obtain ⟨t, ht⟩ : ∃ t, t = ct.tags[j] := ⟨_, rfl⟩
     have htk : (ct.tags.take (j + 1)).map (·.target) = (ct.tags.take j).map (·.target) ++ [t.target] := by rw [List.take_succ_eq_append_getElem hjl, List.map_append, ht]; rfl
     have htz : t.target.length ≤ 40 := isN_40 (right_targets hR t (by rw [ht]; exact List.getElem_mem _))
     have hus : ∀ x ∈ u, x.length ≤ 1099511627776 := by
      rw [hu]
      refine putA_small (fun n hn => ?_) out hks
      obtain ⟨y, hy, rfl⟩ := List.mem_map.1 hn
      exact isN_40 (right_targets hR y (List.mem_of_mem_take hy))
     have hul : u.length ≤ 40 := by
      have h1 := putA_len ((ct.tags.take j).map (·.target)) out
      rw [← hu, List.length_map, List.length_take] at h1
      omega
     refine Zr (k:=Ye 4 (k:=?_))
     refine r_eloada (vs := [_, _, _, _]) (sz := 4) Tryz.underlying66 rfl ti66 rfl rfl (by rw [flat_len (sz := 4) (fun _ => rfl)]; omega) rfl (by refine get_flat (fun x => ?_) ?_ <;> first | rfl | omega) rfl ?_
     rw [← ht]
     refine Zc [.int .u8 0, vS [], vS [], vS []] (k:=fun b13 => Zp (k:=Wq (Zr (k:=Vv (k:=Qx 2 9 (k:=?_))))))
     refine r_callX (ref10_put_sp t.target (by omega) ua uc u (by omega) hus) rfl rfl rfl (fun x71 _ => ?_)
     obtain ⟨pa71, pc71⟩ := x71
     dsimp only
     refine Vv (k:=Wn (Yb (Ya (Zr (k:=Qv (k:=Wn ?_))))))
     refine to_inv ⟨(((pa71, pc71), putB t.target u), j + 1), by dsimp only; omega, ?_⟩ (by dsimp only; omega) ⟨rfl, rfl, rfl, rfl, rfl, trivial⟩ ent_pick
     dsimp only; rw [htk, putA_snoc, hu]
    ·
     refine Ze (k:=Xa (Xi (Xb ?_)))
     exact zb20join24
   ·
    refine Zk (k:=?_)
    exact zb20join24
 ·
  refine Za (k:=?_)
  refine wc_ent' (row_nil (e := 9) (sz := 1)) ?_
  refine Zr (k:=Vv (k:=?_))
  refine r_callX (ref10_ReadCheckin_sp s hs) rfl rfl rfl (fun x18 hx18 => ?_)
  obtain ⟨ka, k⟩ := x18
  dsimp only [ckH] at hx18 ⊢
  refine Vv (k:=?_)
  refine wo_pv (pv_extract (v := .agg #[vS k.base, vS k.comment, vI k.date, .slice ka.fa k.files.length ka.fc, .slice ka.pa k.parents.length ka.pc, .slice ka.ta k.tags.length ka.tc, vS k.user]) rfl rfl) rfl ?_
  refine wo_pv (pv_extract (v := vB (readK s).isSome) rfl rfl) rfl ?_
  refine Zc [vS [], vS [], .int .i64 0, .slice none 0 0, .slice none 0 0, .slice none 0 0, vS []] (k:=fun b4 => Zp (k:=Vv (k:=Wq (Qc (k:=Vv (k:=Wq (Zi (t:=fun h21 => ?_) (f:=fun h21 => ?_))))))))
  ·
   have hk : readK s = some k := by cases e : readK s with
    | none => rw [e] at h21; simp at h21
    | some c => rw [e] at hx18; rw [hx18.1]; rfl
   have hR := readK_right hk
   have hpl := hR.parents.len
   have hfl := hR.files.len
   obtain ⟨hns, hnl⟩ := nsK_small hR
   have hok : outK s = putA [] (nsK k) := by rw [outK, hk]
   obtain ⟨bs, hbs⟩ : ∃ bs : List Bs, bs = if k.base = [] then [] else [k.base] := ⟨_, rfl⟩
   obtain ⟨fs, hfs⟩ : ∃ fs : List Bs, fs = (k.files.map (·.2)).filter (· ≠ []) := ⟨_, rfl⟩
   have hnk : nsK k = bs ++ fs ++ k.parents := by rw [nsK, hbs, hfs]
   have hsub : ∀ ms r, nsK k = ms ++ r → (∀ t ∈ putA [] ms, t.length ≤ 1099511627776) ∧ (putA [] ms).length ≤ 20 := fun ms r e => by
    refine ⟨putA_small (fun n hn => hns n (by rw [e]; simp [hn])) [] (fun n hn => by cases hn), ?_⟩
    have h1 := putA_len ms []
    have h2 := congrArg List.length e
    rw [List.length_append] at h2
    simp at h1; omega
   refine p_cut (fun (i : { x : (Option Addr × Nat) × List Bs // x.2 = putA [] bs }) => [(0, vS s), (3, .slice i.1.1.1 (i.1.2).length i.1.1.2), (4, .pointer (some ⟨b4, 0, none⟩))]) (fun (i : { x : (Option Addr × Nat) × List Bs // x.2 = putA [] bs }) => [Row 9 1 (.slice i.1.1.1 (i.1.2).length i.1.1.2) (i.1.2).length ((i.1.2).map vS), Ce b4 30 [vS k.base, vS k.comment, vI k.date, .slice ka.fa k.files.length ka.fc, .slice ka.pa k.parents.length ka.pc, .slice ka.ta k.tags.length ka.tc, vS k.user], Row 25 2 (.slice ka.fa k.files.length ka.fc) k.files.length (k.files.flatMap flCells), SlI ka.pa (k.parents.map vS)]) rfl (fun i => ?_) ?_
   ·
    obtain ⟨⟨⟨oa, oc⟩, out⟩, hout⟩ := i
    dsimp only at hout ⊢
    try dsimp only
    refine Za (k:=Qc (k:=Qx 3 26 (k:=Qv (k:=Wq (Zb (k:=?_))))))
    refine p_loop (fun (i : { x : ((Option Addr × Nat) × List Bs) × Nat // x.2 ≤ k.files.length ∧ x.1.2 = putA [] (bs ++ ((k.files.take x.2).map (·.2)).filter (· ≠ [])) }) => [(0, vS s), (3, .slice i.1.1.1.1 (i.1.1.2).length i.1.1.1.2), (4, .pointer (some ⟨b4, 0, none⟩)), (30, .slice ka.fa k.files.length ka.fc), (31, vI k.files.length), (32, vI i.1.2)]) (fun (i : { x : ((Option Addr × Nat) × List Bs) × Nat // x.2 ≤ k.files.length ∧ x.1.2 = putA [] (bs ++ ((k.files.take x.2).map (·.2)).filter (· ≠ [])) }) => [Row 9 1 (.slice i.1.1.1.1 (i.1.1.2).length i.1.1.1.2) (i.1.1.2).length ((i.1.1.2).map vS), Ce b4 30 [vS k.base, vS k.comment, vI k.date, .slice ka.fa k.files.length ka.fc, .slice ka.pa k.parents.length ka.pc, .slice ka.ta k.tags.length ka.tc, vS k.user], Row 25 2 (.slice ka.fa k.files.length ka.fc) k.files.length (k.files.flatMap flCells), SlI ka.pa (k.parents.map vS)]) (fun (i : { x : ((Option Addr × Nat) × List Bs) × Nat // x.2 ≤ k.files.length ∧ x.1.2 = putA [] (bs ++ ((k.files.take x.2).map (·.2)).filter (· ≠ [])) }) => k.files.length - i.1.2) rfl (⟨(((oa, oc), out), 0), Nat.zero_le _, by simpa using hout⟩) ?_ ?_ (fun i => ?_)
    · exact ⟨rfl, rfl, rfl, rfl, rfl, rfl, trivial⟩
    ·
     dsimp only
     exact ent_pick
    obtain ⟨⟨⟨⟨ua, uc⟩, u⟩, j⟩, hj, hu⟩ := i
    dsimp only at hj hu ⊢
    try dsimp only
    refine Qc (k:=Vv (k:=Wq (Za (k:=Zi (t:=fun h33 => ?_) (f:=fun h33 => ?_)))))
    ·
     refine Zk (k:=Ya (Za (k:=Zb (k:=Za (k:=?_)))))
     have hjl : j < k.files.length := by omega
     obtain ⟨f, hf⟩ : ∃ f, f = k.files[j] := ⟨_, rfl⟩
     have htk : ((k.files.take (j + 1)).map (·.2)).filter (· ≠ []) = ((k.files.take j).map (·.2)).filter (· ≠ []) ++ if f.2 = [] then [] else [f.2] := by
      rw [List.take_succ_eq_append_getElem hjl, List.map_append, List.filter_append, ← hf]
      by_cases e : f.2 = [] <;> simp [e]
     have hsp := hsub (bs ++ ((k.files.take j).map (·.2)).filter (· ≠ [])) (((k.files.drop j).map (·.2)).filter (· ≠ []) ++ k.parents) (by
      have e : fs = ((k.files.take j).map (·.2)).filter (· ≠ []) ++ ((k.files.drop j).map (·.2)).filter (· ≠ []) := by
       rw [hfs, ← List.filter_append, ← List.map_append, List.take_append_drop]
      rw [hnk, e]
      simp only [List.append_assoc])
     rw [← hu] at hsp
     have hfz : f.2.length ≤ 40 := by
      rcases right_files hR f (by rw [hf]; exact List.getElem_mem _) with e | e
      · rw [e]; exact Nat.zero_le _
      · exact isN_40 e
     refine Zr (k:=Ye 2 (k:=?_))
     refine r_eloada (vs := [_, _]) (sz := 2) Tryz.underlying25 rfl ti25 rfl rfl (by rw [flat_len (sz := 2) (fun _ => rfl)]; omega) rfl (by refine get_flat (fun x => ?_) ?_ <;> first | rfl | omega) rfl ?_
     rw [← hf]
     refine Zc [vS [], vS []] (k:=fun b7 => Zp (k:=Wq (Qc (k:=Qx 1 9 (k:=Vv (k:=Wq (Zi (t:=fun h38 => ?_) (f:=fun h38 => ?_))))))))
     ·
      refine Zr (k:=Vv (k:=Qx 1 9 (k:=?_)))
      refine r_callX (ref10_put_sp f.2 (by omega) ua uc u (by have := hsp.2; omega) hsp.1) rfl rfl rfl (fun x42 _ => ?_)
      obtain ⟨pa42, pc42⟩ := x42
      dsimp only
      refine Vv (k:=Wn (Yb (Ya (Zr (k:=Qv (k:=Wn ?_))))))
      exact zb20next0
     ·
      refine Zk (k:=Yb (Ya (Zr (k:=Qv (k:=Wn ?_)))))
      exact zb20next0
    ·
     refine Ze (k:=Xa (Xi (Xb (Ya (Za (k:=?_))))))
     have hjl : j = k.files.length := by omega
     rw [hjl, List.take_length, ← hfs] at hu
     refine Zr (k:=Qx 4 27 (k:=Qv (k:=Wq (Zb (k:=?_)))))
     refine p_loop (fun (i : { x : ((Option Addr × Nat) × List Bs) × Nat // x.2 ≤ k.parents.length ∧ x.1.2 = putA [] (bs ++ fs ++ k.parents.take x.2) }) => [(0, vS s), (3, .slice i.1.1.1.1 (i.1.1.2).length i.1.1.1.2), (4, .pointer (some ⟨b4, 0, none⟩)), (45, .slice ka.pa k.parents.length ka.pc), (46, vI k.parents.length), (47, vI i.1.2)]) (fun (i : { x : ((Option Addr × Nat) × List Bs) × Nat // x.2 ≤ k.parents.length ∧ x.1.2 = putA [] (bs ++ fs ++ k.parents.take x.2) }) => [Row 9 1 (.slice i.1.1.1.1 (i.1.1.2).length i.1.1.1.2) (i.1.1.2).length ((i.1.1.2).map vS), Ce b4 30 [vS k.base, vS k.comment, vI k.date, .slice ka.fa k.files.length ka.fc, .slice ka.pa k.parents.length ka.pc, .slice ka.ta k.tags.length ka.tc, vS k.user], Row 25 2 (.slice ka.fa k.files.length ka.fc) k.files.length (k.files.flatMap flCells), SlI ka.pa (k.parents.map vS)]) (fun (i : { x : ((Option Addr × Nat) × List Bs) × Nat // x.2 ≤ k.parents.length ∧ x.1.2 = putA [] (bs ++ fs ++ k.parents.take x.2) }) => k.parents.length - i.1.2) rfl (⟨(((ua, uc), u), 0), Nat.zero_le _, by simpa using hu⟩) ?_ ?_ (fun i => ?_)
     · exact ⟨rfl, rfl, rfl, rfl, rfl, rfl, trivial⟩
     ·
      dsimp only
      exact ent_pick
     obtain ⟨⟨⟨⟨va, vc⟩, v⟩, m⟩, hm, hv⟩ := i
     dsimp only at hm hv ⊢
     try dsimp only
     refine Qc (k:=Vv (k:=Wq (Za (k:=Zi (t:=fun h48 => ?_) (f:=fun h48 => ?_)))))
     ·
      refine Zk (k:=Ya (Za (k:=Zb (k:=Za (k:=?_)))))
      have hml : m < k.parents.length := by omega
      have hgp : k.parents.getD m [] = k.parents[m] := by simp [hml]
      have htk : k.parents.take (m + 1) = k.parents.take m ++ [k.parents.getD m []] := by rw [List.take_succ_eq_append_getElem hml, hgp]
      have hsp := hsub (bs ++ fs ++ k.parents.take m) (k.parents.drop m) (by rw [hnk, List.append_assoc (bs ++ fs), List.take_append_drop])
      rw [← hv] at hsp
      have hpz : (k.parents.getD m []).length ≤ 40 := by rw [hgp]; exact isN_40 (right_parents hR _ (List.getElem_mem hml))
      refine Zr (k:=Ye 1 (k:=Yl (hv:=by exact get_mapD [] hml) (k:=Vv (k:=Wq (Zr (k:=Qv (k:=?_)))))))
      refine r_callX (ref10_put_sp (k.parents.getD m []) (by omega) va vc v (by have := hsp.2; omega) hsp.1) rfl rfl rfl (fun x53 _ => ?_)
      obtain ⟨pa53, pc53⟩ := x53
      dsimp only
      refine Vv (k:=Wn (Yb (Ya (Zr (k:=Qv (k:=Wn ?_))))))
      refine to_inv ⟨(((pa53, pc53), putB (k.parents.getD m []) v), m + 1), by dsimp only; omega, ?_⟩ (by dsimp only; omega) ⟨rfl, rfl, rfl, rfl, rfl, rfl, trivial⟩ ent_pick
      dsimp only; rw [htk, ← List.append_assoc, putA_snoc, hv]
     ·
      refine Ze (k:=Xa (Xi (Xb ?_)))
      exact zb20join17
   ·
    refine Qc (k:=Qx 0 9 (k:=Vv (k:=Wq (Zi (t:=fun h24 => ?_) (f:=fun h24 => ?_)))))
    ·
     refine Zr (k:=Vv (k:=Qx 0 9 (k:=?_)))
     have hput := ref10_put_sp k.base (by have := hR.base.resolve_left h24; have := isN_40 this; omega) none 0 [] (Nat.zero_le _) (fun t ht => by cases ht)
     rw [show ([] : List Bs).length = 0 from rfl, List.map_nil] at hput
     refine r_callX hput rfl rfl rfl (fun x28 _ => ?_)
     obtain ⟨pa28, pc28⟩ := x28
     dsimp only
     refine Vv (k:=Wn ?_)
     exact zb20join6
    ·
     refine Zk (k:=?_)
     exact zb20join6
  ·
   refine Zk (k:=?_)
   exact zb20join17
end
section
set_option maxRecDepth 100000
def withinI (n lo hi : Int) : Int := lo + n % (hi - lo + 1)
theorem withinI_in {n lo hi : Int} (h : lo ≤ hi) : lo ≤ withinI n lo hi ∧ withinI n lo hi ≤ hi := by
 have h1 := Int.emod_nonneg n (show hi - lo + 1 ≠ 0 by omega)
 have h2 := Int.emod_lt_of_pos n (show 0 < hi - lo + 1 by omega)
 unfold withinI; omega
theorem tmod_cases (n m : Int) (hm : 1 ≤ m) : (0 ≤ n.tmod m ∧ n.tmod m = n % m ∨ n.tmod m < 0 ∧ n.tmod m + m = n % m) ∧ -m < n.tmod m ∧ n.tmod m < m := by
 have e1 := Int.emod_nonneg n (show m ≠ 0 by omega)
 have e2 := Int.emod_lt_of_pos n (show 0 < m by omega)
 have hd := Int.emod_emod_of_dvd n (Int.dvd_refl m)
 rcases Int.lt_or_le n 0 with h | h
 · have h2 : n.tmod m = -((-n) % m) := by
     have : n = -(-n) := by omega
     conv => lhs; rw [this]
     rw [Int.neg_tmod, Int.tmod_eq_emod_of_nonneg (by omega)]
   have e3 := Int.emod_nonneg (-n) (show m ≠ 0 by omega)
   have e4 := Int.emod_lt_of_pos (-n) (show 0 < m by omega)
   have hs : (n % m + (-n) % m) % m = 0 := by
    rw [← Int.add_emod, Int.add_right_neg, Int.zero_emod]
   by_cases hz : (-n) % m = 0
   · have : n % m = 0 := by
       rw [hz, Int.add_zero, Int.emod_emod_of_dvd n (Int.dvd_refl m)] at hs; exact hs
     rw [h2, hz, this]; omega
   · have hsum : n % m + (-n) % m = m := by
       have hpos : 0 < n % m + (-n) % m := by omega
       have hlt : n % m + (-n) % m < m + m := by omega
       have hge : m ≤ n % m + (-n) % m := by
        apply Classical.byContradiction; intro hc
        rw [Int.emod_eq_of_lt (by omega) (by omega)] at hs
        omega
       have : (n % m + (-n) % m - m) % m = 0 := by rw [Int.sub_emod, hs]; simp
       rw [Int.emod_eq_of_lt (by omega) (by omega)] at this
       omega
     rw [h2]; omega
 · rw [Int.tmod_eq_emod_of_nonneg h]; omega
theorem zb21ret {G : Prop} (h : G := by exact fin_ret () (vs := [_]) rfl (.tmp rfl .nil) (by rw [hw]; exact congrArg vI (by omega)) trivial ent_nil) : G := h
theorem book_Within_sp (n lo hi : Int) (h1 : -1099511627776 ≤ lo) (h2 : lo ≤ hi) (h3 : hi ≤ 1099511627776) : SpF Tryz.prog 21 [vI n, vI lo, vI hi] (vI (withinI n lo hi)) := by
 have hc := tmod_cases n (hi - lo + 1) (by omega)
 have hw : withinI n lo hi = lo + n % (hi - lo + 1) := rfl
 refine Sp.body (n := 24) Tryz.call21 Tryz.func21 rfl rfl rfl ?_
 refine Qc (k:=Vv (k:=Wq (Qc (k:=Qv (k:=Qv (k:=Vv (k:=?_)))))))
 refine wo_pv (pv_remt rfl rfl (by omega)) rfl ?_
 refine Vv (k:=Wq (Za (k:=Qc (k:=Qv (k:=Wq (Zi (t:=fun h14 => ?_) (f:=fun h14 => ?_)))))))
 ·
  refine Zr (k:=Qv (k:=Qv (k:=Qv (k:=Vv (k:=Wq (Qc (k:=Vv (k:=?_))))))))
  refine Qv (k:=Vv (k:=Wq (Zt (k:=?_))))
  exact zb21ret
 ·
  refine Zk (k:=Ya (Qc (k:=Qv (k:=Qv (k:=Wq (Zt (k:=?_)))))))
  exact zb21ret
end
def pickI (l : List Int) (i : Int) : Int := if l.length = 0 then 0 else l.getD (i % (l.length : Int)).toNat 0
def piecesL : List Bs := ["line one\n".toUTF8.data.toList, "the second line is longer\n".toUTF8.data.toList, "x".toUTF8.data.toList, "0;".toUTF8.data.toList, "abcabcabc".toUTF8.data.toList, "\n".toUTF8.data.toList, "3:xyz".toUTF8.data.toList, "tail of it all".toUTF8.data.toList]
def beginL : List Bs := ["".toUTF8.data.toList, "a common beginning of some texts, long enough for deltas between these; ".toUTF8.data.toList, "another beginning, of other texts, as long as the first one is, or a bit longer; ".toUTF8.data.toList]
def wordsL : List Bs := ["a".toUTF8.data.toList, "branch".toUTF8.data.toList, "c.txt".toUTF8.data.toList, "d/e".toUTF8.data.toList, "rel-1".toUTF8.data.toList, "zz".toUTF8.data.toList]
def pieceI (b x : Int) : Bs := piecesL.getD (withinI (IntKind.i64.wrap (x + bits .and .i64 b 1)) 0 7).toNat []
def textF (b : Int) : List Int → Bs → Bs
 | [], out => out
 | x :: r, out => if out.length < 170 then textF b r (out ++ pieceI b x) else out
def textB (b : Int) (l : List Int) : Bs := textF b l []
def longB (b : Int) (l : List Int) (n : Int) : Bs := beginL.getD (withinI n 0 2).toNat [] ++ (textB b l).take 160
def contB (n : Int) : Bs := longB 0 [withinI n 0 15, withinI n 0 15 / 2, withinI n 0 15 / 4] (withinI n 0 15 % 3)
def nameB (n : Int) : Bs := shaB (contB n)
theorem textF_take {b : Int} (l : List Int) : ∀ (out : Bs) (j : Nat), j < l.length → (∀ i, i ≤ j → (textF b (l.take i) out).length < 170) → textF b (l.take (j + 1)) out = textF b (l.take j) out ++ pieceI b (l.getD j 0) := by
 induction l with
 | nil => intro out j h; simp at h
 | cons x r ih =>
   intro out j h hs
   have h0 := hs 0 (Nat.zero_le _)
   simp only [List.take_zero, textF] at h0
   cases j with
   | zero => simp [textF, h0]
   | succ j =>
     simp only [List.take_succ_cons, textF, h0, if_true, List.getD_cons_succ]
     refine ih (out ++ pieceI b x) j (by simpa using h) (fun i hi => ?_)
     have := hs (i + 1) (by omega)
     simp only [List.take_succ_cons, textF, h0, if_true] at this
     exact this
theorem textF_stop {b : Int} (l : List Int) : ∀ (out : Bs) (j : Nat), j ≤ l.length → (∀ i, i < j → (textF b (l.take i) out).length < 170) → (j < l.length → 170 ≤ (textF b (l.take j) out).length) → textF b l out = textF b (l.take j) out := by
 induction l with
 | nil => intro out j h _ _; simp
 | cons x r ih =>
   intro out j h hs he
   cases j with
   | zero =>
     have := he (by simp)
     simp only [List.take_zero, textF] at this ⊢
     rw [if_neg (by omega)]
   | succ j =>
     have h0 := hs 0 (by omega)
     simp only [List.take_zero, textF] at h0
     simp only [List.take_succ_cons, textF, h0, if_true]
     refine ih (out ++ pieceI b x) j (by simpa using h) (fun i hi => ?_) (fun hj => ?_)
     · have := hs (i + 1) (by omega)
       simp only [List.take_succ_cons, textF, h0, if_true] at this
       exact this
     · have := he (by simp; omega)
       simp only [List.take_succ_cons, textF, h0, if_true] at this
       exact this
theorem pieceI_len (b x : Int) : (pieceI b x).length ≤ 26 := by
 unfold pieceI
 have : ∀ p ∈ piecesL, p.length ≤ 26 := by decide
 by_cases h : (withinI (IntKind.i64.wrap (x + bits .and .i64 b 1)) 0 7).toNat < piecesL.length
 · exact this _ (by simp [h])
 · simp [h]
theorem pieceI_noZ (b x : Int) : (90 : UInt8) ∉ pieceI b x := by
 unfold pieceI
 have : ∀ p ∈ piecesL, (90 : UInt8) ∉ p := by decide
 by_cases h : (withinI (IntKind.i64.wrap (x + bits .and .i64 b 1)) 0 7).toNat < piecesL.length
 · exact this _ (by simp [h])
 · simp [h]
theorem textF_ok (b : Int) (l : List Int) : ∀ out : Bs, out.length ≤ 195 → (90 : UInt8) ∉ out → (textF b l out).length ≤ 195 ∧ (90 : UInt8) ∉ textF b l out := by
 induction l with
 | nil => intro out h1 h2; exact ⟨h1, h2⟩
 | cons x r ih =>
   intro out h1 h2
   simp only [textF]
   split
   · refine ih _ ?_ ?_
     · rw [List.length_append]; have := pieceI_len b x; omega
     · rw [List.mem_append]; exact fun h => h.elim h2 (pieceI_noZ b x)
   · exact ⟨h1, h2⟩
theorem textB_len (b : Int) (l : List Int) : (textB b l).length ≤ 195 := (textF_ok b l [] (Nat.zero_le _) (by simp)).1
theorem textB_noZ (b : Int) (l : List Int) : (90 : UInt8) ∉ textB b l := (textF_ok b l [] (Nat.zero_le _) (by simp)).2
theorem longB_len (b : Int) (l : List Int) (n : Int) : (longB b l n).length ≤ 300 := by
 unfold longB
 have h1 : ∀ p ∈ beginL, p.length ≤ 90 := by decide
 have h2 : (beginL.getD (withinI n 0 2).toNat []).length ≤ 90 := by
  by_cases h : (withinI n 0 2).toNat < beginL.length
  · exact h1 _ (by simp [h])
  · simp [h]
 rw [List.length_append, List.length_take]; omega
theorem contB_len (n : Int) : (contB n).length ≤ 300 := longB_len _ _ _
end Go.Proofs.YtibccdcemcgkeaaGreat
