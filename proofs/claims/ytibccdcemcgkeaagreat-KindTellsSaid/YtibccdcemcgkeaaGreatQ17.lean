/- Texts of this proof, put together: SCompact, SKind, SRSha. -/
import Derived.Test.YtibccdcemcgkeaaGreatQ16
set_option linter.unusedVariables false
set_option linter.unusedSimpArgs false
namespace Go.Proofs.YtibccdcemcgkeaaGreat
section
set_option maxRecDepth 100000
section
variable {r : Option Nat} {P : Program} {n : Nat} {ops : Array Oper} {os : List Oper} {A : List HP} {L : Loc} {Hs : List HP} {Q : Out} {ty : TypeId} {d : Nat} {pos : String} {after : Array Edge} {c : Code}
theorem zeroCells_one (z : Value) (m : Nat) : (Builtin.zeroCells #[z] m).toList = List.replicate m z := by
 apply List.ext_getElem
 · simp [Builtin.zeroCells]
 · intro i h1 h2
   simp [Builtin.zeroCells, Nat.mod_one]
/-- clear(s[m:]). -/
theorem opt_clear {dst : Option Tmp} {t e : TypeId} {x : Operand} {ti : TypeInfo} {z : Value} {a : Option Addr} {n' c' k m q : Nat} {xs : List Value} (ht : P.underlying t = some (.slice e)) (hi : P.info? e = some ti) (hz : ti.zero = some z) (hzc : z.cells = #[z]) (hz1 : oneCell z = true)
    (hx : ev L x = some (.slice (elemA a m) q (c' - m))) (hq : 0 < q) (hmk : m + q = k) (hkc : m < c') :
    OpT r P n ⟨dst, .call ⟨.builtin .clear, #[x], #[t]⟩, ty, pos, after, none⟩ A L [Row e 1 (.slice a n' c') k xs] (fun _ : Unit => .tuple #[]) (fun _ => True) (fun _ => [Row e 1 (.slice a n' c') k (setAt xs m (List.replicate q z))]) := by
 refine opt_turn (fun ac f w M h1' hf dj tt hr => ?_)
 rcases hr with ⟨h0, h01, e1⟩ | ⟨g, cap, cur, e1, e2, e3, e4, e5, e6, e7⟩
 · omega
 · cases e1
   subst e7
   have hb : w.heap[g]? = some (.cells cur.toArray e (0, 0)) := tt.ow _ _ (by simp [Res.add, Res.one])
   rw [Nat.mul_one] at e4 e5 e6
   have hcl : (cur.take n').length = n' := by rw [e6, e5]
   have hcm : n' ≤ cur.length := by rw [List.length_take] at hcl; omega
   obtain ⟨w', hr, hb', ho', he'⟩ := run_storeCells_ce (P := P) (List.replicate q z) w cur (0 + m) 0 hb (by simp [hz1]) (by simp; omega)
   refine ⟨w', Res.one g (.cells (setAt cur m (List.replicate q z)).toArray e (0, 0)), dj_one_any dj, Sat.setBlk dj tt (by simpa using hb') ho' he', .inr ⟨g, c', setAt cur m (List.replicate q z), rfl, e2, e3, by rw [length_setAt, Nat.mul_one]; exact e4, by rw [length_setAt, Nat.mul_one]; exact e5, ?_, rfl⟩, .inl ?_⟩
   · rw [Nat.mul_one, setAt_take _ _ _ _ (by simp; omega), e6]
   · have hr' : (storeCells ⟨g, m, none⟩ (List.replicate q z)).run P w = .ok () w' := by simpa using hr
     have hq0 : q ≠ 0 := by omega
     simp [execOp, resolve, f.ev hx, elemA, invoke, builtin, Builtin.clear_, run_underlying ht, zeroValue, typeInfo, program, Sem.run, hi, hz, hzc, zeroCells_one, hr']
theorem row_shrink {e sz : Nat} {ad : Option Addr} {n' c' k m : Nat} {xs : List Value} {M : Kn} {h : Res} (x : (Row e sz (.slice ad n' c') k xs).at_ M h) (hm : m ≤ k) (hs : 0 < sz) : (Row e sz (.slice ad m c') m (xs.take (m * sz))).at_ M h := by
 rcases x with ⟨h1, h2, h3⟩ | ⟨g, cap, cur, e1, e2, e3, e4, e5, e6, e7⟩
 · cases h1
   subst h2
   have : m = 0 := by omega
   subst this
   subst h3
   exact .inl ⟨rfl, rfl, by simp⟩
 · cases e1
   refine .inr ⟨g, c', cur, rfl, by omega, e3, e4, ?_, ?_, e7⟩
   · rw [List.length_take, e5]; exact Nat.min_eq_left (Nat.mul_le_mul_right _ hm)
   · rw [← e6, List.take_take, Nat.min_eq_left (Nat.mul_le_mul_right _ hm)]
end
theorem setAt_tk : ∀ (vs l : List Value) (k : Nat), (setAt l k vs).take k = l.take k := by
 intro vs
 induction vs with
 | nil => intros; rfl
 | cons v vs ih =>
   intro l k
   simp only [setAt]
   have h1 : (setAt (l.set k v) (k + 1) vs).take k = ((setAt (l.set k v) (k + 1) vs).take (k + 1)).take k := by rw [List.take_take, Nat.min_eq_left (by omega)]
   rw [h1, ih, List.take_take, Nat.min_eq_left (by omega), List.take_set_of_le (Nat.le_refl _)]
def dedS (l : List Bs) : List Bs := l.foldl (fun acc x => if acc.getLast? = some x then acc else acc ++ [x]) []
theorem dedS_snoc (l : List Bs) (x : Bs) : dedS (l ++ [x]) = if (dedS l).getLast? = some x then dedS l else dedS l ++ [x] := by
 simp only [dedS, List.foldl_append, List.foldl_cons, List.foldl_nil]
 rfl
theorem list_snoc_ind {α : Type} {p : List α → Prop} (h0 : p []) (h1 : ∀ l x, p l → p (l ++ [x])) : ∀ l, p l := by
 have key : ∀ n (l : List α), l.length = n → p l := by
  intro n
  induction n with
  | zero => intro l h; rw [List.eq_nil_of_length_eq_zero h]; exact h0
  | succ n ih =>
    intro l h
    have hl : l ≠ [] := fun e => by rw [e] at h; simp at h
    rw [← List.dropLast_concat_getLast hl]
    exact h1 _ _ (ih _ (by simp [h]))
 exact fun l => key _ l rfl
theorem dedS_last (l : List Bs) : (dedS l).getLast? = l.getLast? := by
 induction l using list_snoc_ind with
 | h0 => rfl
 | h1 l x ih =>
   rw [dedS_snoc]
   split
   · rename_i h; rw [h]; simp
   · simp
theorem dedS_take {l : List Bs} {j : Nat} (h0 : 0 < j) (h : j < l.length) : dedS (l.take (j + 1)) = if l.getD (j - 1) [] = l.getD j [] then dedS (l.take j) else dedS (l.take j) ++ [l.getD j []] := by
 have e : (l.take j).getLast? = some (l.getD (j - 1) []) := by
  rw [List.getLast?_eq_getElem?, List.length_take, Nat.min_eq_left (by omega), List.getElem?_take_of_lt (by omega)]
  simp [show j - 1 < l.length by omega]
 rw [List.take_succ_eq_append_getElem h, dedS_snoc, dedS_last, e]
 have hg : l[j] = l.getD j [] := by simp [h]
 rw [hg]
 simp only [Option.some.injEq]
theorem zb56next1 {G : Prop} (h : G := by
    rw [hgd, hgd] at h44
    rw [show j + (k2 - 1) = j + k2 - 1 from by omega] at h44
    first
    | (rw [if_neg (fun e => h44 e.symm)] at hdt2
       refine to_inv ⟨(cur.set k (cur.getD (j + k2) []), k + 1, k2 + 1), ?_, ?_, ?_, ?_, ?_, ?_, ?_⟩ ?_ ⟨rfl, rfl, rfl, rfl, trivial⟩ ?_
       · dsimp only; rw [List.length_set]; exact hcl
       · dsimp only
         rw [show j + (k2 + 1) = j + k2 + 1 from by omega, hdt2, List.take_succ_eq_append_getElem (by rw [List.length_set]; omega)]
         congr 1
         · rw [List.take_set_of_le (Nat.le_refl _)]
         · simp
       · dsimp only; omega
       · dsimp only; omega
       · dsimp only; omega
       · dsimp only; omega
       · intro i hi
         dsimp only at hi ⊢
         rw [List.getD_eq_getElem?_getD, List.getElem?_set_ne (by omega), ← List.getD_eq_getElem?_getD]
         exact hold i (by omega)
       · dsimp only; omega
       · dsimp only
         rw [← hgd]
         exact ent_step (row_norm (by rfl) (by rw [List.map_set])) ent_nil)
    | (have he : cur.getD (j + k2 - 1) [] = cur.getD (j + k2) [] := (Classical.not_not.1 h44).symm
       rw [if_pos he] at hdt2
       refine to_inv ⟨(cur, k, k2 + 1), hcl, ?_, hjk, ?_, ?_, ?_, fun i hi => hold i (by dsimp only at hi; omega)⟩ ?_ ⟨rfl, rfl, rfl, rfl, trivial⟩ ent_pick
       · dsimp only
         rw [show j + (k2 + 1) = j + k2 + 1 from by omega, hdt2]
       · dsimp only; omega
       · dsimp only; omega
       · dsimp only; omega
       · dsimp only; omega)) : G := h
set_option maxHeartbeats 2000000 in
theorem slices_Compact_sp (a : Option Addr) (n c : Nat) (l : List Bs) (hn : l.length = n) (hb : n ≤ 1073741824) :
    Sp Tryz.prog 56 [.slice a n c] [Row 9 1 (.slice a n c) n (l.map vS)] (X := Nat) (fun k => .slice a k c) (fun k => k = (dedS l).length) (fun k => [Row 9 1 (.slice a k c) k ((dedS l).map vS)]) := by
 subst hn
 refine Sp.body (n := 61) Tryz.call56 Tryz.func56 rfl rfl rfl ?_
 refine wc_know (A := Row 9 1 (.slice a l.length c) l.length (l.map vS)) HasC.get row_know (fun hk => ?_)
 obtain ⟨hlc, _, hsp⟩ := hk
 refine Qc (k:=Vv (k:=Wq (Za (k:=Qc (k:=Qv (k:=Vv (k:=Wq (Zi (t:=fun h8 => ?_) (f:=fun h8 => ?_)))))))))
 ·
  refine Qc (k:=Qv (k:=Wq (Zt (k:=Va ?_))))
  have hd : dedS l = l := by
   match l, h8 with
   | [], _ => rfl
   | [x], _ => rfl
   | _ :: _ :: _, h => simp at h; omega
  refine fin_ret l.length (vs := [_]) (Cs := []) rfl (.tmp rfl .nil) rfl (by rw [hd]) ?_
  rw [hd]; exact ent_pick
 ·
  refine Zk (k:=Ya (Za (k:=Qc (k:=Vv (k:=Wq (Zb (k:=?_)))))))
  refine p_loop (fun (i : { j : Nat // 1 ≤ j ∧ j ≤ l.length ∧ dedS (l.take j) = l.take j }) => [(0, .slice a l.length c), (3, vI i.1)]) (fun (i : { j : Nat // 1 ≤ j ∧ j ≤ l.length ∧ dedS (l.take j) = l.take j }) => [Row 9 1 (.slice a l.length c) l.length (l.map vS)]) (fun (i : { j : Nat // 1 ≤ j ∧ j ≤ l.length ∧ dedS (l.take j) = l.take j }) => l.length - i.1) rfl (⟨1, Nat.le_refl _, by omega, by cases l <;> rfl⟩) ?_ ?_ (fun i => ?_)
  · exact ⟨rfl, rfl, trivial⟩
  ·
   exact ent_pick
  obtain ⟨j, hj1, hj, hd⟩ := i
  dsimp only
  try dsimp only
  refine Za (k:=Qc (k:=Qv (k:=Qv (k:=Wq (Zi (t:=fun h13 => ?_) (f:=fun h13 => ?_))))))
  ·
   refine Zk (k:=Ya (Za (k:=Zb (k:=Za (k:=?_)))))
   have hjl : j < l.length := by omega
   have hdt := dedS_take (l := l) (j := j) (by omega) hjl
   rw [hd] at hdt
   refine Dw [Row 9 1 (.slice a l.length c) l.length (l.map vS)] (k:=?_)
   refine Dv 0 (k:=Dv 1 (k:=?_))
   refine d_first 2 rfl rfl rfl (by kernel_rfl) (by kernel_rfl) (tl_elemAddr (sz := 1) Tryz.underlying27 ti9 rfl rfl rfl rfl (by omega) (by first | (rw [List.length_map]; omega) | (rw [flat_len (sz := 1) (fun _ => rfl)]; omega) | (simp; omega)) (Nat.mul_one _)) ?_
   refine d_first 3 rfl rfl rfl (by kernel_rfl) (by kernel_rfl) (tl_eload Tryz.underlying9 rfl rfl (get_mapD [] (m := j) hjl)) ?_
   refine Dv 4 (k:=Dv 5 (k:=Dv 6 (k:=?_)))
   refine d_first 7 rfl rfl rfl (by kernel_rfl) (by kernel_rfl) (tl_elemAddr (sz := 1) (m := j - 1) (kk := j - 1) Tryz.underlying27 ti9 rfl rfl rfl (by omega) (by omega) (by rw [List.length_map]; omega) (Nat.mul_one _)) ?_
   refine d_first 8 rfl rfl rfl (by kernel_rfl) (by kernel_rfl) (tl_eload Tryz.underlying9 rfl rfl (get_mapD [] (m := j - 1) (by omega))) ?_
   refine Dv 9 (k:=Dd (k:=Ya (Zi (t:=fun h25 => ?_) (f:=fun h25 => ?_))))
   ·
    refine Qc (k:=Qv (k:=?_))
    refine wo_pv (pv_slslice_fromm (m := j) (kk := j) Tryz.underlying27 ti9 rfl rfl rfl rfl (Nat.mul_one _) (by omega) (by omega) hsp) rfl ?_
    rw [if_pos h25.symm] at hdt
    refine Vv (k:=Wq (Za (k:=Qc (k:=Vv (k:=Wq (Zb (k:=?_)))))))
    refine p_loop (fun (i : { x : List Bs × Nat × Nat // x.1.length = l.length ∧ x.1.take x.2.1 = dedS (l.take (j + x.2.2)) ∧ j ≤ x.2.1 ∧ x.2.1 + 1 ≤ j + x.2.2 ∧ 1 ≤ x.2.2 ∧ x.2.2 ≤ l.length - j ∧ ∀ i, j + x.2.2 ≤ i + 1 → x.1.getD i [] = l.getD i [] }) => [(0, .slice a l.length c), (3, vI i.1.2.1), (4, .slice (elemA a j) (l.length - j) (c - j)), (5, vI i.1.2.2)]) (fun (i : { x : List Bs × Nat × Nat // x.1.length = l.length ∧ x.1.take x.2.1 = dedS (l.take (j + x.2.2)) ∧ j ≤ x.2.1 ∧ x.2.1 + 1 ≤ j + x.2.2 ∧ 1 ≤ x.2.2 ∧ x.2.2 ≤ l.length - j ∧ ∀ i, j + x.2.2 ≤ i + 1 → x.1.getD i [] = l.getD i [] }) => [Row 9 1 (.slice a l.length c) l.length (i.1.1.map vS)]) (fun (i : { x : List Bs × Nat × Nat // x.1.length = l.length ∧ x.1.take x.2.1 = dedS (l.take (j + x.2.2)) ∧ j ≤ x.2.1 ∧ x.2.1 + 1 ≤ j + x.2.2 ∧ 1 ≤ x.2.2 ∧ x.2.2 ≤ l.length - j ∧ ∀ i, j + x.2.2 ≤ i + 1 → x.1.getD i [] = l.getD i [] }) => l.length - j - i.1.2.2) rfl (⟨(l, j, 1), rfl, hdt.symm, Nat.le_refl _, Nat.le_refl _, Nat.le_refl _, (show 1 ≤ l.length - j by omega), fun i _ => rfl⟩) ?_ ?_ (fun i => ?_)
    · exact ⟨rfl, rfl, rfl, rfl, trivial⟩
    ·
     exact ent_pick
    obtain ⟨⟨cur, k, k2⟩, hcl, htk, hjk, hk2, hk21, hk2n, hold⟩ := i
    dsimp only at hcl htk hjk hk2 hk21 hk2n hold ⊢
    have hsl : SlA (Row 9 1 (.slice a l.length c) l.length (cur.map vS)) (elemA a j) ((cur.drop j).map vS) := by
     have h : SlA (Row 9 1 (.slice a l.length c) l.length (cur.map vS)) (fromA a j c j) ((cur.map vS).drop j) := sla_from (e := 9) (sz := 1) (k := l.length) (n' := l.length) (c' := c) (a := a) (xs := cur.map vS) (m := j) (kk := j) (Nat.mul_one _) (by omega)
     rw [show fromA a j c j = elemA a j from by rw [fromA, if_pos (by omega)]] at h
     rw [List.map_drop]
     exact @h
    haveI hrd : RdSl (elemA a j) ((cur.drop j).map vS) [Row 9 1 (.slice a l.length c) l.length (cur.map vS)] := ⟨⟨_, hsl, .here⟩⟩
    have hdl : (cur.drop j).length = l.length - j := by rw [List.length_drop, hcl]
    have hgd : ∀ i, (cur.drop j).getD i [] = cur.getD (j + i) [] := fun i => by simp [List.getD_eq_getElem?_getD, List.getElem?_drop]
    try dsimp only
    refine Za (k:=Qc (k:=Qv (k:=Qv (k:=Wq (Zi (t:=fun h32 => ?_) (f:=fun h32 => ?_))))))
    ·
     refine Zk (k:=Ya (Za (k:=Zb (k:=Za (k:=?_)))))
     have hkl : k2 < l.length - j := by omega
     have hdt2 := dedS_take (l := l) (j := j + k2) (by omega) (by omega)
     have ho1 := hold (j + k2) (by omega)
     have ho2 := hold (j + k2 - 1) (by omega)
     rw [← ho1, ← ho2, ← htk] at hdt2
     refine Dw [Row 9 1 (.slice a l.length c) l.length (cur.map vS)] (k:=?_)
     refine Dv 0 (k:=Dv 1 (k:=?_))
     refine d_first 2 rfl rfl rfl (by kernel_rfl) (by kernel_rfl) (tl_elemAddr (sz := 1) (m := k2) (kk := k2) (xs := (cur.drop j).map vS) Tryz.underlying27 ti9 rfl rfl rfl rfl (by omega) (by rw [List.length_map]; omega) (Nat.mul_one _)) ?_
     refine d_first 3 rfl rfl rfl (by kernel_rfl) (by kernel_rfl) (tl_eload (xs := (cur.drop j).map vS) Tryz.underlying9 rfl rfl (get_mapD [] (m := k2) (by omega))) ?_
     refine Dv 4 (k:=Dv 5 (k:=Dv 6 (k:=?_)))
     refine d_first 7 rfl rfl rfl (by kernel_rfl) (by kernel_rfl) (tl_elemAddr (sz := 1) (m := k2 - 1) (kk := k2 - 1) (xs := (cur.drop j).map vS) Tryz.underlying27 ti9 rfl rfl rfl (by omega) (by omega) (by rw [List.length_map]; omega) (Nat.mul_one _)) ?_
     refine d_first 8 rfl rfl rfl (by kernel_rfl) (by kernel_rfl) (tl_eload (xs := (cur.drop j).map vS) Tryz.underlying9 rfl rfl (get_mapD [] (m := k2 - 1) (by omega))) ?_
     refine Dv 9 (k:=Dd (k:=Ya (Zi (t:=fun h44 => ?_) (f:=fun h44 => ?_))))
     ·
      refine Qc (k:=Qv (k:=Qv (k:=?_)))
      refine r_elemAddr (sz := 1) (m := k2) (kk := k2) (xs := (cur.drop j).map vS) Tryz.underlying27 ti9 rfl rfl rfl rfl (by omega) (by rw [List.length_map]; omega) (Nat.mul_one _) rfl ?_
      refine r_eload (xs := (cur.drop j).map vS) Tryz.underlying9 rfl rfl (get_mapD [] (m := k2) (by omega)) rfl ?_
      refine Ye 1 (k:=?_)
      refine r_estore ti9 rfl rfl rfl rfl (by first | (rw [List.length_map]; omega) | (rw [flat_len (fun _ => rfl)]; omega) | (simp; omega)) ?_
      refine Wq (Zr (k:=Qv (k:=Vv (k:=Wn (Yb (Ya (Zr (k:=Qv (k:=Vv (k:=?_))))))))))
      refine Wn ?_
      exact zb56next1
     ·
      refine Zk (k:=Yb (Ya (Zr (k:=Qv (k:=Vv (k:=Wn ?_))))))
      exact zb56next1
    ·
     refine Ze (k:=Xa (Xi (Xb (Ya (Za (k:=?_))))))
     have hkl : j + k2 = l.length := by omega
     rw [hkl, List.take_length] at htk
     have hdk : (dedS l).length = k := by rw [← htk, List.length_take, hcl]; omega
     refine Zr (k:=Qv (k:=?_))
     refine wo_pv (pv_slslice_fromm (m := k) (kk := k) Tryz.underlying27 ti9 rfl rfl rfl rfl (Nat.mul_one _) (by omega) (by omega) hsp) rfl ?_
     refine wo_opT (by intro c; simp) (opt_clear (z := vS []) Tryz.underlying27 ti9 rfl rfl rfl rfl (show 0 < l.length - k by omega) (show k + (l.length - k) = l.length by omega) (show k < c by omega) (n' := l.length) (xs := cur.map vS)) rfl (fun _ _ => ?_)
     refine Wq (Qc (k:=Qv (k:=?_)))
     refine wo_pv (pv_slslice_tom (m := k) Tryz.underlying27 ti9 rfl rfl rfl (by omega)) rfl ?_
     refine Vv (k:=Wq (Zt (k:=Vb (Va (Vi (Vb (Va ?_)))))))
     refine fin_ret k (vs := [_]) (Cs := []) rfl (.tmp rfl .nil) rfl hdk.symm ⟨fun {M h} s => ?_⟩
     obtain ⟨g1, g2, dg, e1, hr, _⟩ := s
     refine ⟨g1, g2, dg, e1, ?_, trivial⟩
     have := row_shrink hr (show k ≤ l.length by omega) (by decide)
     rw [Nat.mul_one, setAt_tk, ← List.map_take, htk] at this
     exact this
   ·
    refine Zk (k:=Yb (Ya (Zr (k:=Qv (k:=Vv (k:=Wn ?_))))))
    rw [if_neg (fun e => h25 e.symm)] at hdt
    refine to_inv ⟨j + 1, by omega, by omega, ?_⟩ (by dsimp only; omega) ⟨rfl, rfl, trivial⟩ ent_pick
    rw [hdt, List.take_succ_eq_append_getElem hjl]
    simp [hjl]
  ·
   refine Ze (k:=Xa (Xi (Xb (Ya (Qc (k:=Qv (k:=Wq (Zt (k:=?_)))))))))
   have hjl : j = l.length := by omega
   rw [hjl, List.take_length] at hd
   refine fin_ret l.length (vs := [_]) (Cs := []) rfl (.tmp rfl .nil) rfl (by rw [hd]) ?_
   rw [hd]; exact ent_pick
end
section
set_option maxRecDepth 100000
noncomputable def kindN (s : Bs) : Int := if (readK s).isSome = true then 2 else if (readCt s).isSome = true then 3 else if (readCl s).isSome = true then 4 else 1
theorem zb15ret {G : Prop} (h : G := by
    refine fin_ret () (vs := [_]) (Cs := []) rfl (.tmp rfl .nil) ?_ trivial ent_nil
    show vI _ = vI _
    congr 1
    unfold kindN
    first
    | rw [if_pos h14]
    | rw [if_neg (by rw [h14]; simp), if_pos h20]
    | rw [if_neg (by rw [h14]; simp), if_neg (by rw [h20]; simp), if_pos h26]
    | rw [if_neg (by rw [h14]; simp), if_neg (by rw [h20]; simp), if_neg (by rw [h26]; simp)]) : G := h
theorem kind_Of_sp (s : Bs) (hs : s.length ≤ 1073741824) : SpF Tryz.prog 15 [vS s] (vI (kindN s)) := by
 refine Sp.body (n := 27) Tryz.call15 Tryz.func15 rfl rfl rfl ?_
 refine Qc (k:=Vv (k:=Wq (Za (k:=Qc (k:=Vv (k:=?_))))))
 refine r_callX (checkin_Read_sp s hs) rfl rfl rfl (fun x11 hx11 => ?_)
 obtain ⟨ka, k⟩ := x11
 refine Vv (k:=?_)
 refine wo_pv (pv_extract (v := .agg #[vS k.base, vS k.comment, vI k.date, .slice ka.fa k.files.length ka.fc, .slice ka.pa k.parents.length ka.pc, .slice ka.ta k.tags.length ka.tc, vS k.user]) rfl rfl) rfl ?_
 refine wo_pv (pv_extract (v := vB (readK s).isSome) rfl rfl) rfl ?_
 refine Zc [vS [], vS [], .int .i64 0, .slice none 0 0, .slice none 0 0, .slice none 0 0, vS []] (k:=fun b3 => Zp (k:=Vv (k:=Wq (Qc (k:=Vv (k:=Wq (Zi (t:=fun h14 => ?_) (f:=fun h14 => ?_))))))))
 ·
  refine Qc (k:=Vv (k:=Wq (Zt (k:=Va ?_))))
  exact zb15ret
 ·
  refine Zk (k:=Ya (Za (k:=Qc (k:=Vv (k:=?_)))))
  refine r_callX (control_Read_sp s hs) rfl rfl rfl (fun x17 hx17 => ?_)
  obtain ⟨⟨ta, tc⟩, ct⟩ := x17
  refine Vv (k:=?_)
  refine wo_pv (pv_extract (v := .agg #[vI ct.date, .slice ta ct.tags.length tc, vS ct.user]) rfl rfl) rfl ?_
  refine wo_pv (pv_extract (v := vB (readCt s).isSome) rfl rfl) rfl ?_
  refine Zc [.int .i64 0, .slice none 0 0, vS []] (k:=fun b5 => Zp (k:=Vv (k:=Wq (Qc (k:=Vv (k:=Wq (Zi (t:=fun h20 => ?_) (f:=fun h20 => ?_))))))))
  ·
   refine Qc (k:=Vv (k:=Wq (Zt (k:=Va ?_))))
   exact zb15ret
  ·
   refine Zk (k:=Ya (Za (k:=Qc (k:=Vv (k:=?_)))))
   refine r_callX (cluster_Read_sp s hs) rfl rfl rfl (fun x23 hx23 => ?_)
   obtain ⟨⟨na, nc⟩, nl⟩ := x23
   refine Vv (k:=?_)
   refine wo_pv (pv_extract (v := .slice na nl.length nc) rfl rfl) rfl ?_
   refine wo_pv (pv_extract (v := vB (readCl s).isSome) rfl rfl) rfl ?_
   refine Qv (k:=Wq (Qc (k:=Vv (k:=Wq (Zi (t:=fun h26 => ?_) (f:=fun h26 => ?_))))))
   ·
    refine Qc (k:=Vv (k:=Wq (Zt (k:=Va ?_))))
    exact zb15ret
   ·
    refine Zk (k:=Ya (Qc (k:=Vv (k:=Wq (Zt (k:=?_))))))
    exact zb15ret
/-- Names that an artifact speaks of, in its order; "" among them. -/
noncomputable def namesP (s : Bs) : List Bs := match readK s with
 | some c => c.base :: c.parents ++ c.files.map (·.2)
 | none => match readCt s with
   | some c => c.tags.map (·.target)
   | none => (readCl s).getD []
theorem readK_right {s : Bs} {c : Ck} (h : readK s = some c) : RightK c := (readK_iff.1 h).1
set_option maxHeartbeats 2000000 in
theorem kind_names_sp (s : Bs) (hs : s.length ≤ 1073741824) : Sp Tryz.prog 54 [vS s] [] (X := Option Addr × Nat) (fun x => .slice x.1 (namesP s).length x.2) (fun _ => True) (fun x => [Row 9 1 (.slice x.1 (namesP s).length x.2) (namesP s).length ((namesP s).map vS)]) := by
 refine Sp.body (n := 67) Tryz.call54 Tryz.func54 rfl rfl rfl ?_
 refine Qc (k:=Vv (k:=Wq (Za (k:=Qc (k:=Vv (k:=?_))))))
 refine r_callX (checkin_Read_sp s hs) rfl rfl rfl (fun x17 hx17 => ?_)
 obtain ⟨ka, k⟩ := x17
 dsimp only [ckH] at hx17 ⊢
 refine Vv (k:=?_)
 refine wo_pv (pv_extract (v := .agg #[vS k.base, vS k.comment, vI k.date, .slice ka.fa k.files.length ka.fc, .slice ka.pa k.parents.length ka.pc, .slice ka.ta k.tags.length ka.tc, vS k.user]) rfl rfl) rfl ?_
 refine wo_pv (pv_extract (v := vB (readK s).isSome) rfl rfl) rfl ?_
 refine Zc [vS [], vS [], .int .i64 0, .slice none 0 0, .slice none 0 0, .slice none 0 0, vS []] (k:=fun b3 => Zp (k:=Vv (k:=Wq (Qc (k:=Vv (k:=Wq (Zi (t:=fun h20 => ?_) (f:=fun h20 => ?_))))))))
 ·
  have hk : readK s = some k := by cases e : readK s with
   | none => rw [e] at h20; simp at h20
   | some c => rw [e] at hx17; rw [hx17.1]; rfl
  have hR := readK_right hk
  have hpl := hR.parents.len
  have hfl := hR.files.len
  have hnp : namesP s = k.base :: k.parents ++ k.files.map (·.2) := by rw [namesP, hk]
  rw [hnp]
  refine Qc (k:=Qx 0 9 (k:=Zv [_] (cs := [_]) (k:=fun b23 => ?_)))
  refine wo_ent' (ent_row (k := 1) (cap := 1) (sz := 1) (e := 9) (g := b23) (xs := [vS k.base]) (cur := [vS k.base]) (Nat.le_refl _) (by simp [maxLen]) rfl rfl rfl) ?_
  refine Qx 4 27 (k:=?_)
  refine r_appendA (sz := 1) (bytes := 16) Tryz.underlying27 ti9 rfl rfl rfl rfl rfl rfl rfl (by first | rfl | (rw [List.length_map, Nat.mul_one]; try omega) | (rw [flat_len (fun _ => rfl)]; try omega) | (simp; try omega)) (by first | rfl | (simp [oneCell]; done) | (simp [List.all_flatMap, oneCell]; done)) (by omega) (by simp only [maxLen]; omega) rfl (fun a26 c26 => ?_)
  refine Vv (k:=Wq (Za (k:=Qc (k:=Qx 3 26 (k:=Qv (k:=Wq (Zb (k:=?_))))))))
  refine p_loop (fun (i : { x : (Option Addr × Nat) × Nat // x.2 ≤ k.files.length }) => [(5, .slice i.1.1.1 (1 + k.parents.length + i.1.2) i.1.1.2), (28, .slice ka.fa k.files.length ka.fc), (29, vI k.files.length), (30, vI i.1.2)]) (fun (i : { x : (Option Addr × Nat) × Nat // x.2 ≤ k.files.length }) => [Row 9 1 (.slice i.1.1.1 (1 + k.parents.length + i.1.2) i.1.1.2) (1 + k.parents.length + i.1.2) ((k.base :: k.parents ++ (k.files.take i.1.2).map (·.2)).map vS), Row 25 2 (.slice ka.fa k.files.length ka.fc) k.files.length (k.files.flatMap flCells)]) (fun (i : { x : (Option Addr × Nat) × Nat // x.2 ≤ k.files.length }) => k.files.length - i.1.2) rfl (⟨((a26, c26), 0), Nat.zero_le _⟩) ?_ ?_ (fun i => ?_)
  · exact ⟨rfl, rfl, rfl, rfl, trivial⟩
  ·
   dsimp only
   exact ent_step (row_norm (by rfl) (by simp)) ent_pick
  obtain ⟨⟨⟨oa, oc⟩, j⟩, hj⟩ := i
  dsimp only at hj ⊢
  try dsimp only
  refine Qc (k:=Vv (k:=Wq (Za (k:=Zi (t:=fun h31 => ?_) (f:=fun h31 => ?_)))))
  ·
   refine Zk (k:=Ya (Za (k:=Zb (k:=Za (k:=?_)))))
   have hjl : j < k.files.length := by omega
   obtain ⟨f, hf⟩ : ∃ f, f = k.files[j] := ⟨_, rfl⟩
   have htk : (k.files.take (j + 1)).map (·.2) = (k.files.take j).map (·.2) ++ [f.2] := by rw [List.take_succ_eq_append_getElem hjl, List.map_append, hf]; rfl
   refine Zr (k:=Ye 2 (k:=?_))
   refine r_eloada (vs := [_, _]) (sz := 2) Tryz.underlying25 rfl ti25 rfl rfl (by rw [flat_len (sz := 2) (fun _ => rfl)]; omega) rfl (by refine get_flat (fun x => ?_) ?_ <;> first | rfl | omega) rfl ?_
   rw [← hf]
   refine Zc [vS [], vS []] (k:=fun b7 => Zp (k:=Wq (Zr (k:=Vv (k:=Qx 1 9 (k:=Zv [_] (cs := [_]) (k:=fun b37 => ?_)))))))
   refine r_append1 (sz := 1) (bytes := 16) Tryz.underlying27 ti9 rfl rfl rfl rfl rfl rfl rfl (by rfl) (by rfl) (by omega) (by simp only [maxLen]; omega) rfl (fun a38 c38 => ?_)
   refine Vv (k:=Wn (Yb (Ya (Zr (k:=Qv (k:=Wn ?_))))))
   refine to_inv ⟨((a38, c38), j + 1), by dsimp only; omega⟩ (by dsimp only; omega) ⟨rfl, rfl, rfl, rfl, trivial⟩ ?_
   dsimp only
   rw [htk]
   exact ent_step (row_norm (by rfl) (by simp)) ent_pick
  ·
   refine Ze (k:=Xa (Xi (Xb (Ya (Qc (k:=Qv (k:=Wq (Zt (k:=Va ?_)))))))))
   have hjl : j = k.files.length := by omega
   subst hjl
   rw [List.take_length]
   have hln : (k.base :: k.parents ++ k.files.map (·.2)).length = 1 + k.parents.length + k.files.length := by simp; omega
   refine fin_ret (oa, oc) (vs := [_]) (Cs := []) rfl (.tmp rfl .nil) (by rw [hln]; rfl) trivial ?_
   rw [hln]
   exact ent_pick
 ·
  have hkn : readK s = none := by cases e : readK s with
   | none => rfl
   | some c => rw [e] at h20; simp at h20
  refine Zk (k:=Ya (Za (k:=Qc (k:=Vv (k:=?_)))))
  refine r_callX (control_Read_sp s hs) rfl rfl rfl (fun x43 hx43 => ?_)
  obtain ⟨⟨ta, tc⟩, ct⟩ := x43
  dsimp only [ctH] at hx43 ⊢
  refine Vv (k:=?_)
  refine wo_pv (pv_extract (v := .agg #[vI ct.date, .slice ta ct.tags.length tc, vS ct.user]) rfl rfl) rfl ?_
  refine wo_pv (pv_extract (v := vB (readCt s).isSome) rfl rfl) rfl ?_
  refine Zc [.int .i64 0, .slice none 0 0, vS []] (k:=fun b8 => Zp (k:=Vv (k:=Wq (Qc (k:=Vv (k:=Wq (Zi (t:=fun h46 => ?_) (f:=fun h46 => ?_))))))))
  ·
   have hk2 : readCt s = some ct := by cases e : readCt s with
    | none => rw [e] at h46; simp at h46
    | some c => rw [e] at hx43; rw [hx43]; rfl
   have hR := (readCt_iff.1 hk2).1
   have htl := hR.tags.len
   have hnp : namesP s = ct.tags.map (·.target) := by rw [namesP, hkn, hk2]
   rw [hnp]
   refine Qc (k:=Vv (k:=Wq (Za (k:=Qc (k:=Qx 1 28 (k:=Qv (k:=Wq ?_)))))))
   refine Zb (k:=?_)
   refine p_loop (fun (i : { x : (Option Addr × Nat) × Nat // x.2 ≤ ct.tags.length }) => [(10, .slice i.1.1.1 i.1.2 i.1.1.2), (48, .slice ta ct.tags.length tc), (49, vI ct.tags.length), (50, vI i.1.2)]) (fun (i : { x : (Option Addr × Nat) × Nat // x.2 ≤ ct.tags.length }) => [Row 9 1 (.slice i.1.1.1 i.1.2 i.1.1.2) i.1.2 (((ct.tags.take i.1.2).map (·.target)).map vS), Row 66 4 (.slice ta ct.tags.length tc) ct.tags.length (ct.tags.flatMap tgCells)]) (fun (i : { x : (Option Addr × Nat) × Nat // x.2 ≤ ct.tags.length }) => ct.tags.length - i.1.2) rfl (⟨((none, 0), 0), Nat.zero_le _⟩) ?_ ?_ (fun i => ?_)
   · exact ⟨rfl, rfl, rfl, rfl, trivial⟩
   ·
    exact (row_nil (e := 9) (sz := 1)).trans (show Ent _ [Row 9 1 (.slice none 0 0) 0 [], Row 66 4 (.slice ta ct.tags.length tc) ct.tags.length (ct.tags.flatMap tgCells)] from ent_pick)
   obtain ⟨⟨⟨oa, oc⟩, j⟩, hj⟩ := i
   dsimp only at hj ⊢
   try dsimp only
   refine Qc (k:=Vv (k:=Wq (Za (k:=Zi (t:=fun h51 => ?_) (f:=fun h51 => ?_)))))
   ·
    refine Zk (k:=Ya (Za (k:=Zb (k:=Za (k:=?_)))))
    have hjl : j < ct.tags.length := by omega
    obtain ⟨t, ht⟩ : ∃ t, t = ct.tags[j] := ⟨_, rfl⟩
    have htk : (ct.tags.take (j + 1)).map (·.target) = (ct.tags.take j).map (·.target) ++ [t.target] := by rw [List.take_succ_eq_append_getElem hjl, List.map_append, ht]; rfl
    refine Zr (k:=Ye 4 (k:=?_))
    refine r_eloada (vs := [_, _, _, _]) (sz := 4) Tryz.underlying66 rfl ti66 rfl rfl (by rw [flat_len (sz := 4) (fun _ => rfl)]; omega) rfl (by refine get_flat (fun x => ?_) ?_ <;> first | rfl | omega) rfl ?_
    rw [← ht]
    refine Zc [.int .u8 0, vS [], vS [], vS []] (k:=fun b12 => Zp (k:=Wq (Zr (k:=Vv (k:=Qx 2 9 (k:=Zv [_] (cs := [_]) (k:=fun b57 => ?_)))))))
    refine r_append1 (sz := 1) (bytes := 16) Tryz.underlying27 ti9 rfl rfl rfl rfl rfl rfl rfl (by rfl) (by rfl) (by omega) (by simp only [maxLen]; omega) rfl (fun a58 c58 => ?_)
    refine Vv (k:=Wn (Yb (Ya (Zr (k:=Qv (k:=Wn ?_))))))
    refine to_inv ⟨((a58, c58), j + 1), by dsimp only; omega⟩ (by dsimp only; omega) ⟨rfl, rfl, rfl, rfl, trivial⟩ ?_
    dsimp only
    rw [htk]
    exact ent_step (row_norm (by rfl) (by simp)) ent_pick
   ·
    refine Ze (k:=Xa (Xi (Xb (Ya (Qc (k:=Qv (k:=Wq (Zt (k:=Va ?_)))))))))
    have hjl : j = ct.tags.length := by omega
    subst hjl
    rw [List.take_length]
    have hln : (ct.tags.map (·.target)).length = ct.tags.length := by simp
    refine fin_ret (oa, oc) (vs := [_]) (Cs := []) rfl (.tmp rfl .nil) (by rw [hln]; rfl) trivial ?_
    rw [hln]
    exact ent_pick
  ·
   refine Zk (k:=Ya (Qc (k:=Vv (k:=?_))))
   refine r_callX (cluster_Read_sp s hs) rfl rfl rfl (fun x63 hx63 => ?_)
   obtain ⟨⟨na, nc⟩, nl⟩ := x63
   dsimp only [nmsH] at hx63 ⊢
   refine Vv (k:=?_)
   refine wo_pv (pv_extract (v := .slice na nl.length nc) rfl rfl) rfl ?_
   refine wo_pv (pv_extract (v := vB (readCl s).isSome) rfl rfl) rfl ?_
   refine Qv (k:=Wq (Qc (k:=Qv (k:=Wq (Zt (k:=?_))))))
   have hk2 : readCt s = none := by cases e : readCt s with
    | none => rfl
    | some c => rw [e] at h46; simp at h46
   have hnp : namesP s = nl := by rw [namesP, hkn, hk2, hx63]
   rw [hnp]
   exact fin_ret (na, nc) (vs := [_]) (Cs := []) rfl (.tmp rfl .nil) rfl trivial ent_pick
theorem kind_Names_sp (s : Bs) : Sp Tryz.prog 16 [vS s] [] (X := Nat) (fun b => .func (.func 53) #[] #[.pointer (some ⟨b, 0, none⟩)]) (fun _ => True) (fun b => [Ce b 9 [vS s]]) := by
 refine Sp.body (n := 4) Tryz.call16 Tryz.func16 rfl rfl rfl ?_
 refine Qc (k:=Zx [_] (k:=fun b1 => Vv (k:=Wq (Qc (k:=Qv (k:=Wq (Zt (k:=?_))))))))
 refine fin_ret b1 (vs := [_]) (Cs := []) rfl (.tmp rfl .nil) rfl trivial ?_
 exact ent_pick
/-- Names that an artifact speaks of, rising, each once. -/
noncomputable def namesR (s : Bs) : List Bs := (dedS (sortB (namesP s))).filter (fun x => x ≠ [])
abbrev okN (l : List Bs) : List Bs → Bs → Prop := fun pre w => ∃ r, l = pre ++ w :: r
abbrev stopN (l : List Bs) : List Bs → Prop := fun pre => pre ≠ [] ∧ ∃ r, l = pre ++ r
theorem namesP_len (s : Bs) : (namesP s).length ≤ 100 := by
 unfold namesP
 split
 · rename_i c h
   have hR := readK_right h
   have := hR.parents.len
   have := hR.files.len
   simp; omega
 · split
   · rename_i c h
     have hR := (readCt_iff.1 h).1
     have := hR.tags.len
     simp; omega
   · cases e : readCl s with
     | none => simp
     | some l =>
       have := (readCl_iff.1 e).1.len.2
       simp only [Option.getD_some]; omega
theorem dedS_len (l : List Bs) : (dedS l).length ≤ l.length := by
 induction l using list_snoc_ind with
 | h0 => exact Nat.le_refl _
 | h1 l x ih => rw [dedS_snoc]; split <;> simp <;> omega
theorem zb53next0 {G : Prop} (h : G := by
    refine to_inv ⟨j + 1, by omega⟩ (by dsimp only; omega) ⟨rfl, rfl, rfl, rfl, trivial⟩ ?_
    dsimp only
    rw [htk]
    exact ent_pick) : G := h
set_option maxHeartbeats 1000000 in
theorem kind_Names_it (s : Bs) (hs : s.length ≤ 1073741824) (b : Nat) :
    Iter Tryz.prog 53 [.pointer (some ⟨b, 0, none⟩)] (fun w : Bs => [vS w]) (okN (namesR s)) (stopN (namesR s)) [Ce b 9 [vS s]] [Ce b 9 [vS s]] (namesR s) (fun _ => .tuple #[]) := by
 intro y J Jx ys
 have hnl := namesP_len s
 have hdl := dedS_len (sortB (namesP s))
 rw [sortB_len] at hdl
 refine Sp.body (n := 26) Tryz.call53 Tryz.func53 rfl rfl rfl ?_
 refine Qc (k:=Zd (k:=?_))
 refine r_callX (kind_names_sp s hs) rfl rfl rfl (fun x7 _ => ?_)
 obtain ⟨na, nc⟩ := x7
 dsimp only
 refine Vv (k:=Wq (Qc (k:=Vv (k:=?_))))
 refine r_call1 (slices_Sort_sp na (namesP s).length nc (namesP s) rfl (by omega)) rfl rfl rfl ?_
 refine Wq (Qc (k:=Vv (k:=?_)))
 refine r_callX (slices_Compact_sp na (namesP s).length nc (sortB (namesP s)) (sortB_len _) (by omega)) rfl rfl rfl (fun k hk => ?_)
 obtain ⟨l, hl⟩ : ∃ l, l = dedS (sortB (namesP s)) := ⟨_, rfl⟩
 have hnr : namesR s = l.filter (fun x => x ≠ []) := by rw [namesR, ← hl]
 rw [← hl] at hk hdl ⊢
 subst hk
 rw [hnr]
 refine Qv (k:=Wq (Zb (k:=?_)))
 refine p_loop (fun (i : { j : Nat // j ≤ l.length }) => [(0, y), (11, .slice na l.length nc), (12, vI l.length), (13, vI i.1)]) (fun (i : { j : Nat // j ≤ l.length }) => [J ((l.take i.1).filter (fun x => x ≠ [])), Row 9 1 (.slice na l.length nc) l.length (l.map vS), Ce b 9 [vS s]]) (fun (i : { j : Nat // j ≤ l.length }) => l.length - i.1) rfl (⟨0, Nat.zero_le _⟩) ?_ ?_ (fun i => ?_)
 · exact ⟨rfl, rfl, rfl, rfl, trivial⟩
 ·
  dsimp only
  rw [List.take_zero, List.filter_nil]
  exact ent_pick
 obtain ⟨j, hj⟩ := i
 dsimp only
 try dsimp only
 refine Qc (k:=Vv (k:=Wq (Za (k:=Zi (t:=fun h14 => ?_) (f:=fun h14 => ?_)))))
 ·
  refine Zk (k:=Ya (Za (k:=Zb (k:=Za (k:=?_)))))
  have hjl : j < l.length := by omega
  refine Zr (k:=Ye 1 (k:=Yl (hv:=by exact get_mapD [] hjl) (k:=?_)))
  obtain ⟨w, hw⟩ : ∃ w, w = l.getD j [] := ⟨_, rfl⟩
  have htk : (l.take (j + 1)).filter (fun x => x ≠ []) = (l.take j).filter (fun x => x ≠ []) ++ (if w ≠ [] then [w] else []) := by
   rw [List.take_succ_eq_append_getElem hjl, List.filter_append]
   have : l[j] = w := by rw [hw]; simp [hjl]
   rw [this]
   by_cases h : w = [] <;> simp [h]
  have hsplit : ∃ r, l.filter (fun x => x ≠ []) = (l.take (j + 1)).filter (fun x => x ≠ []) ++ r := ⟨(l.drop (j + 1)).filter (fun x => x ≠ []), by rw [← List.filter_append, List.take_append_drop]⟩
  rw [← hw]
  refine Vv (k:=Wq (Qc (k:=Qv (k:=Vv (k:=Gi 2 (t:=fun h19 => ?_) (f:=fun h19 => ?_))))))
  ·
   rw [if_pos h19] at htk
   refine J1 (k:=J1 (k:=I1 (k:=?_)))
   refine r_yield ys ((l.take j).filter (fun x => x ≠ [])) w (by obtain ⟨r, hr⟩ := hsplit; exact ⟨r, by rw [hnr, hr, htk, List.append_assoc]; rfl⟩) rfl rfl rfl ?_ ?_
   ·
    refine J1 (k:=P1 (k:=Wq (Z0 (k:=Zk (k:=Yb (Ya (Zr (k:=Qv (k:=Wn ?_)))))))))
    exact zb53next0
   ·
    refine J1 (k:=P1 (k:=Wq (Z1 (k:=Zt (k:=Vb (Va (Vi (Vb ?_))))))))
    refine fin_ret (some ((l.take (j + 1)).filter (fun x => x ≠ []))) (vs := []) (Cs := []) rfl .nil rfl (fun p e => by cases e; exact ⟨by rw [htk]; simp, by first | exact hsplit | (rw [hnr]; exact hsplit)⟩) ?_
    simp only [endsAt]
    rw [htk]
    exact ent_pick
  ·
   rw [if_neg h19, List.append_nil] at htk
   refine O0 (k:=O0 (k:=O0 (k:=O0 (k:=P0 (k:=Wq (Z0 (k:=Zk (k:=Yb (Ya (Zr (k:=Vv (k:=?_))))))))))))
   refine Vv (k:=Wn ?_)
   exact zb53next0
 ·
  refine Ze (k:=Xa (Xi (Xb ?_)))
  have hjl : j = l.length := by omega
  subst hjl
  rw [List.take_length]
  refine fin_end none (vs := []) (Cs := []) rfl .nil rfl (fun pre e => by cases e) ?_
  simp only [endsAt]
  exact ent_pick
theorem zb17ret {G : Prop} (h : G := by
    first
    | (rw [decide_eq_true hin]
       exact fin_ret () (vs := [_]) (Cs := [Ce b4 4 [.bool true]]) rfl (.cell1 (l := [.bool true]) rfl (shows_ce (T := 4)) Tryz.underlying4 rfl rfl .nil) rfl trivial ent_pick)
    | (rw [decide_eq_false hnin]
       exact fin_ret () (vs := [_]) (Cs := [Ce b4 4 [.bool false]]) rfl (.cell1 (l := [.bool false]) rfl (shows_ce (T := 4)) Tryz.underlying4 rfl rfl .nil) rfl trivial ent_pick)) : G := h
set_option maxHeartbeats 1000000 in
theorem kind_Speaks_sp (s x : Bs) (hs : s.length ≤ 1073741824) : SpF Tryz.prog 17 [vS s, vS x] (vB (decide (x ∈ namesR s))) := by
 refine Sp.body (n := 12) Tryz.call17 Tryz.func17 rfl rfl rfl ?_
 refine Qc (k:=Zx [_] (k:=fun b3 => Zc [.bool false] (k:=fun b4 => Wq (Za (k:=Qc (k:=Vv (k:=?_)))))))
 refine r_callX (kind_Names_sp s) rfl rfl rfl (fun x7 _ => ?_)
 refine Wq (Zb (k:=?_))
 refine p_rangeFunc (fun pre => [Pu (x ∉ pre), Ce b3 9 [vS x], Ce b4 4 [.bool false]]) (fun j pre => match j with | none => [Pu (x ∈ namesR s), Ce b4 4 [.bool true]] | _ => [Pu False]) rfl (kind_Names_it s hs x7) rfl (fun _ => by rfl) rfl ?_ (fun l pre w hok => ?_) ?_ (fun j pre hs => ?_)
 · (refine ent_app ?_; exact ent_pu (by simp) ent_pick)
 ·
  obtain ⟨rr, hrr⟩ := hok
  refine wc_front (Pu (x ∉ pre)) (wc_pu fun hnp => ?_)
  refine Zr (k:=Vv (k:=Wg (Zb (k:=Qc (k:=Vv (k:=Zd (k:=Vv (k:=Wq (Zi (t:=fun h11 => ?_) (f:=fun h11 => ?_))))))))))
  ·
   refine Qc (k:=Zo (k:=Wq (Zt (k:=Vb ?_))))
   refine to_round_ret ?_
   exact ent_pu (by rw [hrr, ← h11]; simp) (ent_step (ce_norm (by rfl) (by rfl)) ent_nil)
  ·
   refine Zk (k:=Yb ?_)
   refine to_round ?_
   refine ent_pu ?_ ent_pick
   simp only [List.mem_append, List.mem_singleton, not_or]
   exact ⟨hnp, fun e => h11 e.symm⟩
 ·
  skip
  refine Yb (Ya (Za (k:=?_)))
  refine wc_front (Pu (x ∉ namesR s)) (wc_pu fun hnin => ?_)
  refine Zr (k:=Zo (k:=Wq (Zt (k:=?_))))
  exact zb17ret
 ·
  rcases j with _ | j
  · refine wc_ent0 (Gs := [Pu (x ∈ namesR s), Ce b4 4 [.bool true]]) (show Ent ([Pu (x ∈ namesR s), Ce b4 4 [.bool true]] ++ _) _ from ent_pick) (wc_pu fun hin => ?_)
    refine Zt (k:=Vb (Va ?_))
    exact zb17ret
  · exact wc_no (fun s => by obtain ⟨_, _, _, _, a, _⟩ := s; exact a)
end
section
set_option maxRecDepth 100000
theorem ref1_turn_sp (x : UInt32) (k : Nat) (hk : k = 1 ∨ k = 5 ∨ k = 30) : SpF Tryz.prog 103 [vW x, .int .u64 k] (vW (rotl x k)) := by
 rcases hk with rfl | rfl | rfl
 · skip
   refine Sp.body (n := 13) Tryz.call103 Tryz.func103 rfl rfl rfl ?_
   refine Qc (k:=Vv (k:=Wq (Qc (k:=Qv (k:=?_)))))
   refine wo_pv (pv_shlW (m := 1) rfl rfl rfl (by omega)) rfl ?_
   refine Qv (k:=?_)
   refine wo_pv (pv_subw rfl rfl) rfl ?_
   refine wo_pv (pv_shrW (m := 31) rfl rfl (by decide) (by omega)) rfl ?_
   refine wo_pv (pv_orW rfl rfl) rfl ?_
   refine Vv (k:=Wq (Zt (k:=?_)))
   exact fin_ret () (vs := [_]) (Cs := []) rfl (.tmp rfl .nil) rfl trivial ent_nil
 · skip
   refine Sp.body (n := 13) Tryz.call103 Tryz.func103 rfl rfl rfl ?_
   refine Qc (k:=Vv (k:=Wq (Qc (k:=Qv (k:=?_)))))
   refine wo_pv (pv_shlW (m := 5) rfl rfl rfl (by omega)) rfl ?_
   refine Qv (k:=?_)
   refine wo_pv (pv_subw rfl rfl) rfl ?_
   refine wo_pv (pv_shrW (m := 27) rfl rfl (by decide) (by omega)) rfl ?_
   refine wo_pv (pv_orW rfl rfl) rfl ?_
   refine Vv (k:=Wq (Zt (k:=?_)))
   exact fin_ret () (vs := [_]) (Cs := []) rfl (.tmp rfl .nil) rfl trivial ent_nil
 · skip
   refine Sp.body (n := 13) Tryz.call103 Tryz.func103 rfl rfl rfl ?_
   refine Qc (k:=Vv (k:=Wq (Qc (k:=Qv (k:=?_)))))
   refine wo_pv (pv_shlW (m := 30) rfl rfl rfl (by omega)) rfl ?_
   refine Qv (k:=?_)
   refine wo_pv (pv_subw rfl rfl) rfl ?_
   refine wo_pv (pv_shrW (m := 2) rfl rfl (by decide) (by omega)) rfl ?_
   refine wo_pv (pv_orW rfl rfl) rfl ?_
   refine Vv (k:=Wq (Zt (k:=?_)))
   exact fin_ret () (vs := [_]) (Cs := []) rfl (.tmp rfl .nil) rfl trivial ent_nil
theorem zb48join22 {G : Prop} (h : G := by
    first
    | (rw [if_neg (by omega), if_neg (by omega), if_neg (by omega)] at hmx
       rw [hmx]
       exact to_inv () trivial ⟨rfl, rfl, rfl, rfl, rfl, rfl, rfl, rfl, trivial⟩ ent_pick)
    | (rw [if_neg (by omega), if_neg (by omega), if_pos (by omega)] at hmx
       rw [hmx]
       exact to_inv () trivial ⟨rfl, rfl, rfl, rfl, rfl, rfl, rfl, rfl, trivial⟩ ent_pick)
    | (rw [if_neg (by omega), if_pos (by omega)] at hmx
       rw [hmx]
       exact to_inv () trivial ⟨rfl, rfl, rfl, rfl, rfl, rfl, rfl, rfl, trivial⟩ ent_pick)
    | (rw [if_pos (by omega)] at hmx
       rw [hmx]
       exact to_inv () trivial ⟨rfl, rfl, rfl, rfl, rfl, rfl, rfl, rfl, trivial⟩ ent_pick)) : G := h
theorem ref1_block_sp {B : HP} {a : Option Addr} (c : Nat) (h : W5) (b : Bs) (hb : b.length = 64) (sh : SlA B a (vUs b)) : Sp1 Tryz.prog 48 [.agg (h.list.map vW).toArray, .slice a 64 c] [B] (.agg ((takeW h b).list.map vW).toArray) [B] := by
 haveI : RdSl a (vUs b) [B] := ⟨⟨B, sh, .here⟩⟩
 have hvl : (vUs b).length = 64 := by simp [vUs, hb]
 refine Sp.body (n := 177) Tryz.call48 Tryz.func48 rfl rfl rfl ?_
 refine Qc (k:=Zx [_, _, _, _, _] (k:=fun b2 => Zc [.int .u32 0, .int .u32 0, .int .u32 0, .int .u32 0, .int .u32 0] (k:=fun b4 => Wq (Qc (k:=Zc [.int .u32 0, .int .u32 0, .int .u32 0, .int .u32 0, .int .u32 0, .int .u32 0, .int .u32 0, .int .u32 0, .int .u32 0, .int .u32 0, .int .u32 0, .int .u32 0, .int .u32 0, .int .u32 0, .int .u32 0, .int .u32 0, .int .u32 0, .int .u32 0, .int .u32 0, .int .u32 0, .int .u32 0, .int .u32 0, .int .u32 0, .int .u32 0, .int .u32 0, .int .u32 0, .int .u32 0, .int .u32 0, .int .u32 0, .int .u32 0, .int .u32 0, .int .u32 0, .int .u32 0, .int .u32 0, .int .u32 0, .int .u32 0, .int .u32 0, .int .u32 0, .int .u32 0, .int .u32 0, .int .u32 0, .int .u32 0, .int .u32 0, .int .u32 0, .int .u32 0, .int .u32 0, .int .u32 0, .int .u32 0, .int .u32 0, .int .u32 0, .int .u32 0, .int .u32 0, .int .u32 0, .int .u32 0, .int .u32 0, .int .u32 0, .int .u32 0, .int .u32 0, .int .u32 0, .int .u32 0, .int .u32 0, .int .u32 0, .int .u32 0, .int .u32 0, .int .u32 0, .int .u32 0, .int .u32 0, .int .u32 0, .int .u32 0, .int .u32 0, .int .u32 0, .int .u32 0, .int .u32 0, .int .u32 0, .int .u32 0, .int .u32 0, .int .u32 0, .int .u32 0, .int .u32 0, .int .u32 0] (k:=fun b5 => Wq (Za (k:=Qc (k:=?_)))))))))
 refine Vv (k:=Wq (Zb (k:=?_)))
 refine p_loop (fun (i : { j : Nat // j ≤ 16 }) => [(1, .slice a 64 c), (2, .pointer (some ⟨b2, 0, none⟩)), (4, .pointer (some ⟨b4, 0, none⟩)), (5, .pointer (some ⟨b5, 0, none⟩)), (14, vI i.1)]) (fun (i : { j : Nat // j ≤ 16 }) => [Ce b5 165 ((spreadL b i.1 ++ List.replicate (80 - i.1) 0).map vW), Ce b2 103 (h.list.map vW), Ce b4 103 ((List.replicate 5 (0 : UInt32)).map vW), B]) (fun (i : { j : Nat // j ≤ 16 }) => 16 - i.1) rfl (⟨0, Nat.zero_le _⟩) ?_ ?_ (fun i => ?_)
 · exact ⟨rfl, rfl, rfl, rfl, rfl, trivial⟩
 ·
  exact ent_step (ce_norm (by rfl) (by rfl)) (ent_step (ce_norm (by rfl) (by rfl)) (ent_step (ce_norm (by rfl) (by rfl)) ent_pick))
 obtain ⟨j, hj⟩ := i
 dsimp only
 have hsp := spreadL_len b j
 try dsimp only
 refine Qc (k:=Vv (k:=Wq (Za (k:=Zi (t:=fun h15 => ?_) (f:=fun h15 => ?_)))))
 ·
  refine Zk (k:=Ya (Za (k:=Zb (k:=Qc (k:=Qv (k:=Wq (Dw [B] (k:=?_))))))))
  refine Dv 0 (k:=Dv 1 (k:=Dv 2 (k:=Dv 3 (k:=?_))))
  refine d_first 4 rfl rfl rfl (by kernel_rfl) (by kernel_rfl) (tl_elemAddr (sz := 1) (m := 4 * j) Tryz.underlying89 ti5 rfl rfl rfl (by omega) (by omega) (by omega) (Nat.mul_one _)) ?_
  refine d_first 5 rfl rfl rfl (by kernel_rfl) (by kernel_rfl) (tl_eload Tryz.underlying5 rfl rfl (vUs_get (by omega))) ?_
  refine d_first 6 rfl rfl rfl (by kernel_rfl) (by kernel_rfl) (tl_pv (pv_convW rfl Tryz.underlying5 Tryz.underlying102)) ?_
  refine d_first 7 rfl rfl rfl (by kernel_rfl) (by kernel_rfl) (tl_pv (pv_shlW (m := 24) rfl rfl rfl (by omega))) ?_
  refine Dv 8 (k:=Dv 9 (k:=Dv 10 (k:=Dv 11 (k:=?_))))
  refine d_first 12 rfl rfl rfl (by kernel_rfl) (by kernel_rfl) (tl_elemAddr (sz := 1) (m := 4 * j + 1) Tryz.underlying89 ti5 rfl rfl rfl (by omega) (by omega) (by omega) (Nat.mul_one _)) ?_
  refine d_first 13 rfl rfl rfl (by kernel_rfl) (by kernel_rfl) (tl_eload Tryz.underlying5 rfl rfl (vUs_get (by omega))) ?_
  refine d_first 14 rfl rfl rfl (by kernel_rfl) (by kernel_rfl) (tl_pv (pv_convW rfl Tryz.underlying5 Tryz.underlying102)) ?_
  refine d_first 15 rfl rfl rfl (by kernel_rfl) (by kernel_rfl) (tl_pv (pv_shlW (m := 16) rfl rfl rfl (by omega))) ?_
  refine d_first 16 rfl rfl rfl (by kernel_rfl) (by kernel_rfl) (tl_pv (pv_orW rfl rfl)) ?_
  refine Dv 17 (k:=Dv 18 (k:=Dv 19 (k:=Dv 20 (k:=?_))))
  refine d_first 21 rfl rfl rfl (by kernel_rfl) (by kernel_rfl) (tl_elemAddr (sz := 1) (m := 4 * j + 2) Tryz.underlying89 ti5 rfl rfl rfl (by omega) (by omega) (by omega) (Nat.mul_one _)) ?_
  refine d_first 22 rfl rfl rfl (by kernel_rfl) (by kernel_rfl) (tl_eload Tryz.underlying5 rfl rfl (vUs_get (by omega))) ?_
  refine d_first 23 rfl rfl rfl (by kernel_rfl) (by kernel_rfl) (tl_pv (pv_convW rfl Tryz.underlying5 Tryz.underlying102)) ?_
  refine d_first 24 rfl rfl rfl (by kernel_rfl) (by kernel_rfl) (tl_pv (pv_shlW (m := 8) rfl rfl rfl (by omega))) ?_
  refine d_first 25 rfl rfl rfl (by kernel_rfl) (by kernel_rfl) (tl_pv (pv_orW rfl rfl)) ?_
  refine Dv 26 (k:=Dv 27 (k:=Dv 28 (k:=Dv 29 (k:=?_))))
  refine d_first 30 rfl rfl rfl (by kernel_rfl) (by kernel_rfl) (tl_elemAddr (sz := 1) (m := 4 * j + 3) Tryz.underlying89 ti5 rfl rfl rfl (by omega) (by omega) (by omega) (Nat.mul_one _)) ?_
  refine d_first 31 rfl rfl rfl (by kernel_rfl) (by kernel_rfl) (tl_eload Tryz.underlying5 rfl rfl (vUs_get (by omega))) ?_
  refine d_first 32 rfl rfl rfl (by kernel_rfl) (by kernel_rfl) (tl_pv (pv_convW rfl Tryz.underlying5 Tryz.underlying102)) ?_
  refine d_first 33 rfl rfl rfl (by kernel_rfl) (by kernel_rfl) (tl_pv (pv_orW rfl rfl)) ?_
  refine d_first 34 rfl rfl rfl (by kernel_rfl) (by kernel_rfl) (tl_pv (pv_aindex1 Tryz.underlying165 ti102 rfl rfl rfl (by first | rfl | omega) (by omega))) ?_
  refine Dn 35 (k:=No (k:=Dd (k:=Yb (Ya (Zr (k:=Qv (k:=Wn ?_)))))))
  refine to_inv ⟨j + 1, by omega⟩ (by dsimp only; omega) ⟨rfl, rfl, rfl, rfl, rfl, trivial⟩ ?_
  dsimp only
  rw [← sp_set (b := b) (j := j) (by omega) (blkW b j) (by rw [if_pos (by omega)])]
  exact ent_step (ce_norm (by rfl) (by rw [List.map_set]; rfl)) ent_pick
 ·
  refine Ze (k:=Xa (Xi (Xb (Ya (Za (k:=Qc (k:=Vv (k:=Wq (Zb (k:=?_))))))))))
  refine p_loop (fun (i : { j : Nat // 16 ≤ j ∧ j ≤ 80 }) => [(2, .pointer (some ⟨b2, 0, none⟩)), (4, .pointer (some ⟨b4, 0, none⟩)), (5, .pointer (some ⟨b5, 0, none⟩)), (7, vI i.1)]) (fun (i : { j : Nat // 16 ≤ j ∧ j ≤ 80 }) => [Ce b5 165 ((spreadL b i.1 ++ List.replicate (80 - i.1) 0).map vW), Ce b2 103 (h.list.map vW), Ce b4 103 ((List.replicate 5 (0 : UInt32)).map vW), B]) (fun (i : { j : Nat // 16 ≤ j ∧ j ≤ 80 }) => 80 - i.1) rfl (⟨16, by omega, by omega⟩) ?_ ?_ (fun i => ?_)
  · exact ⟨rfl, rfl, rfl, rfl, trivial⟩
  ·
   have hj16 : j = 16 := by omega
   subst hj16
   exact ent_pick
  obtain ⟨m, hm1, hm2⟩ := i
  dsimp only
  have hsl : (spreadL b m ++ List.replicate (80 - m) (0 : UInt32)).length = 80 := by rw [List.length_append, spreadL_len, List.length_replicate]; omega
  have hsp := spreadL_len b m
  try dsimp only
  refine Za (k:=Qc (k:=Qv (k:=Wq (Zi (t:=fun h54 => ?_) (f:=fun h54 => ?_)))))
  ·
   refine Zk (k:=Ya (Za (k:=Zb (k:=Dw [Ce b5 165 ((spreadL b m ++ List.replicate (80 - m) 0).map vW)] (k:=?_)))))
   refine Dv 0 (k:=Dv 1 (k:=Dv 2 (k:=?_)))
   refine d_first 3 rfl rfl rfl (by kernel_rfl) (by kernel_rfl) (tl_pv (pv_aindex1 (m := m - 3) Tryz.underlying165 ti102 rfl rfl rfl (by omega) (by omega))) ?_
   refine d_first 4 rfl rfl rfl (by kernel_rfl) (by kernel_rfl) (tl_load Tryz.underlying102 rfl rfl ((vW_getD (m := m - 3) (by omega)).trans (by rw [sp_get (by omega) (by omega)]))) ?_
   refine Dv 5 (k:=Dv 6 (k:=?_))
   refine d_first 7 rfl rfl rfl (by kernel_rfl) (by kernel_rfl) (tl_pv (pv_aindex1 (m := m - 8) Tryz.underlying165 ti102 rfl rfl rfl (by omega) (by omega))) ?_
   refine d_first 8 rfl rfl rfl (by kernel_rfl) (by kernel_rfl) (tl_load Tryz.underlying102 rfl rfl ((vW_getD (m := m - 8) (by omega)).trans (by rw [sp_get (by omega) (by omega)]))) ?_
   refine d_first 9 rfl rfl rfl (by kernel_rfl) (by kernel_rfl) (tl_pv (pv_xorW rfl rfl)) ?_
   refine Dv 10 (k:=Dv 11 (k:=?_))
   refine d_first 12 rfl rfl rfl (by kernel_rfl) (by kernel_rfl) (tl_pv (pv_aindex1 (m := m - 14) Tryz.underlying165 ti102 rfl rfl rfl (by omega) (by omega))) ?_
   refine d_first 13 rfl rfl rfl (by kernel_rfl) (by kernel_rfl) (tl_load Tryz.underlying102 rfl rfl ((vW_getD (m := m - 14) (by omega)).trans (by rw [sp_get (by omega) (by omega)]))) ?_
   refine d_first 14 rfl rfl rfl (by kernel_rfl) (by kernel_rfl) (tl_pv (pv_xorW rfl rfl)) ?_
   refine Dv 15 (k:=Dv 16 (k:=?_))
   refine d_first 17 rfl rfl rfl (by kernel_rfl) (by kernel_rfl) (tl_pv (pv_aindex1 (m := m - 16) Tryz.underlying165 ti102 rfl rfl rfl (by omega) (by omega))) ?_
   refine d_first 18 rfl rfl rfl (by kernel_rfl) (by kernel_rfl) (tl_load Tryz.underlying102 rfl rfl ((vW_getD (m := m - 16) (by omega)).trans (by rw [sp_get (by omega) (by omega)]))) ?_
   refine d_first 19 rfl rfl rfl (by kernel_rfl) (by kernel_rfl) (tl_pv (pv_xorW rfl rfl)) ?_
   refine Dn 20 (k:=?_)
   refine an_callF (ref1_turn_sp _ 1 (.inl rfl)) rfl rfl rfl ?_
   refine d_first 21 rfl rfl rfl (by kernel_rfl) (by kernel_rfl) (tl_pv (pv_aindex1 Tryz.underlying165 ti102 rfl rfl rfl (by first | rfl | omega) (by omega))) ?_
   refine d_last 22 (by kernel_rfl) rfl (by kernel_rfl) (by kernel_rfl) ?_
   refine No (k:=Yb (Ya (Zr (k:=Qv (k:=Vv (k:=Wn ?_))))))
   refine to_inv ⟨m + 1, by omega, by omega⟩ (by dsimp only; omega) ⟨rfl, rfl, rfl, rfl, trivial⟩ ?_
   dsimp only
   rw [← sp_set (b := b) (j := m) (by omega) (nextW (spreadL b m) m) (by rw [if_neg (by omega)])]
   exact ent_step (ce_norm (by rfl) (by rw [List.map_set]; rfl)) ent_pick
  ·
   refine Ze (k:=Xa (Xi (Xb (Ya (Za (k:=?_))))))
   have hm80 : m = 80 := by omega
   subst hm80
   rw [Nat.sub_self, List.replicate_zero, List.append_nil]
   have htk : takeW h b = (let s := roundsW (spreadL b 80) h 80; ⟨h.a + s.a, h.b + s.b, h.c + s.c, h.d + s.d, h.e + s.e⟩) := rfl
   generalize spreadL b 80 = ws at hsp htk ⊢
   refine Zr (k:=Zm [_, _, _, _, _] (k:=Zc [.int .u32 0, .int .u32 0, .int .u32 0, .int .u32 0, .int .u32 0] (k:=fun b8 => Zp (k:=Wq (Za (k:=Qc (k:=Vv (k:=Wq (Zb (k:=?_))))))))))
   refine p_loop (fun (i : { j : Nat // j ≤ 80 }) => [(2, .pointer (some ⟨b2, 0, none⟩)), (4, .pointer (some ⟨b4, 0, none⟩)), (5, .pointer (some ⟨b5, 0, none⟩)), (8, .pointer (some ⟨b8, 0, none⟩)), (80, vI i.1)]) (fun (i : { j : Nat // j ≤ 80 }) => [Ce b8 103 ((roundsW ws h i.1).list.map vW), Ce b5 165 (ws.map vW), Ce b2 103 (h.list.map vW), Ce b4 103 ((List.replicate 5 (0 : UInt32)).map vW), B]) (fun (i : { j : Nat // j ≤ 80 }) => 80 - i.1) rfl (⟨0, Nat.zero_le _⟩) ?_ ?_ (fun i => ?_)
   · exact ⟨rfl, rfl, rfl, rfl, rfl, trivial⟩
   ·
    exact ent_step (ce_norm (by rfl) (by rfl)) ent_pick
   obtain ⟨q, hq⟩ := i
   dsimp only
   try dsimp only
   refine Qc (k:=Vv (k:=Wq (Za (k:=Zi (t:=fun h81 => ?_) (f:=fun h81 => ?_)))))
   ·
    refine Zk (k:=Ya (Za (k:=Zb (k:=Za (k:=?_)))))
    obtain ⟨s, hs⟩ : ∃ s, s = roundsW ws h q := ⟨_, rfl⟩
    have hs2 : roundsW ws h (q + 1) = roundW ws q s := by rw [hs]; rfl
    rw [← hs]
    have hsl5 : s.list.length = 5 := rfl
    have hmx : mixW q s.b s.c s.d = if q / 20 = 0 then ((s.b &&& s.c) ||| (~~~s.b &&& s.d), 0x5a827999) else if q / 20 = 1 then (s.b ^^^ s.c ^^^ s.d, 0x6ed9eba1) else if q / 20 = 2 then ((s.b &&& s.c) ||| (s.b &&& s.d) ||| (s.c &&& s.d), 0x8f1bbcdc) else (s.b ^^^ s.c ^^^ s.d, 0xca62c1d6) := rfl
    refine Zr (k:=Qv (k:=Wq (Qc (k:=?_))))
    refine wo_pv (pv_aindex1 (m := 1) Tryz.underlying103 ti102 rfl rfl rfl (by first | rfl | omega) (by omega)) rfl ?_
    refine Zd (k:=?_)
    refine wo_pv (pv_aindex1 (m := 2) Tryz.underlying103 ti102 rfl rfl rfl (by first | rfl | omega) (by omega)) rfl ?_
    refine Zd (k:=?_)
    refine wo_pv (pv_andW rfl rfl) rfl ?_
    refine wo_pv (pv_aindex1 (m := 1) Tryz.underlying103 ti102 rfl rfl rfl (by first | rfl | omega) (by omega)) rfl ?_
    refine Zd (k:=?_)
    refine wo_pv (pv_notW rfl) rfl ?_
    refine wo_pv (pv_aindex1 (m := 3) Tryz.underlying103 ti102 rfl rfl rfl (by first | rfl | omega) (by omega)) rfl ?_
    refine Zd (k:=?_)
    refine wo_pv (pv_andW rfl rfl) rfl ?_
    refine wo_pv (pv_orW rfl rfl) rfl ?_
    refine Qv (k:=Wq ?_)
    refine p_cut (fun (u : Unit) => [(2, .pointer (some ⟨b2, 0, none⟩)), (4, .pointer (some ⟨b4, 0, none⟩)), (5, .pointer (some ⟨b5, 0, none⟩)), (8, .pointer (some ⟨b8, 0, none⟩)), (9, vI q), (10, vW (mixW q s.b s.c s.d).1), (11, vW (mixW q s.b s.c s.d).2), (80, vI q)]) (fun (u : Unit) => [Ce b8 103 (s.list.map vW), Ce b5 165 (ws.map vW), Ce b2 103 (h.list.map vW), Ce b4 103 ((List.replicate 5 (0 : UInt32)).map vW), B]) rfl (fun u => ?_) ?_
    ·
     try dsimp only
     refine Za (k:=Dw [Ce b8 103 (s.list.map vW), Ce b5 165 (ws.map vW)] (k:=?_))
     refine d_first 0 rfl rfl rfl (by kernel_rfl) (by kernel_rfl) (tl_pv (pv_aindex1 (m := 0) Tryz.underlying103 ti102 rfl rfl rfl (by first | rfl | omega) (by omega))) ?_
     refine Di 1 (t:=Ul) (k:=Dv 3 (k:=?_))
     refine d_first 5 rfl rfl rfl (by kernel_rfl) (by kernel_rfl) (tl_pv (pv_aindex1 (m := 4) Tryz.underlying103 ti102 rfl rfl rfl (by first | rfl | omega) (by omega))) ?_
     refine Di 6 (t:=Ul) (k:=Dv 8 (k:=Dv 10 (k:=?_)))
     refine d_first 11 rfl rfl rfl (by kernel_rfl) (by kernel_rfl) (tl_pv (pv_aindex1 Tryz.underlying165 ti102 rfl rfl rfl (by first | rfl | omega) (by omega))) ?_
     refine d_first 12 rfl rfl rfl (by kernel_rfl) (by kernel_rfl) (tl_load Tryz.underlying102 rfl rfl (vW_getD (m := q) (by omega))) ?_
     refine Dn 2 (k:=?_)
     refine an_callF (ref1_turn_sp _ 5 (.inr (.inl rfl))) rfl rfl rfl ?_
     refine d_first 4 rfl rfl rfl (by kernel_rfl) (by kernel_rfl) (tl_pv (pv_addW rfl rfl)) ?_
     refine d_first 7 rfl rfl rfl (by kernel_rfl) (by kernel_rfl) (tl_pv (pv_addW rfl rfl)) ?_
     refine d_first 9 rfl rfl rfl (by kernel_rfl) (by kernel_rfl) (tl_pv (pv_addW rfl rfl)) ?_
     refine d_first 13 rfl rfl rfl (by kernel_rfl) (by kernel_rfl) (tl_pv (pv_addW rfl rfl)) ?_
     refine Dv 14 (k:=Dd (k:=Ya (Dw [Ce b8 103 (s.list.map vW)] (k:=?_))))
     refine Dv 0 (k:=?_)
     refine d_first 1 rfl rfl rfl (by kernel_rfl) (by kernel_rfl) (tl_pv (pv_aindex1 (m := 0) Tryz.underlying103 ti102 rfl rfl rfl (by first | rfl | omega) (by omega))) ?_
     refine Di 2 (t:=Ul) (k:=?_)
     refine d_first 3 rfl rfl rfl (by kernel_rfl) (by kernel_rfl) (tl_pv (pv_aindex1 (m := 1) Tryz.underlying103 ti102 rfl rfl rfl (by first | rfl | omega) (by omega))) ?_
     refine Di 4 (t:=Ul) (k:=?_)
     refine d_first 6 rfl rfl rfl (by kernel_rfl) (by kernel_rfl) (tl_pv (pv_aindex1 (m := 2) Tryz.underlying103 ti102 rfl rfl rfl (by first | rfl | omega) (by omega))) ?_
     refine Di 7 (t:=Ul) (k:=?_)
     refine d_first 8 rfl rfl rfl (by kernel_rfl) (by kernel_rfl) (tl_pv (pv_aindex1 (m := 3) Tryz.underlying103 ti102 rfl rfl rfl (by first | rfl | omega) (by omega))) ?_
     refine Di 9 (t:=Ul) (k:=Dn 5 (k:=?_))
     refine an_callF (ref1_turn_sp _ 30 (.inr (.inr rfl))) rfl rfl rfl ?_
     refine d_first 10 rfl rfl rfl (by kernel_rfl) (by kernel_rfl) (tl_pv (pv_buildA (vs := [_, _, _, _, _]) Tryz.underlying103 ti102 rfl rfl rfl ti103 rfl rfl)) ?_
     refine d_last 11 (by kernel_rfl) rfl (by kernel_rfl) (by kernel_rfl) ?_
     refine Na (k:=Yb (Ya (Zr (k:=Qv (k:=Wn ?_)))))
     refine to_inv ⟨q + 1, by omega⟩ (by dsimp only; omega) ⟨rfl, rfl, rfl, rfl, rfl, trivial⟩ ?_
     dsimp only
     rw [hs2]
     exact ent_step (ce_norm (by rfl) (by rfl)) ent_pick
    ·
     refine Zb (k:=Qc (k:=Qv (k:=Vv (k:=Wq (Zi (t:=fun h95 => ?_) (f:=fun h95 => ?_))))))
     ·
      refine Zr (k:=?_)
      refine wo_pv (pv_aindex1 (m := 1) Tryz.underlying103 ti102 rfl rfl rfl (by first | rfl | omega) (by omega)) rfl ?_
      refine Zd (k:=?_)
      refine wo_pv (pv_aindex1 (m := 2) Tryz.underlying103 ti102 rfl rfl rfl (by first | rfl | omega) (by omega)) rfl ?_
      refine Zd (k:=?_)
      refine wo_pv (pv_xorW rfl rfl) rfl ?_
      refine wo_pv (pv_aindex1 (m := 3) Tryz.underlying103 ti102 rfl rfl rfl (by first | rfl | omega) (by omega)) rfl ?_
      refine Zd (k:=?_)
      refine wo_pv (pv_xorW rfl rfl) rfl ?_
      refine Qv (k:=Wn (Yb ?_))
      exact zb48join22
     ·
      refine Qc (k:=Qv (k:=Vv (k:=Wq (Zi (t:=fun h106 => ?_) (f:=fun h106 => ?_)))))
      ·
       refine Zr (k:=?_)
       refine wo_pv (pv_aindex1 (m := 1) Tryz.underlying103 ti102 rfl rfl rfl (by first | rfl | omega) (by omega)) rfl ?_
       refine Zd (k:=?_)
       refine wo_pv (pv_aindex1 (m := 2) Tryz.underlying103 ti102 rfl rfl rfl (by first | rfl | omega) (by omega)) rfl ?_
       refine Zd (k:=?_)
       refine wo_pv (pv_andW rfl rfl) rfl ?_
       refine wo_pv (pv_aindex1 (m := 1) Tryz.underlying103 ti102 rfl rfl rfl (by first | rfl | omega) (by omega)) rfl ?_
       refine Zd (k:=?_)
       refine wo_pv (pv_aindex1 (m := 3) Tryz.underlying103 ti102 rfl rfl rfl (by first | rfl | omega) (by omega)) rfl ?_
       refine Zd (k:=?_)
       refine wo_pv (pv_andW rfl rfl) rfl ?_
       refine wo_pv (pv_orW rfl rfl) rfl ?_
       refine wo_pv (pv_aindex1 (m := 2) Tryz.underlying103 ti102 rfl rfl rfl (by first | rfl | omega) (by omega)) rfl ?_
       refine Zd (k:=?_)
       refine wo_pv (pv_aindex1 (m := 3) Tryz.underlying103 ti102 rfl rfl rfl (by first | rfl | omega) (by omega)) rfl ?_
       refine Zd (k:=?_)
       refine wo_pv (pv_andW rfl rfl) rfl ?_
       refine wo_pv (pv_orW rfl rfl) rfl ?_
       refine Qv (k:=Wn (Yb ?_))
       exact zb48join22
      ·
       refine Qc (k:=Qv (k:=Vv (k:=Wq (Zi (t:=fun h126 => ?_) (f:=fun h126 => ?_)))))
       ·
        refine Zr (k:=?_)
        refine wo_pv (pv_aindex1 (m := 1) Tryz.underlying103 ti102 rfl rfl rfl (by first | rfl | omega) (by omega)) rfl ?_
        refine Zd (k:=?_)
        refine wo_pv (pv_aindex1 (m := 2) Tryz.underlying103 ti102 rfl rfl rfl (by first | rfl | omega) (by omega)) rfl ?_
        refine Zd (k:=?_)
        refine wo_pv (pv_xorW rfl rfl) rfl ?_
        refine wo_pv (pv_aindex1 (m := 3) Tryz.underlying103 ti102 rfl rfl rfl (by first | rfl | omega) (by omega)) rfl ?_
        refine Zd (k:=?_)
        refine wo_pv (pv_xorW rfl rfl) rfl ?_
        refine Qv (k:=Wn (Yb ?_))
        exact zb48join22
       ·
        refine Zk (k:=Yb ?_)
        exact zb48join22
   ·
    refine Ze (k:=Xa (Xi (Xb (Ya (Za (k:=Za (k:=?_)))))))
    have hq80 : q = 80 := by omega
    subst hq80
    obtain ⟨s, hs⟩ : ∃ s, s = roundsW ws h 80 := ⟨_, rfl⟩
    dsimp only at htk
    rw [← hs] at htk ⊢
    have hh5 : h.list.length = 5 := rfl
    have hs5 : s.list.length = 5 := rfl
    refine Zr (k:=Vv (k:=Wq (Zb (k:=?_))))
    refine p_loop (fun (i : { m : Nat // m ≤ 5 }) => [(2, .pointer (some ⟨b2, 0, none⟩)), (4, .pointer (some ⟨b4, 0, none⟩)), (8, .pointer (some ⟨b8, 0, none⟩)), (163, vI i.1)]) (fun (i : { m : Nat // m ≤ 5 }) => [Ce b2 103 ((addL h.list s.list i.1).map vW), Ce b8 103 (s.list.map vW), Ce b4 103 ((List.replicate 5 (0 : UInt32)).map vW), B]) (fun (i : { m : Nat // m ≤ 5 }) => 5 - i.1) rfl (⟨0, Nat.zero_le _⟩) ?_ ?_ (fun i => ?_)
    · exact ⟨rfl, rfl, rfl, rfl, trivial⟩
    ·
     exact ent_step (ce_norm (by rfl) (by rfl)) ent_pick
    obtain ⟨m, hm⟩ := i
    dsimp only
    have hal := addL_len (h := h.list) (s := s.list) (i := m) rfl hm
    try dsimp only
    refine Qc (k:=Vv (k:=Wq (Za (k:=Zi (t:=fun h164 => ?_) (f:=fun h164 => ?_)))))
    ·
     refine Zk (k:=Ya (Za (k:=Zb (k:=Qc (k:=Qv (k:=Wq (Dw [Ce b8 103 (s.list.map vW)] (k:=?_))))))))
     refine Dv 0 (k:=Dv 1 (k:=?_))
     refine d_first 2 rfl rfl rfl (by kernel_rfl) (by kernel_rfl) (tl_pv (pv_aindex1 Tryz.underlying103 ti102 rfl rfl rfl (by first | rfl | omega) (by omega))) ?_
     refine Dv 4 (k:=?_)
     refine d_first 5 rfl rfl rfl (by kernel_rfl) (by kernel_rfl) (tl_pv (pv_aindex1 Tryz.underlying103 ti102 rfl rfl rfl (by first | rfl | omega) (by omega))) ?_
     refine d_first 6 rfl rfl rfl (by kernel_rfl) (by kernel_rfl) (tl_load Tryz.underlying102 rfl rfl (vW_getD (m := m) (by omega))) ?_
     refine Dn 3 (k:=?_)
     refine an_load Tryz.underlying102 rfl rfl ((vW_getD (m := m) (by omega)).trans (by rw [addL_get (hh5.trans hs5.symm) (by omega)])) rfl ?_
     refine d_first 7 rfl rfl rfl (by kernel_rfl) (by kernel_rfl) (tl_pv (pv_addW rfl rfl)) ?_
     refine d_first 8 rfl rfl rfl (by kernel_rfl) (by kernel_rfl) (tl_pv (pv_aindex1 Tryz.underlying103 ti102 rfl rfl rfl (by first | rfl | omega) (by omega))) ?_
     refine Dn 9 (k:=No (k:=Dd (k:=Yb (Ya (Zr (k:=Qv (k:=Wn ?_)))))))
     refine to_inv ⟨m + 1, by omega⟩ (by dsimp only; omega) ⟨rfl, rfl, rfl, rfl, trivial⟩ ?_
     dsimp only
     rw [← addL_set (hh5.trans hs5.symm) (by omega)]
     exact ent_step (ce_norm (by rfl) (by rw [List.map_set])) ent_pick
    ·
     refine Ze (k:=Xa (Xi (Xb (Ya (Za (k:=?_))))))
     have hm5 : m = 5 := by omega
     subst hm5
     have hfin : addL h.list s.list 5 = (takeW h b).list := by rw [htk]; rfl
     rw [hfin]
     generalize takeW h b = tk
     refine Zr (k:=Zm [_, _, _, _, _] (k:=Zp (k:=Wq (Zt (k:=?_)))))
     refine fin_ret () (vs := [_]) (Cs := [Ce b4 103 (tk.list.map vW)]) rfl (.cell (l := tk.list.map vW) (us := tk.list.map vW) rfl (shows_ce (T := 103)) Tryz.underlying103 rfl ti103 (Nat.le_refl 5) rfl .nil) rfl trivial ?_
     exact (ce_norm (b := b4) (l := tk.list.map vW) (T := 103) (by rfl) (by rfl)).trans ent_pick
end
end Go.Proofs.YtibccdcemcgkeaaGreat
