/- Texts of this proof, put together: SCompact, SKind, SRSha, RowZ, RowZ2. -/
import Derived.Laws.IdiomStrings
import Derived.Test.YtdnoacgopfcpbaaGreatQ15
set_option linter.unusedVariables false
set_option linter.unusedSimpArgs false
namespace Go.Proofs.YtdnoacgopfcpbaaGreat
section
set_option maxRecDepth 100000
section
variable {r : Option Nat} {P : Program} {n : Nat} {ops : Array Oper} {os : List Oper} {A : List HP} {L : Loc} {Hs : List HP} {Q : Out} {ty : TypeId} {d : Nat} {pos : String} {after : Array Edge} {c : Code}
theorem zeroCells_one (z : Value) (m : Nat) : (Builtin.zeroCells #[z] m).toList = List.replicate m z := by
 apply List.ext_getElem
 · simp [Builtin.zeroCells]
 · intro i h1 h2
   simp [Builtin.zeroCells, Nat.mod_one]
/-- clear(s[m:]). -/
theorem opt_clear {dst : Option Tmp} {t e : TypeId} {x : Operand} {ti : TypeInfo} {z : Value} {a : Option Addr} {n' c' k m q : Nat} {xs : List Value} (ht : P.underlying t = some (.slice e)) (hi : P.info? e = some ti) (hz : ti.zero = some z) (hzc : z.cells = #[z]) (hz1 : oneCell z = true)
    (hx : ev L x = some (.slice (elemA a m) q (c' - m))) (hq : 0 < q) (hmk : m + q = k) (hkc : m < c') :
    OpT r P n ⟨dst, .call ⟨.builtin .clear, #[x], #[t]⟩, ty, pos, after, none⟩ A L [Row e 1 (.slice a n' c') k xs] (fun _ : Unit => .tuple #[]) (fun _ => True) (fun _ => [Row e 1 (.slice a n' c') k (setAt xs m (List.replicate q z))]) := by
 refine opt_turn (fun ac f w M h1' hf dj tt hr => ?_)
 rcases hr with ⟨h0, h01, e1⟩ | ⟨g, cap, cur, e1, e2, e3, e4, e5, e6, e7⟩
 · omega
 · cases e1
   subst e7
   have hb : w.heap[g]? = some (.cells cur.toArray e (0, 0)) := tt.ow _ _ (by simp [Res.add, Res.one])
   rw [Nat.mul_one] at e4 e5 e6
   have hcl : (cur.take n').length = n' := by rw [e6, e5]
   have hcm : n' ≤ cur.length := by rw [List.length_take] at hcl; omega
   obtain ⟨w', hr, hb', ho', he'⟩ := run_storeCells_ce (P := P) (List.replicate q z) w cur (0 + m) 0 hb (by simp [hz1]) (by simp; omega)
   refine ⟨w', Res.one g (.cells (setAt cur m (List.replicate q z)).toArray e (0, 0)), dj_one_any dj, Sat.setBlk dj tt (by simpa using hb') ho' he', .inr ⟨g, c', setAt cur m (List.replicate q z), rfl, e2, e3, by rw [length_setAt, Nat.mul_one]; exact e4, by rw [length_setAt, Nat.mul_one]; exact e5, ?_, rfl⟩, .inl ?_⟩
   · rw [Nat.mul_one, setAt_take _ _ _ _ (by simp; omega), e6]
   · have hr' : (storeCells ⟨g, m, none⟩ (List.replicate q z)).run P w = .ok () w' := by simpa using hr
     have hq0 : q ≠ 0 := by omega
     simp [execOp, resolve, f.ev hx, elemA, invoke, builtin, Builtin.clear_, run_underlying ht, zeroValue, typeInfo, program, Sem.run, hi, hz, hzc, zeroCells_one, hr']
theorem row_shrink {e sz : Nat} {ad : Option Addr} {n' c' k m : Nat} {xs : List Value} {M : Kn} {h : Res} (x : (Row e sz (.slice ad n' c') k xs).at_ M h) (hm : m ≤ k) (hs : 0 < sz) : (Row e sz (.slice ad m c') m (xs.take (m * sz))).at_ M h := by
 rcases x with ⟨h1, h2, h3⟩ | ⟨g, cap, cur, e1, e2, e3, e4, e5, e6, e7⟩
 · cases h1
   subst h2
   have : m = 0 := by omega
   subst this
   subst h3
   exact .inl ⟨rfl, rfl, by simp⟩
 · cases e1
   refine .inr ⟨g, c', cur, rfl, by omega, e3, e4, ?_, ?_, e7⟩
   · rw [List.length_take, e5]; exact Nat.min_eq_left (Nat.mul_le_mul_right _ hm)
   · rw [← e6, List.take_take, Nat.min_eq_left (Nat.mul_le_mul_right _ hm)]
end
theorem setAt_tk : ∀ (vs l : List Value) (k : Nat), (setAt l k vs).take k = l.take k := by
 intro vs
 induction vs with
 | nil => intros; rfl
 | cons v vs ih =>
   intro l k
   simp only [setAt]
   have h1 : (setAt (l.set k v) (k + 1) vs).take k = ((setAt (l.set k v) (k + 1) vs).take (k + 1)).take k := by rw [List.take_take, Nat.min_eq_left (by omega)]
   rw [h1, ih, List.take_take, Nat.min_eq_left (by omega), List.take_set_of_le (Nat.le_refl _)]
def dedS (l : List Bs) : List Bs := l.foldl (fun acc x => if acc.getLast? = some x then acc else acc ++ [x]) []
theorem dedS_snoc (l : List Bs) (x : Bs) : dedS (l ++ [x]) = if (dedS l).getLast? = some x then dedS l else dedS l ++ [x] := by
 simp only [dedS, List.foldl_append, List.foldl_cons, List.foldl_nil]
 rfl
theorem list_snoc_ind {α : Type} {p : List α → Prop} (h0 : p []) (h1 : ∀ l x, p l → p (l ++ [x])) : ∀ l, p l := by
 have key : ∀ n (l : List α), l.length = n → p l := by
  intro n
  induction n with
  | zero => intro l h; rw [List.eq_nil_of_length_eq_zero h]; exact h0
  | succ n ih =>
    intro l h
    have hl : l ≠ [] := fun e => by rw [e] at h; simp at h
    rw [← List.dropLast_concat_getLast hl]
    exact h1 _ _ (ih _ (by simp [h]))
 exact fun l => key _ l rfl
theorem dedS_last (l : List Bs) : (dedS l).getLast? = l.getLast? := by
 induction l using list_snoc_ind with
 | h0 => rfl
 | h1 l x ih =>
   rw [dedS_snoc]
   split
   · rename_i h; rw [h]; simp
   · simp
theorem dedS_take {l : List Bs} {j : Nat} (h0 : 0 < j) (h : j < l.length) : dedS (l.take (j + 1)) = if l.getD (j - 1) [] = l.getD j [] then dedS (l.take j) else dedS (l.take j) ++ [l.getD j []] := by
 have e : (l.take j).getLast? = some (l.getD (j - 1) []) := by
  rw [List.getLast?_eq_getElem?, List.length_take, Nat.min_eq_left (by omega), List.getElem?_take_of_lt (by omega)]
  simp [show j - 1 < l.length by omega]
 rw [List.take_succ_eq_append_getElem h, dedS_snoc, dedS_last, e]
 have hg : l[j] = l.getD j [] := by simp [h]
 rw [hg]
 simp only [Option.some.injEq]
theorem zb190next1 {G : Prop} (h : G := by
    rw [hgd, hgd] at h44
    rw [show j + (k2 - 1) = j + k2 - 1 from by omega] at h44
    first
    | (rw [if_neg (fun e => h44 e.symm)] at hdt2
       refine to_inv ⟨(cur.set k (cur.getD (j + k2) []), k + 1, k2 + 1), ?_, ?_, ?_, ?_, ?_, ?_, ?_⟩ ?_ ⟨rfl, rfl, rfl, rfl, trivial⟩ ?_
       · dsimp only; rw [List.length_set]; exact hcl
       · dsimp only
         rw [show j + (k2 + 1) = j + k2 + 1 from by omega, hdt2, List.take_succ_eq_append_getElem (by rw [List.length_set]; omega)]
         congr 1
         · rw [List.take_set_of_le (Nat.le_refl _)]
         · simp
       · dsimp only; omega
       · dsimp only; omega
       · dsimp only; omega
       · dsimp only; omega
       · intro i hi
         dsimp only at hi ⊢
         rw [List.getD_eq_getElem?_getD, List.getElem?_set_ne (by omega), ← List.getD_eq_getElem?_getD]
         exact hold i (by omega)
       · dsimp only; omega
       · dsimp only
         rw [← hgd]
         exact ent_step (row_norm (by rfl) (by rw [List.map_set])) ent_nil)
    | (have he : cur.getD (j + k2 - 1) [] = cur.getD (j + k2) [] := (Classical.not_not.1 h44).symm
       rw [if_pos he] at hdt2
       refine to_inv ⟨(cur, k, k2 + 1), hcl, ?_, hjk, ?_, ?_, ?_, fun i hi => hold i (by dsimp only at hi; omega)⟩ ?_ ⟨rfl, rfl, rfl, rfl, trivial⟩ ent_pick
       · dsimp only
         rw [show j + (k2 + 1) = j + k2 + 1 from by omega, hdt2]
       · dsimp only; omega
       · dsimp only; omega
       · dsimp only; omega
       · dsimp only; omega)) : G := h
set_option maxHeartbeats 2000000 in
theorem slices_Compact_sp (a : Option Addr) (n c : Nat) (l : List Bs) (hn : l.length = n) (hb : n ≤ 1073741824) :
    Sp Tryz.prog 190 [.slice a n c] [Row 9 1 (.slice a n c) n (l.map vS)] (X := Nat) (fun k => .slice a k c) (fun k => k = (dedS l).length) (fun k => [Row 9 1 (.slice a k c) k ((dedS l).map vS)]) := by
 subst hn
 refine Sp.body (n := 61) Tryz.call190 Tryz.func190 rfl rfl rfl ?_
 refine wc_know (A := Row 9 1 (.slice a l.length c) l.length (l.map vS)) HasC.get row_know (fun hk => ?_)
 obtain ⟨hlc, _, hsp⟩ := hk
 refine Qc (k:=Vv (k:=Wq (Za (k:=Qc (k:=Qv (k:=Vv (k:=Wq (Zi (t:=fun h8 => ?_) (f:=fun h8 => ?_)))))))))
 ·
  refine Qc (k:=Qv (k:=Wq (Zt (k:=Va ?_))))
  have hd : dedS l = l := by
   match l, h8 with
   | [], _ => rfl
   | [x], _ => rfl
   | _ :: _ :: _, h => simp at h; omega
  refine fin_ret l.length (vs := [_]) (Cs := []) rfl (.tmp rfl .nil) rfl (by rw [hd]) ?_
  rw [hd]; exact ent_pick
 ·
  refine Zk (k:=Ya (Za (k:=Qc (k:=Vv (k:=Wq (Zb (k:=?_)))))))
  refine p_loop (fun (i : { j : Nat // 1 ≤ j ∧ j ≤ l.length ∧ dedS (l.take j) = l.take j }) => [(0, .slice a l.length c), (3, vI i.1)]) (fun (i : { j : Nat // 1 ≤ j ∧ j ≤ l.length ∧ dedS (l.take j) = l.take j }) => [Row 9 1 (.slice a l.length c) l.length (l.map vS)]) (fun (i : { j : Nat // 1 ≤ j ∧ j ≤ l.length ∧ dedS (l.take j) = l.take j }) => l.length - i.1) rfl (⟨1, Nat.le_refl _, by omega, by cases l <;> rfl⟩) ?_ ?_ (fun i => ?_)
  · exact ⟨rfl, rfl, trivial⟩
  ·
   exact ent_pick
  obtain ⟨j, hj1, hj, hd⟩ := i
  dsimp only
  try dsimp only
  refine Za (k:=Qc (k:=Qv (k:=Qv (k:=Wq (Zi (t:=fun h13 => ?_) (f:=fun h13 => ?_))))))
  ·
   refine Zk (k:=Ya (Za (k:=Zb (k:=Za (k:=?_)))))
   have hjl : j < l.length := by omega
   have hdt := dedS_take (l := l) (j := j) (by omega) hjl
   rw [hd] at hdt
   refine Dw [Row 9 1 (.slice a l.length c) l.length (l.map vS)] (k:=?_)
   refine Dv 0 (k:=Dv 1 (k:=?_))
   refine d_first 2 rfl rfl rfl (by kernel_rfl) (by kernel_rfl) (tl_elemAddr (sz := 1) Tryz.underlying27 ti9 rfl rfl rfl rfl (by omega) (by first | (rw [List.length_map]; omega) | (rw [flat_len (sz := 1) (fun _ => rfl)]; omega) | (simp; omega)) (Nat.mul_one _)) ?_
   refine d_first 3 rfl rfl rfl (by kernel_rfl) (by kernel_rfl) (tl_eload Tryz.underlying9 rfl rfl (get_mapD [] (m := j) hjl)) ?_
   refine Dv 4 (k:=Dv 5 (k:=Dv 6 (k:=?_)))
   refine d_first 7 rfl rfl rfl (by kernel_rfl) (by kernel_rfl) (tl_elemAddr (sz := 1) (m := j - 1) (kk := j - 1) Tryz.underlying27 ti9 rfl rfl rfl (by omega) (by omega) (by rw [List.length_map]; omega) (Nat.mul_one _)) ?_
   refine d_first 8 rfl rfl rfl (by kernel_rfl) (by kernel_rfl) (tl_eload Tryz.underlying9 rfl rfl (get_mapD [] (m := j - 1) (by omega))) ?_
   refine Dv 9 (k:=Dd (k:=Ya (Zi (t:=fun h25 => ?_) (f:=fun h25 => ?_))))
   ·
    refine Qc (k:=Qv (k:=?_))
    refine wo_pv (pv_slslice_fromm (m := j) (kk := j) Tryz.underlying27 ti9 rfl rfl rfl rfl (Nat.mul_one _) (by omega) (by omega) hsp) rfl ?_
    rw [if_pos h25.symm] at hdt
    refine Vv (k:=Wq (Za (k:=Qc (k:=Vv (k:=Wq (Zb (k:=?_)))))))
    refine p_loop (fun (i : { x : List Bs × Nat × Nat // x.1.length = l.length ∧ x.1.take x.2.1 = dedS (l.take (j + x.2.2)) ∧ j ≤ x.2.1 ∧ x.2.1 + 1 ≤ j + x.2.2 ∧ 1 ≤ x.2.2 ∧ x.2.2 ≤ l.length - j ∧ ∀ i, j + x.2.2 ≤ i + 1 → x.1.getD i [] = l.getD i [] }) => [(0, .slice a l.length c), (3, vI i.1.2.1), (4, .slice (elemA a j) (l.length - j) (c - j)), (5, vI i.1.2.2)]) (fun (i : { x : List Bs × Nat × Nat // x.1.length = l.length ∧ x.1.take x.2.1 = dedS (l.take (j + x.2.2)) ∧ j ≤ x.2.1 ∧ x.2.1 + 1 ≤ j + x.2.2 ∧ 1 ≤ x.2.2 ∧ x.2.2 ≤ l.length - j ∧ ∀ i, j + x.2.2 ≤ i + 1 → x.1.getD i [] = l.getD i [] }) => [Row 9 1 (.slice a l.length c) l.length (i.1.1.map vS)]) (fun (i : { x : List Bs × Nat × Nat // x.1.length = l.length ∧ x.1.take x.2.1 = dedS (l.take (j + x.2.2)) ∧ j ≤ x.2.1 ∧ x.2.1 + 1 ≤ j + x.2.2 ∧ 1 ≤ x.2.2 ∧ x.2.2 ≤ l.length - j ∧ ∀ i, j + x.2.2 ≤ i + 1 → x.1.getD i [] = l.getD i [] }) => l.length - j - i.1.2.2) rfl (⟨(l, j, 1), rfl, hdt.symm, Nat.le_refl _, Nat.le_refl _, Nat.le_refl _, (show 1 ≤ l.length - j by omega), fun i _ => rfl⟩) ?_ ?_ (fun i => ?_)
    · exact ⟨rfl, rfl, rfl, rfl, trivial⟩
    ·
     exact ent_pick
    obtain ⟨⟨cur, k, k2⟩, hcl, htk, hjk, hk2, hk21, hk2n, hold⟩ := i
    dsimp only at hcl htk hjk hk2 hk21 hk2n hold ⊢
    have hsl : SlA (Row 9 1 (.slice a l.length c) l.length (cur.map vS)) (elemA a j) ((cur.drop j).map vS) := by
     have h : SlA (Row 9 1 (.slice a l.length c) l.length (cur.map vS)) (fromA a j c j) ((cur.map vS).drop j) := sla_from (e := 9) (sz := 1) (k := l.length) (n' := l.length) (c' := c) (a := a) (xs := cur.map vS) (m := j) (kk := j) (Nat.mul_one _) (by omega)
     rw [show fromA a j c j = elemA a j from by rw [fromA, if_pos (by omega)]] at h
     rw [List.map_drop]
     exact @h
    haveI hrd : RdSl (elemA a j) ((cur.drop j).map vS) [Row 9 1 (.slice a l.length c) l.length (cur.map vS)] := ⟨⟨_, hsl, .here⟩⟩
    have hdl : (cur.drop j).length = l.length - j := by rw [List.length_drop, hcl]
    have hgd : ∀ i, (cur.drop j).getD i [] = cur.getD (j + i) [] := fun i => by simp [List.getD_eq_getElem?_getD, List.getElem?_drop]
    try dsimp only
    refine Za (k:=Qc (k:=Qv (k:=Qv (k:=Wq (Zi (t:=fun h32 => ?_) (f:=fun h32 => ?_))))))
    ·
     refine Zk (k:=Ya (Za (k:=Zb (k:=Za (k:=?_)))))
     have hkl : k2 < l.length - j := by omega
     have hdt2 := dedS_take (l := l) (j := j + k2) (by omega) (by omega)
     have ho1 := hold (j + k2) (by omega)
     have ho2 := hold (j + k2 - 1) (by omega)
     rw [← ho1, ← ho2, ← htk] at hdt2
     refine Dw [Row 9 1 (.slice a l.length c) l.length (cur.map vS)] (k:=?_)
     refine Dv 0 (k:=Dv 1 (k:=?_))
     refine d_first 2 rfl rfl rfl (by kernel_rfl) (by kernel_rfl) (tl_elemAddr (sz := 1) (m := k2) (kk := k2) (xs := (cur.drop j).map vS) Tryz.underlying27 ti9 rfl rfl rfl rfl (by omega) (by rw [List.length_map]; omega) (Nat.mul_one _)) ?_
     refine d_first 3 rfl rfl rfl (by kernel_rfl) (by kernel_rfl) (tl_eload (xs := (cur.drop j).map vS) Tryz.underlying9 rfl rfl (get_mapD [] (m := k2) (by omega))) ?_
     refine Dv 4 (k:=Dv 5 (k:=Dv 6 (k:=?_)))
     refine d_first 7 rfl rfl rfl (by kernel_rfl) (by kernel_rfl) (tl_elemAddr (sz := 1) (m := k2 - 1) (kk := k2 - 1) (xs := (cur.drop j).map vS) Tryz.underlying27 ti9 rfl rfl rfl (by omega) (by omega) (by rw [List.length_map]; omega) (Nat.mul_one _)) ?_
     refine d_first 8 rfl rfl rfl (by kernel_rfl) (by kernel_rfl) (tl_eload (xs := (cur.drop j).map vS) Tryz.underlying9 rfl rfl (get_mapD [] (m := k2 - 1) (by omega))) ?_
     refine Dv 9 (k:=Dd (k:=Ya (Zi (t:=fun h44 => ?_) (f:=fun h44 => ?_))))
     ·
      refine Qc (k:=Qv (k:=Qv (k:=?_)))
      refine r_elemAddr (sz := 1) (m := k2) (kk := k2) (xs := (cur.drop j).map vS) Tryz.underlying27 ti9 rfl rfl rfl rfl (by omega) (by rw [List.length_map]; omega) (Nat.mul_one _) rfl ?_
      refine r_eload (xs := (cur.drop j).map vS) Tryz.underlying9 rfl rfl (get_mapD [] (m := k2) (by omega)) rfl ?_
      refine Ye 1 (k:=?_)
      refine r_estore ti9 rfl rfl rfl rfl (by first | (rw [List.length_map]; omega) | (rw [flat_len (fun _ => rfl)]; omega) | (simp; omega)) ?_
      refine Wq (Zr (k:=Qv (k:=Vv (k:=Wn (Yb (Ya (Zr (k:=Qv (k:=Vv (k:=?_))))))))))
      refine Wn ?_
      exact zb190next1
     ·
      refine Zk (k:=Yb (Ya (Zr (k:=Qv (k:=Vv (k:=Wn ?_))))))
      exact zb190next1
    ·
     refine Ze (k:=Xa (Xi (Xb (Ya (Za (k:=?_))))))
     have hkl : j + k2 = l.length := by omega
     rw [hkl, List.take_length] at htk
     have hdk : (dedS l).length = k := by rw [← htk, List.length_take, hcl]; omega
     refine Zr (k:=Qv (k:=?_))
     refine wo_pv (pv_slslice_fromm (m := k) (kk := k) Tryz.underlying27 ti9 rfl rfl rfl rfl (Nat.mul_one _) (by omega) (by omega) hsp) rfl ?_
     refine wo_opT (by intro c; simp) (opt_clear (z := vS []) Tryz.underlying27 ti9 rfl rfl rfl rfl (show 0 < l.length - k by omega) (show k + (l.length - k) = l.length by omega) (show k < c by omega) (n' := l.length) (xs := cur.map vS)) rfl (fun _ _ => ?_)
     refine Wq (Qc (k:=Qv (k:=?_)))
     refine wo_pv (pv_slslice_tom (m := k) Tryz.underlying27 ti9 rfl rfl rfl (by omega)) rfl ?_
     refine Vv (k:=Wq (Zt (k:=Vb (Va (Vi (Vb (Va ?_)))))))
     refine fin_ret k (vs := [_]) (Cs := []) rfl (.tmp rfl .nil) rfl hdk.symm ⟨fun {M h} s => ?_⟩
     obtain ⟨g1, g2, dg, e1, hr, _⟩ := s
     refine ⟨g1, g2, dg, e1, ?_, trivial⟩
     have := row_shrink hr (show k ≤ l.length by omega) (by decide)
     rw [Nat.mul_one, setAt_tk, ← List.map_take, htk] at this
     exact this
   ·
    refine Zk (k:=Yb (Ya (Zr (k:=Qv (k:=Vv (k:=Wn ?_))))))
    rw [if_neg (fun e => h25 e.symm)] at hdt
    refine to_inv ⟨j + 1, by omega, by omega, ?_⟩ (by dsimp only; omega) ⟨rfl, rfl, trivial⟩ ent_pick
    rw [hdt, List.take_succ_eq_append_getElem hjl]
    simp [hjl]
  ·
   refine Ze (k:=Xa (Xi (Xb (Ya (Qc (k:=Qv (k:=Wq (Zt (k:=?_)))))))))
   have hjl : j = l.length := by omega
   rw [hjl, List.take_length] at hd
   refine fin_ret l.length (vs := [_]) (Cs := []) rfl (.tmp rfl .nil) rfl (by rw [hd]) ?_
   rw [hd]; exact ent_pick
end
section
set_option maxRecDepth 100000
theorem readK_right {s : Bs} {c : Ck} (h : readK s = some c) : RightK c := (readK_iff.1 h).1
theorem dedS_len (l : List Bs) : (dedS l).length ≤ l.length := by
 induction l using list_snoc_ind with
 | h0 => exact Nat.le_refl _
 | h1 l x ih => rw [dedS_snoc]; split <;> simp <;> omega
end
section
set_option maxRecDepth 100000
theorem ref1_turn_sp (x : UInt32) (k : Nat) (hk : k = 1 ∨ k = 5 ∨ k = 30) : SpF Tryz.prog 99 [vW x, .int .u64 k] (vW (rotl x k)) := by
 rcases hk with rfl | rfl | rfl
 · skip
   refine Sp.body (n := 13) Tryz.call99 Tryz.func99 rfl rfl rfl ?_
   refine Qc (k:=Vv (k:=Wq (Qc (k:=Qv (k:=?_)))))
   refine wo_pv (pv_shlW (m := 1) rfl rfl rfl (by omega)) rfl ?_
   refine Qv (k:=?_)
   refine wo_pv (pv_subw rfl rfl) rfl ?_
   refine wo_pv (pv_shrW (m := 31) rfl rfl (by decide) (by omega)) rfl ?_
   refine wo_pv (pv_orW rfl rfl) rfl ?_
   refine Vv (k:=Wq (Zt (k:=?_)))
   exact fin_ret () (vs := [_]) (Cs := []) rfl (.tmp rfl .nil) rfl trivial ent_nil
 · skip
   refine Sp.body (n := 13) Tryz.call99 Tryz.func99 rfl rfl rfl ?_
   refine Qc (k:=Vv (k:=Wq (Qc (k:=Qv (k:=?_)))))
   refine wo_pv (pv_shlW (m := 5) rfl rfl rfl (by omega)) rfl ?_
   refine Qv (k:=?_)
   refine wo_pv (pv_subw rfl rfl) rfl ?_
   refine wo_pv (pv_shrW (m := 27) rfl rfl (by decide) (by omega)) rfl ?_
   refine wo_pv (pv_orW rfl rfl) rfl ?_
   refine Vv (k:=Wq (Zt (k:=?_)))
   exact fin_ret () (vs := [_]) (Cs := []) rfl (.tmp rfl .nil) rfl trivial ent_nil
 · skip
   refine Sp.body (n := 13) Tryz.call99 Tryz.func99 rfl rfl rfl ?_
   refine Qc (k:=Vv (k:=Wq (Qc (k:=Qv (k:=?_)))))
   refine wo_pv (pv_shlW (m := 30) rfl rfl rfl (by omega)) rfl ?_
   refine Qv (k:=?_)
   refine wo_pv (pv_subw rfl rfl) rfl ?_
   refine wo_pv (pv_shrW (m := 2) rfl rfl (by decide) (by omega)) rfl ?_
   refine wo_pv (pv_orW rfl rfl) rfl ?_
   refine Vv (k:=Wq (Zt (k:=?_)))
   exact fin_ret () (vs := [_]) (Cs := []) rfl (.tmp rfl .nil) rfl trivial ent_nil
theorem zb49join22 {G : Prop} (h : G := by
    first
    | (rw [if_neg (by omega), if_neg (by omega), if_neg (by omega)] at hmx
       rw [hmx]
       exact to_inv () trivial ⟨rfl, rfl, rfl, rfl, rfl, rfl, rfl, rfl, trivial⟩ ent_pick)
    | (rw [if_neg (by omega), if_neg (by omega), if_pos (by omega)] at hmx
       rw [hmx]
       exact to_inv () trivial ⟨rfl, rfl, rfl, rfl, rfl, rfl, rfl, rfl, trivial⟩ ent_pick)
    | (rw [if_neg (by omega), if_pos (by omega)] at hmx
       rw [hmx]
       exact to_inv () trivial ⟨rfl, rfl, rfl, rfl, rfl, rfl, rfl, rfl, trivial⟩ ent_pick)
    | (rw [if_pos (by omega)] at hmx
       rw [hmx]
       exact to_inv () trivial ⟨rfl, rfl, rfl, rfl, rfl, rfl, rfl, rfl, trivial⟩ ent_pick)) : G := h
theorem ref1_block_sp {B : HP} {a : Option Addr} (c : Nat) (h : W5) (b : Bs) (hb : b.length = 64) (sh : SlA B a (vUs b)) : Sp1 Tryz.prog 49 [.agg (h.list.map vW).toArray, .slice a 64 c] [B] (.agg ((takeW h b).list.map vW).toArray) [B] := by
 haveI : RdSl a (vUs b) [B] := ⟨⟨B, sh, .here⟩⟩
 have hvl : (vUs b).length = 64 := by simp [vUs, hb]
 refine Sp.body (n := 177) Tryz.call49 Tryz.func49 rfl rfl rfl ?_
 refine Qc (k:=Zx [_, _, _, _, _] (k:=fun b2 => Zc [.int .u32 0, .int .u32 0, .int .u32 0, .int .u32 0, .int .u32 0] (k:=fun b4 => Wq (Qc (k:=Zc [.int .u32 0, .int .u32 0, .int .u32 0, .int .u32 0, .int .u32 0, .int .u32 0, .int .u32 0, .int .u32 0, .int .u32 0, .int .u32 0, .int .u32 0, .int .u32 0, .int .u32 0, .int .u32 0, .int .u32 0, .int .u32 0, .int .u32 0, .int .u32 0, .int .u32 0, .int .u32 0, .int .u32 0, .int .u32 0, .int .u32 0, .int .u32 0, .int .u32 0, .int .u32 0, .int .u32 0, .int .u32 0, .int .u32 0, .int .u32 0, .int .u32 0, .int .u32 0, .int .u32 0, .int .u32 0, .int .u32 0, .int .u32 0, .int .u32 0, .int .u32 0, .int .u32 0, .int .u32 0, .int .u32 0, .int .u32 0, .int .u32 0, .int .u32 0, .int .u32 0, .int .u32 0, .int .u32 0, .int .u32 0, .int .u32 0, .int .u32 0, .int .u32 0, .int .u32 0, .int .u32 0, .int .u32 0, .int .u32 0, .int .u32 0, .int .u32 0, .int .u32 0, .int .u32 0, .int .u32 0, .int .u32 0, .int .u32 0, .int .u32 0, .int .u32 0, .int .u32 0, .int .u32 0, .int .u32 0, .int .u32 0, .int .u32 0, .int .u32 0, .int .u32 0, .int .u32 0, .int .u32 0, .int .u32 0, .int .u32 0, .int .u32 0, .int .u32 0, .int .u32 0, .int .u32 0, .int .u32 0] (k:=fun b5 => Wq (Za (k:=Qc (k:=?_)))))))))
 refine Vv (k:=Wq (Zb (k:=?_)))
 refine p_loop (fun (i : { j : Nat // j ≤ 16 }) => [(1, .slice a 64 c), (2, .pointer (some ⟨b2, 0, none⟩)), (4, .pointer (some ⟨b4, 0, none⟩)), (5, .pointer (some ⟨b5, 0, none⟩)), (14, vI i.1)]) (fun (i : { j : Nat // j ≤ 16 }) => [Ce b5 162 ((spreadL b i.1 ++ List.replicate (80 - i.1) 0).map vW), Ce b2 95 (h.list.map vW), Ce b4 95 ((List.replicate 5 (0 : UInt32)).map vW), B]) (fun (i : { j : Nat // j ≤ 16 }) => 16 - i.1) rfl (⟨0, Nat.zero_le _⟩) ?_ ?_ (fun i => ?_)
 · exact ⟨rfl, rfl, rfl, rfl, rfl, trivial⟩
 ·
  exact ent_step (ce_norm (by rfl) (by rfl)) (ent_step (ce_norm (by rfl) (by rfl)) (ent_step (ce_norm (by rfl) (by rfl)) ent_pick))
 obtain ⟨j, hj⟩ := i
 dsimp only
 have hsp := spreadL_len b j
 try dsimp only
 refine Qc (k:=Vv (k:=Wq (Za (k:=Zi (t:=fun h15 => ?_) (f:=fun h15 => ?_)))))
 ·
  refine Zk (k:=Ya (Za (k:=Zb (k:=Qc (k:=Qv (k:=Wq (Dw [B] (k:=?_))))))))
  refine Dv 0 (k:=Dv 1 (k:=Dv 2 (k:=Dv 3 (k:=?_))))
  refine d_first 4 rfl rfl rfl (by kernel_rfl) (by kernel_rfl) (tl_elemAddr (sz := 1) (m := 4 * j) Tryz.underlying56 ti5 rfl rfl rfl (by omega) (by omega) (by omega) (Nat.mul_one _)) ?_
  refine d_first 5 rfl rfl rfl (by kernel_rfl) (by kernel_rfl) (tl_eload Tryz.underlying5 rfl rfl (vUs_get (by omega))) ?_
  refine d_first 6 rfl rfl rfl (by kernel_rfl) (by kernel_rfl) (tl_pv (pv_convW rfl Tryz.underlying5 Tryz.underlying94)) ?_
  refine d_first 7 rfl rfl rfl (by kernel_rfl) (by kernel_rfl) (tl_pv (pv_shlW (m := 24) rfl rfl rfl (by omega))) ?_
  refine Dv 8 (k:=Dv 9 (k:=Dv 10 (k:=Dv 11 (k:=?_))))
  refine d_first 12 rfl rfl rfl (by kernel_rfl) (by kernel_rfl) (tl_elemAddr (sz := 1) (m := 4 * j + 1) Tryz.underlying56 ti5 rfl rfl rfl (by omega) (by omega) (by omega) (Nat.mul_one _)) ?_
  refine d_first 13 rfl rfl rfl (by kernel_rfl) (by kernel_rfl) (tl_eload Tryz.underlying5 rfl rfl (vUs_get (by omega))) ?_
  refine d_first 14 rfl rfl rfl (by kernel_rfl) (by kernel_rfl) (tl_pv (pv_convW rfl Tryz.underlying5 Tryz.underlying94)) ?_
  refine d_first 15 rfl rfl rfl (by kernel_rfl) (by kernel_rfl) (tl_pv (pv_shlW (m := 16) rfl rfl rfl (by omega))) ?_
  refine d_first 16 rfl rfl rfl (by kernel_rfl) (by kernel_rfl) (tl_pv (pv_orW rfl rfl)) ?_
  refine Dv 17 (k:=Dv 18 (k:=Dv 19 (k:=Dv 20 (k:=?_))))
  refine d_first 21 rfl rfl rfl (by kernel_rfl) (by kernel_rfl) (tl_elemAddr (sz := 1) (m := 4 * j + 2) Tryz.underlying56 ti5 rfl rfl rfl (by omega) (by omega) (by omega) (Nat.mul_one _)) ?_
  refine d_first 22 rfl rfl rfl (by kernel_rfl) (by kernel_rfl) (tl_eload Tryz.underlying5 rfl rfl (vUs_get (by omega))) ?_
  refine d_first 23 rfl rfl rfl (by kernel_rfl) (by kernel_rfl) (tl_pv (pv_convW rfl Tryz.underlying5 Tryz.underlying94)) ?_
  refine d_first 24 rfl rfl rfl (by kernel_rfl) (by kernel_rfl) (tl_pv (pv_shlW (m := 8) rfl rfl rfl (by omega))) ?_
  refine d_first 25 rfl rfl rfl (by kernel_rfl) (by kernel_rfl) (tl_pv (pv_orW rfl rfl)) ?_
  refine Dv 26 (k:=Dv 27 (k:=Dv 28 (k:=Dv 29 (k:=?_))))
  refine d_first 30 rfl rfl rfl (by kernel_rfl) (by kernel_rfl) (tl_elemAddr (sz := 1) (m := 4 * j + 3) Tryz.underlying56 ti5 rfl rfl rfl (by omega) (by omega) (by omega) (Nat.mul_one _)) ?_
  refine d_first 31 rfl rfl rfl (by kernel_rfl) (by kernel_rfl) (tl_eload Tryz.underlying5 rfl rfl (vUs_get (by omega))) ?_
  refine d_first 32 rfl rfl rfl (by kernel_rfl) (by kernel_rfl) (tl_pv (pv_convW rfl Tryz.underlying5 Tryz.underlying94)) ?_
  refine d_first 33 rfl rfl rfl (by kernel_rfl) (by kernel_rfl) (tl_pv (pv_orW rfl rfl)) ?_
  refine d_first 34 rfl rfl rfl (by kernel_rfl) (by kernel_rfl) (tl_pv (pv_aindex1 Tryz.underlying162 ti94 rfl rfl rfl (by first | rfl | omega) (by omega))) ?_
  refine Dn 35 (k:=No (k:=Dd (k:=Yb (Ya (Zr (k:=Qv (k:=Wn ?_)))))))
  refine to_inv ⟨j + 1, by omega⟩ (by dsimp only; omega) ⟨rfl, rfl, rfl, rfl, rfl, trivial⟩ ?_
  dsimp only
  rw [← sp_set (b := b) (j := j) (by omega) (blkW b j) (by rw [if_pos (by omega)])]
  exact ent_step (ce_norm (by rfl) (by rw [List.map_set]; rfl)) ent_pick
 ·
  refine Ze (k:=Xa (Xi (Xb (Ya (Za (k:=Qc (k:=Vv (k:=Wq (Zb (k:=?_))))))))))
  refine p_loop (fun (i : { j : Nat // 16 ≤ j ∧ j ≤ 80 }) => [(2, .pointer (some ⟨b2, 0, none⟩)), (4, .pointer (some ⟨b4, 0, none⟩)), (5, .pointer (some ⟨b5, 0, none⟩)), (7, vI i.1)]) (fun (i : { j : Nat // 16 ≤ j ∧ j ≤ 80 }) => [Ce b5 162 ((spreadL b i.1 ++ List.replicate (80 - i.1) 0).map vW), Ce b2 95 (h.list.map vW), Ce b4 95 ((List.replicate 5 (0 : UInt32)).map vW), B]) (fun (i : { j : Nat // 16 ≤ j ∧ j ≤ 80 }) => 80 - i.1) rfl (⟨16, by omega, by omega⟩) ?_ ?_ (fun i => ?_)
  · exact ⟨rfl, rfl, rfl, rfl, trivial⟩
  ·
   have hj16 : j = 16 := by omega
   subst hj16
   exact ent_pick
  obtain ⟨m, hm1, hm2⟩ := i
  dsimp only
  have hsl : (spreadL b m ++ List.replicate (80 - m) (0 : UInt32)).length = 80 := by rw [List.length_append, spreadL_len, List.length_replicate]; omega
  have hsp := spreadL_len b m
  try dsimp only
  refine Za (k:=Qc (k:=Qv (k:=Wq (Zi (t:=fun h54 => ?_) (f:=fun h54 => ?_)))))
  ·
   refine Zk (k:=Ya (Za (k:=Zb (k:=Dw [Ce b5 162 ((spreadL b m ++ List.replicate (80 - m) 0).map vW)] (k:=?_)))))
   refine Dv 0 (k:=Dv 1 (k:=Dv 2 (k:=?_)))
   refine d_first 3 rfl rfl rfl (by kernel_rfl) (by kernel_rfl) (tl_pv (pv_aindex1 (m := m - 3) Tryz.underlying162 ti94 rfl rfl rfl (by omega) (by omega))) ?_
   refine d_first 4 rfl rfl rfl (by kernel_rfl) (by kernel_rfl) (tl_load Tryz.underlying94 rfl rfl ((vW_getD (m := m - 3) (by omega)).trans (by rw [sp_get (by omega) (by omega)]))) ?_
   refine Dv 5 (k:=Dv 6 (k:=?_))
   refine d_first 7 rfl rfl rfl (by kernel_rfl) (by kernel_rfl) (tl_pv (pv_aindex1 (m := m - 8) Tryz.underlying162 ti94 rfl rfl rfl (by omega) (by omega))) ?_
   refine d_first 8 rfl rfl rfl (by kernel_rfl) (by kernel_rfl) (tl_load Tryz.underlying94 rfl rfl ((vW_getD (m := m - 8) (by omega)).trans (by rw [sp_get (by omega) (by omega)]))) ?_
   refine d_first 9 rfl rfl rfl (by kernel_rfl) (by kernel_rfl) (tl_pv (pv_xorW rfl rfl)) ?_
   refine Dv 10 (k:=Dv 11 (k:=?_))
   refine d_first 12 rfl rfl rfl (by kernel_rfl) (by kernel_rfl) (tl_pv (pv_aindex1 (m := m - 14) Tryz.underlying162 ti94 rfl rfl rfl (by omega) (by omega))) ?_
   refine d_first 13 rfl rfl rfl (by kernel_rfl) (by kernel_rfl) (tl_load Tryz.underlying94 rfl rfl ((vW_getD (m := m - 14) (by omega)).trans (by rw [sp_get (by omega) (by omega)]))) ?_
   refine d_first 14 rfl rfl rfl (by kernel_rfl) (by kernel_rfl) (tl_pv (pv_xorW rfl rfl)) ?_
   refine Dv 15 (k:=Dv 16 (k:=?_))
   refine d_first 17 rfl rfl rfl (by kernel_rfl) (by kernel_rfl) (tl_pv (pv_aindex1 (m := m - 16) Tryz.underlying162 ti94 rfl rfl rfl (by omega) (by omega))) ?_
   refine d_first 18 rfl rfl rfl (by kernel_rfl) (by kernel_rfl) (tl_load Tryz.underlying94 rfl rfl ((vW_getD (m := m - 16) (by omega)).trans (by rw [sp_get (by omega) (by omega)]))) ?_
   refine d_first 19 rfl rfl rfl (by kernel_rfl) (by kernel_rfl) (tl_pv (pv_xorW rfl rfl)) ?_
   refine Dn 20 (k:=?_)
   refine an_callF (ref1_turn_sp _ 1 (.inl rfl)) rfl rfl rfl ?_
   refine d_first 21 rfl rfl rfl (by kernel_rfl) (by kernel_rfl) (tl_pv (pv_aindex1 Tryz.underlying162 ti94 rfl rfl rfl (by first | rfl | omega) (by omega))) ?_
   refine d_last 22 (by kernel_rfl) rfl (by kernel_rfl) (by kernel_rfl) ?_
   refine No (k:=Yb (Ya (Zr (k:=Qv (k:=Vv (k:=Wn ?_))))))
   refine to_inv ⟨m + 1, by omega, by omega⟩ (by dsimp only; omega) ⟨rfl, rfl, rfl, rfl, trivial⟩ ?_
   dsimp only
   rw [← sp_set (b := b) (j := m) (by omega) (nextW (spreadL b m) m) (by rw [if_neg (by omega)])]
   exact ent_step (ce_norm (by rfl) (by rw [List.map_set]; rfl)) ent_pick
  ·
   refine Ze (k:=Xa (Xi (Xb (Ya (Za (k:=?_))))))
   have hm80 : m = 80 := by omega
   subst hm80
   rw [Nat.sub_self, List.replicate_zero, List.append_nil]
   have htk : takeW h b = (let s := roundsW (spreadL b 80) h 80; ⟨h.a + s.a, h.b + s.b, h.c + s.c, h.d + s.d, h.e + s.e⟩) := rfl
   generalize spreadL b 80 = ws at hsp htk ⊢
   refine Zr (k:=Zm [_, _, _, _, _] (k:=Zc [.int .u32 0, .int .u32 0, .int .u32 0, .int .u32 0, .int .u32 0] (k:=fun b8 => Zp (k:=Wq (Za (k:=Qc (k:=Vv (k:=Wq (Zb (k:=?_))))))))))
   refine p_loop (fun (i : { j : Nat // j ≤ 80 }) => [(2, .pointer (some ⟨b2, 0, none⟩)), (4, .pointer (some ⟨b4, 0, none⟩)), (5, .pointer (some ⟨b5, 0, none⟩)), (8, .pointer (some ⟨b8, 0, none⟩)), (80, vI i.1)]) (fun (i : { j : Nat // j ≤ 80 }) => [Ce b8 95 ((roundsW ws h i.1).list.map vW), Ce b5 162 (ws.map vW), Ce b2 95 (h.list.map vW), Ce b4 95 ((List.replicate 5 (0 : UInt32)).map vW), B]) (fun (i : { j : Nat // j ≤ 80 }) => 80 - i.1) rfl (⟨0, Nat.zero_le _⟩) ?_ ?_ (fun i => ?_)
   · exact ⟨rfl, rfl, rfl, rfl, rfl, trivial⟩
   ·
    exact ent_step (ce_norm (by rfl) (by rfl)) ent_pick
   obtain ⟨q, hq⟩ := i
   dsimp only
   try dsimp only
   refine Qc (k:=Vv (k:=Wq (Za (k:=Zi (t:=fun h81 => ?_) (f:=fun h81 => ?_)))))
   ·
    refine Zk (k:=Ya (Za (k:=Zb (k:=Za (k:=?_)))))
    obtain ⟨s, hs⟩ : ∃ s, s = roundsW ws h q := ⟨_, rfl⟩
    have hs2 : roundsW ws h (q + 1) = roundW ws q s := by rw [hs]; rfl
    rw [← hs]
    have hsl5 : s.list.length = 5 := rfl
    have hmx : mixW q s.b s.c s.d = if q / 20 = 0 then ((s.b &&& s.c) ||| (~~~s.b &&& s.d), 0x5a827999) else if q / 20 = 1 then (s.b ^^^ s.c ^^^ s.d, 0x6ed9eba1) else if q / 20 = 2 then ((s.b &&& s.c) ||| (s.b &&& s.d) ||| (s.c &&& s.d), 0x8f1bbcdc) else (s.b ^^^ s.c ^^^ s.d, 0xca62c1d6) := rfl
    refine Zr (k:=Qv (k:=Wq (Qc (k:=?_))))
    refine wo_pv (pv_aindex1 (m := 1) Tryz.underlying95 ti94 rfl rfl rfl (by first | rfl | omega) (by omega)) rfl ?_
    refine Zd (k:=?_)
    refine wo_pv (pv_aindex1 (m := 2) Tryz.underlying95 ti94 rfl rfl rfl (by first | rfl | omega) (by omega)) rfl ?_
    refine Zd (k:=?_)
    refine wo_pv (pv_andW rfl rfl) rfl ?_
    refine wo_pv (pv_aindex1 (m := 1) Tryz.underlying95 ti94 rfl rfl rfl (by first | rfl | omega) (by omega)) rfl ?_
    refine Zd (k:=?_)
    refine wo_pv (pv_notW rfl) rfl ?_
    refine wo_pv (pv_aindex1 (m := 3) Tryz.underlying95 ti94 rfl rfl rfl (by first | rfl | omega) (by omega)) rfl ?_
    refine Zd (k:=?_)
    refine wo_pv (pv_andW rfl rfl) rfl ?_
    refine wo_pv (pv_orW rfl rfl) rfl ?_
    refine Qv (k:=Wq ?_)
    refine p_cut (fun (u : Unit) => [(2, .pointer (some ⟨b2, 0, none⟩)), (4, .pointer (some ⟨b4, 0, none⟩)), (5, .pointer (some ⟨b5, 0, none⟩)), (8, .pointer (some ⟨b8, 0, none⟩)), (9, vI q), (10, vW (mixW q s.b s.c s.d).1), (11, vW (mixW q s.b s.c s.d).2), (80, vI q)]) (fun (u : Unit) => [Ce b8 95 (s.list.map vW), Ce b5 162 (ws.map vW), Ce b2 95 (h.list.map vW), Ce b4 95 ((List.replicate 5 (0 : UInt32)).map vW), B]) rfl (fun u => ?_) ?_
    ·
     try dsimp only
     refine Za (k:=Dw [Ce b8 95 (s.list.map vW), Ce b5 162 (ws.map vW)] (k:=?_))
     refine d_first 0 rfl rfl rfl (by kernel_rfl) (by kernel_rfl) (tl_pv (pv_aindex1 (m := 0) Tryz.underlying95 ti94 rfl rfl rfl (by first | rfl | omega) (by omega))) ?_
     refine Di 1 (t:=Ul) (k:=Dv 3 (k:=?_))
     refine d_first 5 rfl rfl rfl (by kernel_rfl) (by kernel_rfl) (tl_pv (pv_aindex1 (m := 4) Tryz.underlying95 ti94 rfl rfl rfl (by first | rfl | omega) (by omega))) ?_
     refine Di 6 (t:=Ul) (k:=Dv 8 (k:=Dv 10 (k:=?_)))
     refine d_first 11 rfl rfl rfl (by kernel_rfl) (by kernel_rfl) (tl_pv (pv_aindex1 Tryz.underlying162 ti94 rfl rfl rfl (by first | rfl | omega) (by omega))) ?_
     refine d_first 12 rfl rfl rfl (by kernel_rfl) (by kernel_rfl) (tl_load Tryz.underlying94 rfl rfl (vW_getD (m := q) (by omega))) ?_
     refine Dn 2 (k:=?_)
     refine an_callF (ref1_turn_sp _ 5 (.inr (.inl rfl))) rfl rfl rfl ?_
     refine d_first 4 rfl rfl rfl (by kernel_rfl) (by kernel_rfl) (tl_pv (pv_addW rfl rfl)) ?_
     refine d_first 7 rfl rfl rfl (by kernel_rfl) (by kernel_rfl) (tl_pv (pv_addW rfl rfl)) ?_
     refine d_first 9 rfl rfl rfl (by kernel_rfl) (by kernel_rfl) (tl_pv (pv_addW rfl rfl)) ?_
     refine d_first 13 rfl rfl rfl (by kernel_rfl) (by kernel_rfl) (tl_pv (pv_addW rfl rfl)) ?_
     refine Dv 14 (k:=Dd (k:=Ya (Dw [Ce b8 95 (s.list.map vW)] (k:=?_))))
     refine Dv 0 (k:=?_)
     refine d_first 1 rfl rfl rfl (by kernel_rfl) (by kernel_rfl) (tl_pv (pv_aindex1 (m := 0) Tryz.underlying95 ti94 rfl rfl rfl (by first | rfl | omega) (by omega))) ?_
     refine Di 2 (t:=Ul) (k:=?_)
     refine d_first 3 rfl rfl rfl (by kernel_rfl) (by kernel_rfl) (tl_pv (pv_aindex1 (m := 1) Tryz.underlying95 ti94 rfl rfl rfl (by first | rfl | omega) (by omega))) ?_
     refine Di 4 (t:=Ul) (k:=?_)
     refine d_first 6 rfl rfl rfl (by kernel_rfl) (by kernel_rfl) (tl_pv (pv_aindex1 (m := 2) Tryz.underlying95 ti94 rfl rfl rfl (by first | rfl | omega) (by omega))) ?_
     refine Di 7 (t:=Ul) (k:=?_)
     refine d_first 8 rfl rfl rfl (by kernel_rfl) (by kernel_rfl) (tl_pv (pv_aindex1 (m := 3) Tryz.underlying95 ti94 rfl rfl rfl (by first | rfl | omega) (by omega))) ?_
     refine Di 9 (t:=Ul) (k:=Dn 5 (k:=?_))
     refine an_callF (ref1_turn_sp _ 30 (.inr (.inr rfl))) rfl rfl rfl ?_
     refine d_first 10 rfl rfl rfl (by kernel_rfl) (by kernel_rfl) (tl_pv (pv_buildA (vs := [_, _, _, _, _]) Tryz.underlying95 ti94 rfl rfl rfl ti95 rfl rfl)) ?_
     refine d_last 11 (by kernel_rfl) rfl (by kernel_rfl) (by kernel_rfl) ?_
     refine Na (k:=Yb (Ya (Zr (k:=Qv (k:=Wn ?_)))))
     refine to_inv ⟨q + 1, by omega⟩ (by dsimp only; omega) ⟨rfl, rfl, rfl, rfl, rfl, trivial⟩ ?_
     dsimp only
     rw [hs2]
     exact ent_step (ce_norm (by rfl) (by rfl)) ent_pick
    ·
     refine Zb (k:=Qc (k:=Qv (k:=Vv (k:=Wq (Zi (t:=fun h95 => ?_) (f:=fun h95 => ?_))))))
     ·
      refine Zr (k:=?_)
      refine wo_pv (pv_aindex1 (m := 1) Tryz.underlying95 ti94 rfl rfl rfl (by first | rfl | omega) (by omega)) rfl ?_
      refine Zd (k:=?_)
      refine wo_pv (pv_aindex1 (m := 2) Tryz.underlying95 ti94 rfl rfl rfl (by first | rfl | omega) (by omega)) rfl ?_
      refine Zd (k:=?_)
      refine wo_pv (pv_xorW rfl rfl) rfl ?_
      refine wo_pv (pv_aindex1 (m := 3) Tryz.underlying95 ti94 rfl rfl rfl (by first | rfl | omega) (by omega)) rfl ?_
      refine Zd (k:=?_)
      refine wo_pv (pv_xorW rfl rfl) rfl ?_
      refine Qv (k:=Wn (Yb ?_))
      exact zb49join22
     ·
      refine Qc (k:=Qv (k:=Vv (k:=Wq (Zi (t:=fun h106 => ?_) (f:=fun h106 => ?_)))))
      ·
       refine Zr (k:=?_)
       refine wo_pv (pv_aindex1 (m := 1) Tryz.underlying95 ti94 rfl rfl rfl (by first | rfl | omega) (by omega)) rfl ?_
       refine Zd (k:=?_)
       refine wo_pv (pv_aindex1 (m := 2) Tryz.underlying95 ti94 rfl rfl rfl (by first | rfl | omega) (by omega)) rfl ?_
       refine Zd (k:=?_)
       refine wo_pv (pv_andW rfl rfl) rfl ?_
       refine wo_pv (pv_aindex1 (m := 1) Tryz.underlying95 ti94 rfl rfl rfl (by first | rfl | omega) (by omega)) rfl ?_
       refine Zd (k:=?_)
       refine wo_pv (pv_aindex1 (m := 3) Tryz.underlying95 ti94 rfl rfl rfl (by first | rfl | omega) (by omega)) rfl ?_
       refine Zd (k:=?_)
       refine wo_pv (pv_andW rfl rfl) rfl ?_
       refine wo_pv (pv_orW rfl rfl) rfl ?_
       refine wo_pv (pv_aindex1 (m := 2) Tryz.underlying95 ti94 rfl rfl rfl (by first | rfl | omega) (by omega)) rfl ?_
       refine Zd (k:=?_)
       refine wo_pv (pv_aindex1 (m := 3) Tryz.underlying95 ti94 rfl rfl rfl (by first | rfl | omega) (by omega)) rfl ?_
       refine Zd (k:=?_)
       refine wo_pv (pv_andW rfl rfl) rfl ?_
       refine wo_pv (pv_orW rfl rfl) rfl ?_
       refine Qv (k:=Wn (Yb ?_))
       exact zb49join22
      ·
       refine Qc (k:=Qv (k:=Vv (k:=Wq (Zi (t:=fun h126 => ?_) (f:=fun h126 => ?_)))))
       ·
        refine Zr (k:=?_)
        refine wo_pv (pv_aindex1 (m := 1) Tryz.underlying95 ti94 rfl rfl rfl (by first | rfl | omega) (by omega)) rfl ?_
        refine Zd (k:=?_)
        refine wo_pv (pv_aindex1 (m := 2) Tryz.underlying95 ti94 rfl rfl rfl (by first | rfl | omega) (by omega)) rfl ?_
        refine Zd (k:=?_)
        refine wo_pv (pv_xorW rfl rfl) rfl ?_
        refine wo_pv (pv_aindex1 (m := 3) Tryz.underlying95 ti94 rfl rfl rfl (by first | rfl | omega) (by omega)) rfl ?_
        refine Zd (k:=?_)
        refine wo_pv (pv_xorW rfl rfl) rfl ?_
        refine Qv (k:=Wn (Yb ?_))
        exact zb49join22
       ·
        refine Zk (k:=Yb ?_)
        exact zb49join22
   ·
    refine Ze (k:=Xa (Xi (Xb (Ya (Za (k:=Za (k:=?_)))))))
    have hq80 : q = 80 := by omega
    subst hq80
    obtain ⟨s, hs⟩ : ∃ s, s = roundsW ws h 80 := ⟨_, rfl⟩
    dsimp only at htk
    rw [← hs] at htk ⊢
    have hh5 : h.list.length = 5 := rfl
    have hs5 : s.list.length = 5 := rfl
    refine Zr (k:=Vv (k:=Wq (Zb (k:=?_))))
    refine p_loop (fun (i : { m : Nat // m ≤ 5 }) => [(2, .pointer (some ⟨b2, 0, none⟩)), (4, .pointer (some ⟨b4, 0, none⟩)), (8, .pointer (some ⟨b8, 0, none⟩)), (163, vI i.1)]) (fun (i : { m : Nat // m ≤ 5 }) => [Ce b2 95 ((addL h.list s.list i.1).map vW), Ce b8 95 (s.list.map vW), Ce b4 95 ((List.replicate 5 (0 : UInt32)).map vW), B]) (fun (i : { m : Nat // m ≤ 5 }) => 5 - i.1) rfl (⟨0, Nat.zero_le _⟩) ?_ ?_ (fun i => ?_)
    · exact ⟨rfl, rfl, rfl, rfl, trivial⟩
    ·
     exact ent_step (ce_norm (by rfl) (by rfl)) ent_pick
    obtain ⟨m, hm⟩ := i
    dsimp only
    have hal := addL_len (h := h.list) (s := s.list) (i := m) rfl hm
    try dsimp only
    refine Qc (k:=Vv (k:=Wq (Za (k:=Zi (t:=fun h164 => ?_) (f:=fun h164 => ?_)))))
    ·
     refine Zk (k:=Ya (Za (k:=Zb (k:=Qc (k:=Qv (k:=Wq (Dw [Ce b8 95 (s.list.map vW)] (k:=?_))))))))
     refine Dv 0 (k:=Dv 1 (k:=?_))
     refine d_first 2 rfl rfl rfl (by kernel_rfl) (by kernel_rfl) (tl_pv (pv_aindex1 Tryz.underlying95 ti94 rfl rfl rfl (by first | rfl | omega) (by omega))) ?_
     refine Dv 4 (k:=?_)
     refine d_first 5 rfl rfl rfl (by kernel_rfl) (by kernel_rfl) (tl_pv (pv_aindex1 Tryz.underlying95 ti94 rfl rfl rfl (by first | rfl | omega) (by omega))) ?_
     refine d_first 6 rfl rfl rfl (by kernel_rfl) (by kernel_rfl) (tl_load Tryz.underlying94 rfl rfl (vW_getD (m := m) (by omega))) ?_
     refine Dn 3 (k:=?_)
     refine an_load Tryz.underlying94 rfl rfl ((vW_getD (m := m) (by omega)).trans (by rw [addL_get (hh5.trans hs5.symm) (by omega)])) rfl ?_
     refine d_first 7 rfl rfl rfl (by kernel_rfl) (by kernel_rfl) (tl_pv (pv_addW rfl rfl)) ?_
     refine d_first 8 rfl rfl rfl (by kernel_rfl) (by kernel_rfl) (tl_pv (pv_aindex1 Tryz.underlying95 ti94 rfl rfl rfl (by first | rfl | omega) (by omega))) ?_
     refine Dn 9 (k:=No (k:=Dd (k:=Yb (Ya (Zr (k:=Qv (k:=Wn ?_)))))))
     refine to_inv ⟨m + 1, by omega⟩ (by dsimp only; omega) ⟨rfl, rfl, rfl, rfl, trivial⟩ ?_
     dsimp only
     rw [← addL_set (hh5.trans hs5.symm) (by omega)]
     exact ent_step (ce_norm (by rfl) (by rw [List.map_set])) ent_pick
    ·
     refine Ze (k:=Xa (Xi (Xb (Ya (Za (k:=?_))))))
     have hm5 : m = 5 := by omega
     subst hm5
     have hfin : addL h.list s.list 5 = (takeW h b).list := by rw [htk]; rfl
     rw [hfin]
     generalize takeW h b = tk
     refine Zr (k:=Zm [_, _, _, _, _] (k:=Zp (k:=Wq (Zt (k:=?_)))))
     refine fin_ret () (vs := [_]) (Cs := [Ce b4 95 (tk.list.map vW)]) rfl (.cell (l := tk.list.map vW) (us := tk.list.map vW) rfl (shows_ce (T := 95)) Tryz.underlying95 rfl ti95 (Nat.le_refl 5) rfl .nil) rfl trivial ?_
     exact (ce_norm (b := b4) (l := tk.list.map vW) (T := 95) (by rfl) (by rfl)).trans ent_pick
end
section
section
variable {P : Program}
theorem run_store_cez {w : World} {b off : Nat} {T : TypeId} {l : List Value} {v : Value} {fz : Nat × Nat} (hb : w.heap[b]? = some (.cells l.toArray T fz)) (hz : l.length ≤ fz.1) (h1 : oneCell v = true) (ho : off < l.length) :
    (store ⟨b, off, none⟩ v).run P w = .ok () (w.setCell ⟨b, off, none⟩ v) := by
 have hc : w.cell? ⟨b, off, none⟩ = some l[off] := by simp [World.cell?, hb, ho]
 obtain ⟨lo, hi⟩ := fz
 dsimp only at hz
 have hf : w.frozen? ⟨b, off, none⟩ = false := by
  simp [World.frozen?, hb]; omega
 cases v <;> simp_all [store, Sem.run, oneCell]
theorem setCell_atz {w : World} {b off : Nat} {T : TypeId} {l : List Value} {v : Value} {fz : Nat × Nat} (hb : w.heap[b]? = some (.cells l.toArray T fz)) :
    (w.setCell ⟨b, off, none⟩ v).heap[b]? = some (.cells (l.set off v).toArray T fz) := by
 simp [World.setCell, Array.getElem?_modify, hb]
theorem run_storeCells_cez {b T : Nat} {fz : Nat × Nat} : ∀ (vs : List Value) (w : World) (l : List Value) (off i : Nat), w.heap[b]? = some (.cells l.toArray T fz) → l.length ≤ fz.1 → vs.all oneCell = true → off + i + vs.length ≤ l.length →
    ∃ w', (storeCells ⟨b, off, none⟩ vs i).run P w = .ok () w' ∧ w'.heap[b]? = some (.cells (setAt l (off + i) vs).toArray T fz) ∧ (∀ j, j ≠ b → w'.heap[j]? = w.heap[j]?) ∧ Env w w' := by
 intro vs
 induction vs with
 | nil => intro w l off i hb _ _ _; exact ⟨w, by simp [storeCells], hb, fun _ _ => rfl, Env.refl w⟩
 | cons v vs ih =>
   intro w l off i hb hz h1 hl
   simp only [List.all_cons, Bool.and_eq_true] at h1
   simp only [List.length_cons] at hl
   have hst := run_store_cez (P := P) (off := off + i) hb hz h1.1 (by omega)
   obtain ⟨w', hr, hb', ho', he'⟩ := ih (w.setCell ⟨b, off + i, none⟩ v) (l.set (off + i) v) off (i + 1) (setCell_atz hb) (by simpa using hz) h1.2 (by simp; omega)
   refine ⟨w', ?_, hb', fun j hj => (ho' j hj).trans (setCell_other hj), (env_setCell _ _ _).trans he'⟩
   simp only [storeCells, Sem.run_bind, addr_add, hst, Result.andThen_ok]
   exact hr
end
/-- A slice of bytes that is one's own, in a block that may bear a mark behind its cells. -/
def RowZAt (v : Value) (n : Nat) (xs : List Value) (e : TypeId) (M : Kn) (h : Res) : Prop :=
 ∃ g cap cur fz, v = .slice (some ⟨g, 0, none⟩) n cap ∧ n ≤ cap ∧ cap ≤ maxLen ∧ List.length cur = cap ∧ xs.length = n ∧ cur.take n = xs ∧ (fz = (0, 0) ∨ cap ≤ fz.1) ∧ h = Res.one g (.cells cur.toArray e fz)
def RowZ (e : TypeId) (v : Value) (n : Nat) (xs : List Value) : HP := ⟨RowZAt v n xs e, fun _ e => e⟩
theorem sla_rowz {e : TypeId} {k n c : Nat} {a : Option Addr} {xs : List Value} : SlA (RowZ e (.slice a n c) k xs) a xs := fun x => by
 obtain ⟨g, cap, cur, fz, h1, h2, h3, h4, h5, h6, h7, h8⟩ := x
 cases h1
 exact .inr ⟨g, 0, cur, e, fz, rfl, .inr (by rw [h8]; exact Res.one_same _ _), by rw [List.drop_zero, h5]; exact h6⟩
instance (priority := 1000) {e : TypeId} {k n c : Nat} {a : Option Addr} {xs : List Value} {r : List HP} : RdSl a xs (RowZ e (.slice a n c) k xs :: r) := ⟨⟨_, sla_rowz, .here⟩⟩
section
variable {r : Option Nat} {P : Program} {n : Nat} {ops : Array Oper} {os : List Oper} {L : Loc} {Hs : List HP} {Q : Out} {ty : TypeId} {d : Nat} {pos : String} {after : Array Edge}
theorem r_s2b {src dt e : TypeId} {x : Operand} {s : Bs} (hs : P.underlying src = some .string) (ht : P.underlying dt = some (.slice e)) (he : P.underlying e = some (.int .u8)) (hx : ev L x = some (vS s)) (hl : s.length ≤ maxLen) (hd : Nat.blt d n = true)
    (K : ∀ b cap, wo r P n ops os ((d, .slice (some ⟨b, 0, none⟩) s.length cap) :: L) (RowZ e (.slice (some ⟨b, 0, none⟩) s.length cap) s.length (vUs s) :: Hs) Q) : wo r P n ops (⟨some d, .convert src dt x, ty, pos, after, none⟩ :: os) L Hs Q := by
 intro a M m st w hf dj t
 have hsz : (⟨s.toArray⟩ : ByteArray).size = s.length := rfl
 have hge := grownCap_ge w s.length 0 e
 have hcm : grownCap w s.length 0 e ≤ maxLen := grownCap_le_maxLen w s.length 0 e hl
 have hrow : bytesRow ⟨s.toArray⟩ (grownCap w s.length 0 e) = (vUs s ++ List.replicate (grownCap w s.length 0 e - s.length) (vU 0)).toArray := by
  apply Array.ext'
  simp [bytesRow, vUs, hsz]
 have hrl : (vUs s ++ List.replicate (grownCap w s.length 0 e - s.length) (vU 0)).length = grownCap w s.length 0 e := by simp [vUs]; omega
 have hrun : (execOp a.eval ⟨some d, .convert src dt x, ty, pos, after, none⟩).run P w = .ok (.value (.slice (some ⟨w.heap.size, 0, none⟩) s.length (grownCap w s.length 0 e))) (w.drew.alloc (.cells (vUs s ++ List.replicate (grownCap w s.length 0 e - s.length) (vU 0)).toArray e (grownCap w s.length 0 e, grownCap w s.length 0 e + 1))) := by
  have h1 := run_bytes_of_string (P := P) w src dt e ⟨s.toArray⟩ hs ht he
  rw [hsz, hrow] at h1
  simp only [List.size_toArray, hrl] at h1
  simp only [execOp, st.1.ev hx, Sem.run_bind]
  rw [show (vS s) = Value.string ⟨s.toArray⟩ from rfl, h1]; rfl
 simp only [wpL, Region.wanted, if_true]
 rw [Oper.semAt_eq _ _ _ (by intro c; simp), hrun]
 generalize hcap : grownCap w s.length 0 e = cap at *
 generalize hcells : vUs s ++ List.replicate (cap - s.length) (vU 0) = cur at *
 have t2 := t.drew.alloc (.cells cur.toArray e (cap, cap + 1))
 obtain ⟨f1, f2⟩ := fresh_none t.drew
 obtain ⟨f3, f4⟩ := Res.add_none.1 f2
 rw [← Res.add_assoc] at t2
 refine K w.heap.size cap _ M ((Res.one w.heap.size (.cells cur.toArray e (cap, cap + 1))).add m) ⟨st.1.put hd, ?_⟩ _ hf (Res.dj_add_left.2 ⟨one_dj f4, dj⟩) t2
 obtain ⟨g1, g2, dg, e1, y, s2⟩ := st.2
 subst e1
 obtain ⟨f5, f6⟩ := Res.add_none.1 f3
 have hvl : (vUs s).length = s.length := by simp [vUs]
 have htk : cur.take s.length = vUs s := by rw [← hcells]; exact List.take_left' hvl
 replace f5 : g1 w.heap.size = none := f5
 replace f6 : g2 w.heap.size = none := f6
 exact ⟨g1, (Res.one w.heap.size _).add g2, Res.dj_add_right.2 ⟨Res.dj_comm (one_dj f5), dg⟩, by rw [← Res.add_assoc, Res.add_comm (one_dj f5), Res.add_assoc], y,
  Res.one w.heap.size _, g2, one_dj f6, rfl, ⟨w.heap.size, cap, cur, (cap, cap + 1), rfl, hge, hcm, hrl, by simp [vUs], htk, .inr (Nat.le_refl _), rfl⟩, s2⟩
end
end
section
/-- append(s, x...) where s may bear a mark behind its cells. -/
theorem run_append_rowz {P : Program} {t ty e : TypeId} {i : TypeInfo} {z : Value} (ht : P.underlying t = some (.slice e)) (hi : P.info? e = some i) (hz : i.zero = some z) (hzs : z.cells.size = i.size) (hsz : i.size = 1)
    {v : Value} {k : Nat} {xs : List Value} {w : World} {M : Kn} {h hf : Res} (dj : h.dj hf) (s : Sat w M (h.add hf)) (hr : RowZAt v k xs e M h)
    {a : Addr} {m c : Nat} {news : List Value} (hl : news.length = m) (hnews : ∀ j u, news[j]? = some u → w.cell? (a.add j) = some u) (h1 : ∀ u ∈ news, oneCell u = true)
    (hbytes : (k + m) * i.bytes ≤ 140737488355328) (h63 : k + m ≤ maxLen) :
    ∃ v' w' h', (Builtin.append_ #[t, t] ty #[v, .slice (some a) m c]).run P w = .ok v' w' ∧ h'.dj hf ∧ Sat w' M (h'.add hf) ∧ RowZAt v' (k + m) (xs ++ news) e M h' := by
 have h1' : ∀ u ∈ news, u.oneCell' = true := fun u hu => oneCell_iff.1 (h1 u hu)
 have hsmall : k + m ≤ 9223372036854775807 := by simp only [maxLen] at h63; omega
 have hl1 : news.length = m * i.size := by rw [hsz, Nat.mul_one]; exact hl
 obtain ⟨g, cap, cur, fz, rfl, hkc, hcm, hcl, hxl, htake, hfz, rfl⟩ := hr
 have hg : w.heap[g]? = some (.cells cur.toArray e fz) := s.ow _ _ (by simp [Res.add, Res.one])
 by_cases hroom : k + m ≤ cap
 · have hst : ∃ w', (storeCells ⟨g, k, none⟩ news 0).run P w = .ok () w' ∧ w'.heap[g]? = some (.cells (setAt cur k news).toArray e fz) ∧ (∀ j, j ≠ g → w'.heap[j]? = w.heap[j]?) ∧ Env w w' := by
     rcases hfz with rfl | hfz
     · have := run_storeCells_ce (P := P) (b := g) (T := e) news w cur k 0 hg (List.all_eq_true.2 h1) (by omega)
       simpa using this
     · have := run_storeCells_cez (P := P) (b := g) (T := e) news w cur k 0 hg (by omega) (List.all_eq_true.2 h1) (by omega)
       simpa using this
   obtain ⟨w', hr, hb', ho', he'⟩ := hst
   have hfc := run_firstCells_some (P := P) w i.size m a m c news hl1 hnews
   rw [hsz] at hfc
   refine ⟨.slice (some ⟨g, 0, none⟩) (k + m) cap, w', Res.one g (.cells (setAt cur k news).toArray e fz), ?_, dj_one_any dj, Sat.setBlk dj s hb' ho' he', ⟨g, cap, setAt cur k news, fz, rfl, hroom, hcm, by rw [length_setAt]; exact hcl, by simp [hxl, hl], ?_, hfz, rfl⟩⟩
   · simp [Builtin.append_, run_underlying ht, sizeOf, typeInfo, hi, Builtin.lenOf, hroom, hfc, Addr.add_lit, hsz, hr]
   · have hcur : cur = xs ++ ((cur.drop k).take m ++ cur.drop (k + m)) := by
       rw [← htake, ← List.drop_drop, List.take_append_drop, List.take_append_drop]
     have hm := setAt_mid news xs ((cur.drop k).take m) (cur.drop (k + m)) (by rw [List.length_take, List.length_drop]; omega)
     rw [← hcur, hxl] at hm
     rw [hm, ← List.append_assoc]
     exact List.take_left' (by simp [hxl, hl])
 · have holds : ∀ j u, xs[j]? = some u → w.cell? ((⟨g, 0, none⟩ : Addr).add j) = some u := by
     intro j u hj
     have hlt := (List.getElem?_eq_some_iff.1 hj).1
     rw [addr_add, Nat.zero_add]
     simp only [World.cell?, hg]
     rw [← htake, List.getElem?_take_of_lt (by omega)] at hj
     simpa using hj
   have hr := run_append_grow (P := P) w t ty e i z ht hi hz ⟨g, 0, none⟩ k cap xs (by rw [hsz, Nat.mul_one]; exact hxl) holds a m c news hl1 hnews (by omega) (by omega) (growslice_fits (by omega) hbytes)
   have hge := grownCap_ge w (k + m) cap e
   have hcm2 : grownCap w (k + m) cap e ≤ maxLen := grownCap_le_maxLen w (k + m) cap e h63
   have s2 := s.drew.alloc (.cells (xs.toArray ++ news.toArray ++ Builtin.zeroCells z.cells (grownCap w (k + m) cap e - (k + m))) e)
   obtain ⟨f1, f2⟩ := fresh_none s.drew
   obtain ⟨f3, f4⟩ := Res.add_none.1 f2
   refine ⟨_, _, Res.one w.heap.size (.cells (xs.toArray ++ news.toArray ++ Builtin.zeroCells z.cells (grownCap w (k + m) cap e - (k + m))) e), hr, one_dj f4, s2.le ?_, ⟨w.heap.size, _, xs ++ news ++ (Builtin.zeroCells z.cells (grownCap w (k + m) cap e - (k + m))).toList, (0, 0), rfl, hge, hcm2, ?_, ?_, ?_, .inl rfl, ?_⟩⟩
   · intro b o e'
     simp only [Res.add] at e' ⊢
     show (match Res.one w.heap.size _ b with | some o => some o | none => _) = _
     cases eb : Res.one w.heap.size (Obj.cells (xs.toArray ++ news.toArray ++ Builtin.zeroCells z.cells (grownCap w (k + m) cap e - (k + m))) e) b with
     | some u => rw [eb] at e'; simpa using e'
     | none =>
       rw [eb] at e'
       rcases dj b with x | x
       · simpa [x] using e'
       · have e2 : hf b = some o := e'
         rw [x] at e2; cases e2
   · simp only [List.length_append, Array.length_toList, size_zeroCells, hzs, hxl, hl, hsz]; omega
   · simp [hxl, hl]
   · have : (xs ++ news).length = k + m := by simp [hxl, hl]
     exact List.take_left' this
   · congr 2
     apply Array.ext'
     simp
section
variable {r : Option Nat} {P : Program} {n : Nat} {ops : Array Oper} {os : List Oper} {A : List HP} {L : Loc} {Hs : List HP} {Q : Out} {ty : TypeId} {d : Nat} {pos : String} {after : Array Edge}
theorem opt_appendZ {dst : Option Tmp} {t e : TypeId} {x y : Operand} {i : TypeInfo} {z : Value} (ht : P.underlying t = some (.slice e)) (hi : P.info? e = some i) (hz : i.zero = some z) (hzs : Nat.beq z.cells.size i.size = true) (hsz : i.size = 1) {bytes : Nat} (hby : i.bytes = bytes)
    {v : Value} {k : Nat} {xs : List Value} {b off m c : Nat} {l news : List Value} {B : HP} (hx : ev L x = some v) (hy : ev L y = some (.slice (some ⟨b, off, none⟩) m c)) (sh : Shows B b l)
    (hl : news.length = m) (hnews : (l.drop off).take m = news) (h1 : news.all oneCell = true)
    (hbytes : (k + m) * bytes ≤ 140737488355328) (h63 : k + m ≤ maxLen) :
    OpT r P n ⟨dst, .call ⟨.builtin .append, #[x, y], #[t, t]⟩, ty, pos, after, none⟩ A L [RowZ e v k xs, B] (fun v' => v') (fun v' => ∃ a c, v' = .slice a (k + m) c) (fun v' => [RowZ e v' (k + m) (xs ++ news), B]) := by
 subst hby
 intro a f w M h hA hf dj dj' s sA t'
 obtain ⟨g1, g2, dg, e1, hrow, s2⟩ := s
 obtain ⟨g3, g4, dg2, e2, hB, _⟩ := s2
 subst e2; subst e1
 obtain ⟨d1, d2⟩ := Res.dj_add_right.1 dg
 obtain ⟨d3, d4⟩ := Res.dj_add_left.1 dj
 obtain ⟨d5, d6⟩ := Res.dj_add_left.1 dj'
 obtain ⟨d7, d8⟩ := Res.dj_add_left.1 d5
 have eq : ((g1.add (g3.add g4)).add hA).add hf = g1.add (((g3.add g4).add hA).add hf) := by simp only [Res.add_assoc]
 rw [eq] at t'
 have hcell : ∀ j u, news[j]? = some u → w.cell? ((⟨b, off, none⟩ : Addr).add j) = some u := by
  intro j u hj
  have hle : g3.le (((g3.add g4).add hA).add hf) := fun i o e => by simp [Res.add, e]
  have t2 : Sat w M ((((g3.add g4).add hA).add hf).add Res.emp) := by
   rw [Res.add_emp]
   exact t'.le (Res.le_add_right (Res.dj_add_right.2 ⟨Res.dj_add_right.2 ⟨dg, d3⟩, d7⟩))
  rw [addr_add, shows_cell sh t2 hle hB (off + j), ← drop_get]
  have hlt := (List.getElem?_eq_some_iff.1 hj).1
  rw [← hnews, List.getElem?_take_of_lt (by omega)] at hj
  exact hj
 obtain ⟨v', w', h', hr, djn, sn, rn⟩ := run_append_rowz (P := P) ht hi hz (Nat.eq_of_beq_eq_true hzs) hsz (hf := ((g3.add g4).add hA).add hf) (Res.dj_add_right.2 ⟨Res.dj_add_right.2 ⟨dg, d3⟩, d7⟩) t' hrow hl hcell (fun u hu => List.all_eq_true.1 h1 u hu) hbytes h63 (ty := ty) (c := c)
 have hrun : (execOp a.eval ⟨dst, .call ⟨.builtin .append, #[x, y], #[t, t]⟩, ty, pos, after, none⟩).run P w = .ok (.value v') w' := by
  simp [execOp, resolve, f.ev hx, f.ev hy, invoke, builtin, hr]
 rw [hrun]
 obtain ⟨y1, y2⟩ := Res.dj_add_right.1 djn
 obtain ⟨y3, y4⟩ := Res.dj_add_right.1 y1
 have hsl : ∃ a c, v' = .slice a (k + m) c := by obtain ⟨g, cap, cur, fz, h, _⟩ := rn; exact ⟨_, _, h⟩
 refine ⟨v', M, h'.add (g3.add g4), rfl, hsl, Kn.le_refl _, Res.dj_add_left.2 ⟨y4, d4⟩, Res.dj_add_left.2 ⟨Res.dj_add_left.2 ⟨y2, d8⟩, d6⟩, ?_, h', g3.add g4, y3, rfl, rn, g3, g4, dg2, rfl, hB, trivial⟩
 have eq2 : ((h'.add (g3.add g4)).add hA).add hf = h'.add (((g3.add g4).add hA).add hf) := by simp only [Res.add_assoc]
 rw [eq2]; exact sn
end
end
end Go.Proofs.YtdnoacgopfcpbaaGreat
